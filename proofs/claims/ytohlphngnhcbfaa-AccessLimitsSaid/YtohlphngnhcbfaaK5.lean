/- The weight of a range: the program. -/
import Derived.Test.YtohlphngnhcbfaaK4
import Derived.Test.YtohlphngnhcbfaaK2
namespace Go.Proofs.Ytohlphngnhcbfaa
open Go.EG
attribute [local irreducible] CallK QCall Go.Calls
set_option linter.unusedSimpArgs false
set_option linter.unusedVariables false
set_option maxRecDepth 20000
set_option maxHeartbeats 2000000

theorem Ref.unpackU {w0 : World} {fp0 : List Nat} {L : List Ent} {key : Nat} {fp : List Nat} {f : Unit → List Ent} : Ref w0 fp0 (packE key fp f :: L) (f () ++ L) := fun w hR => by
  obtain ⟨x, _, h⟩ := hR.unpack
  exact h
section
attribute [local semireducible] CallK
theorem CallK_pre {P : Program} {w0 : World} {fp0 : List Nat} {L L' : List Ent} {f : FuncId} {args : List Value} {k : SV → List Ent → Prop} (href : Ref w0 fp0 L L') (h : CallK P w0 fp0 f args L' k) : CallK P w0 fp0 f args L k := fun w hR => h w (href w hR)
end
theorem Ref.pick {w0 : World} {fp0 : List Nat} {L Lr : List Ent} {e : Ent} (key : Nat) (h : pickE key L = some (e, Lr)) : Ref w0 fp0 L (e :: Lr) := Ref.perm (pickE_perm h)

theorem calls_join (s t : List Nat) (h : s.length + t.length ≤ LM) (w : World) : Calls Try.prog fn_access_join #[wtV s, wtV t] w fun e w' => e = .returned (wtV (s ++ t)) ∧ Ext w w' := by
  refine pure_call [.v (wtV s), .v (wtV t)] w ok_access_join (by simp) ?_
  have c4 := calls_dJoin s t
  have e1 := lines_append s t
  have e2 := head_append s t
  have e3 := tail_append s t
  have b1 := fit_lines s
  have b2 := fit_lines t
  have z1 : linesN s = 0 → headN s = s.length ∧ tailN s = s.length := fun h => ⟨head_zero h, tail_zero h⟩
  have z2 : linesN t = 0 → headN t = t.length ∧ tailN t = t.length := fun h => ⟨head_zero h, tail_zero h⟩
  have l1 : linesN s ≤ s.length := List.count_le_length
  have l2 : linesN t ≤ t.length := List.count_le_length
  unfold LM at h
  unfold wtV at *
  unfold digV at c4
  rw [List.length_append, e1, e2, e3]
  generalize valN (s ++ t) = v at *
  generalize scaleN (s ++ t) = sc at *
  clear e1 e2 e3
  generalize s.length = n at *
  generalize t.length = n' at *
  generalize linesN s = l at *
  generalize linesN t = l' at *
  generalize headN s = hd at *
  generalize headN t = hd' at *
  generalize tailN s = tl at *
  generalize tailN t = tl' at *
  (repeat' ((conv => whnf); first | (first | refine CallK_pure (.v _) (fun w hR => c4 w) ?_ | refine QCall_pure (.v _) (fun w hR => c4 w) ?_) | (refine bcase_prop (fun h => ?_) (fun h => ?_) <;> try (exfalso; omega)) | (refine bcase_nprop (fun h => ?_) (fun h => ?_) <;> try (exfalso; omega)) | (refine bcase_intro (fun h => ?_) (fun h => ?_) <;> (try simp only [Bool.not_eq_true', Bool.not_eq_false', decide_eq_true_eq, decide_eq_false_iff_not, Bool.not_eq_true, Bool.not_eq_false, Decidable.not_not] at h)) | refine And.intro (by first | omega | exact rfl | assumption | exact ⟨rfl, rfl, rfl, rfl, rfl⟩ | exact ⟨rfl, rfl, rfl, rfl⟩ | exact ⟨rfl, by omega⟩ | exact oneAll_of rfl | exact ⟨rfl, oneAll_of rfl⟩ | exact Ref.refl _ | exact Thin.ref (.skip (Thin.refl _)) | exact Thin.ref (.skip (.skip (Thin.refl _))) | exact ⟨rfl, Nat.le_of_ble_eq_true rfl⟩ | ((try unfold maxLen); (try simp only [List.length_nil, List.length_cons, List.length_append]); omega) | (refine ⟨rfl, ?_⟩; (try simp only [List.length_nil, List.length_cons, List.length_append]); omega)) ?_ | intro _)); (all_goals (conv => whnf))
  all_goals (refine ⟨?_⟩)
  all_goals (try rw [if_pos (by omega : l = 0)]) 
  all_goals (try rw [if_neg (by omega : ¬ l = 0)])
  all_goals (try rw [if_pos (by omega : l' = 0)])
  all_goals (try rw [if_neg (by omega : ¬ l' = 0)])
  all_goals exact rfl

abbrev wtC (t : List Nat) : List Value := [.int .i64 t.length, .int .i64 (linesN t), .int .i64 (headN t), .int .i64 (tailN t), .int .u64 (valN t), .int .u64 (scaleN t)]
/-- What the sum's visitor writes: the boxes of the store's pointer and of the sum. -/
def fW (b bs bw : Nat) (acc : List Nat) : Unit → List Ent := fun _ => [.box 4 bs [pS b] ty_P_intern_Store, .box 13 bw (wtC acc) ty_api_Weight]
theorem visW (b : Nat) (S : Sto) (hw : WF S) (bs bw N : Nat) (hN : N ≤ LM) : VisOk S b N fn_access_Weight_1 [pS bs, pS bw] (fW b bs bw) := by
  intro acc x k h1 h2 h3 h4 fp1 fp2 w hR
  replace hR := (Ref.unpackU w hR : R _ _ ([.box 4 bs [pS b] ty_P_intern_Store, .box 13 bw (wtC acc) ty_api_Weight] ++ _) w)
  refine part_call [.v (.int .i64 x), .v (.int .i64 k), .ptr 4 bs 0, .ptr 13 bw 0] ok_access_Weight_1 (by simp) hR ?_
  have hsm := hw.small
  have c1 := calls_SWeight b S x hsm
  rw [wtRes_ok ⟨by omega, h2⟩] at c1
  have hl := hw.le h2
  rw [List.length_append, rep_length] at h4
  have hkl : k ≤ k * (tm S.E x).txt.length ∨ (tm S.E x).txt.length = 0 := by
    rcases Nat.eq_zero_or_pos (tm S.E x).txt.length with h | h
    · exact .inr h
    · exact .inl (Nat.le_mul_of_pos_right k h)
  have hpos := hw.pos1 h1 h2
  by_cases hk : k = 1
  · subst hk
    have c3 := calls_join acc (tm S.E x).txt (by omega)
    rw [rep_one]
    (repeat' ((conv => whnf); first | refine ⟨.v _, ⟨rfl, trivial⟩, ?_⟩ | (refine CallK_pack (key := 77) rfl (fun w hR h0 => c1 _ _ _ h0) ?_; rintro _ _ ⟨rfl, fp', rfl⟩; refine ⟨.v _, rfl, ?_⟩) | (first | refine CallK_pure (.v _) (fun w hR => c3 w) ?_ | refine QCall_pure (.v _) (fun w hR => c3 w) ?_) | (refine bcase_prop (fun h => ?_) (fun h => ?_) <;> try (exfalso; omega)) | (refine bcase_nprop (fun h => ?_) (fun h => ?_) <;> try (exfalso; omega)) | (refine bcase_intro (fun h => ?_) (fun h => ?_) <;> (try simp only [Bool.not_eq_true', Bool.not_eq_false', decide_eq_true_eq, decide_eq_false_iff_not, Bool.not_eq_true, Bool.not_eq_false, Decidable.not_not] at h)) | refine And.intro (by first | omega | exact rfl | assumption | exact ⟨rfl, rfl, rfl, rfl, rfl⟩ | exact ⟨rfl, rfl, rfl, rfl⟩ | exact ⟨rfl, by omega⟩ | exact oneAll_of rfl | exact ⟨rfl, oneAll_of rfl⟩ | exact Ref.refl _ | exact Thin.ref (.skip (Thin.refl _)) | exact Thin.ref (.skip (.skip (Thin.refl _))) | exact ⟨rfl, Nat.le_of_ble_eq_true rfl⟩ | ((try unfold maxLen); (try simp only [List.length_nil, List.length_cons, List.length_append]); omega) | (refine ⟨rfl, ?_⟩; (try simp only [List.length_nil, List.length_cons, List.length_append]); omega)) ?_ | intro _)); (all_goals (conv => whnf))
    refine ⟨[packE 90 (fps (fW b bs bw (acc ++ (tm S.E x).txt) ())) (fW b bs bw (acc ++ (tm S.E x).txt)), packE 77 fp' (fS b S)], ?_, rfl, _, _, rfl⟩
    exact (Thin.ref (.skip (.keep rfl (fun _ h => h) (.keep rfl (fun _ h => h) (.keep rfl (fun _ h => h) (.nil _))))) : Ref _ _ _ [packE 77 fp' (fS b S), .box 4 bs [pS b] ty_P_intern_Store, .box 13 bw (wtC (acc ++ (tm S.E x).txt)) ty_api_Weight]).trans ((Ref.perm (.trans (.swap _ _ _) (.cons _ (.swap _ _ _)))).trans (Ref.packs (f := fW b bs bw (acc ++ (tm S.E x).txt)) () (Thin.refl _)))
  · have hk2 : k ≤ LM := by
      rcases hkl with h | h
      · omega
      · unfold Tm.len at hpos; omega
    have c2 := calls_wRepeat (tm S.E x).txt k (by unfold LM at hk2; omega) (by rw [Nat.mul_comm]; omega) hl
    have c3 := calls_join acc (rep k (tm S.E x).txt) (by rw [rep_length]; omega)
    unfold LM at hk2
    (repeat' ((conv => whnf); first | refine ⟨.v _, ⟨rfl, trivial⟩, ?_⟩ | (refine CallK_pack (key := 77) rfl (fun w hR h0 => c1 _ _ _ h0) ?_; rintro _ _ ⟨rfl, fp', rfl⟩; refine ⟨.v _, rfl, ?_⟩) | (first | refine CallK_pure (.v _) (fun w hR => c2 w) ?_ | refine QCall_pure (.v _) (fun w hR => c2 w) ?_) | (first | refine CallK_pure (.v _) (fun w hR => c3 w) ?_ | refine QCall_pure (.v _) (fun w hR => c3 w) ?_) | (refine bcase_prop (fun h => ?_) (fun h => ?_) <;> try (exfalso; omega)) | (refine bcase_nprop (fun h => ?_) (fun h => ?_) <;> try (exfalso; omega)) | (refine bcase_intro (fun h => ?_) (fun h => ?_) <;> (try simp only [Bool.not_eq_true', Bool.not_eq_false', decide_eq_true_eq, decide_eq_false_iff_not, Bool.not_eq_true, Bool.not_eq_false, Decidable.not_not] at h)) | refine And.intro (by first | omega | exact rfl | assumption | exact ⟨rfl, rfl, rfl, rfl, rfl⟩ | exact ⟨rfl, rfl, rfl, rfl⟩ | exact ⟨rfl, by omega⟩ | exact oneAll_of rfl | exact ⟨rfl, oneAll_of rfl⟩ | exact Ref.refl _ | exact Thin.ref (.skip (Thin.refl _)) | exact Thin.ref (.skip (.skip (Thin.refl _))) | exact ⟨rfl, Nat.le_of_ble_eq_true rfl⟩ | ((try unfold maxLen); (try simp only [List.length_nil, List.length_cons, List.length_append]); omega) | (refine ⟨rfl, ?_⟩; (try simp only [List.length_nil, List.length_cons, List.length_append]); omega)) ?_ | intro _)); (all_goals (conv => whnf))
    refine ⟨[packE 90 (fps (fW b bs bw (acc ++ rep k (tm S.E x).txt) ())) (fW b bs bw (acc ++ rep k (tm S.E x).txt)), packE 77 fp' (fS b S)], ?_, rfl, _, _, rfl⟩
    exact (Thin.ref (.skip (.keep rfl (fun _ h => h) (.keep rfl (fun _ h => h) (.keep rfl (fun _ h => h) (.nil _))))) : Ref _ _ _ [packE 77 fp' (fS b S), .box 4 bs [pS b] ty_P_intern_Store, .box 13 bw (wtC (acc ++ rep k (tm S.E x).txt)) ty_api_Weight]).trans ((Ref.perm (.trans (.swap _ _ _) (.cons _ (.swap _ _ _)))).trans (Ref.packs (f := fW b bs bw (acc ++ rep k (tm S.E x).txt)) () (Thin.refl _)))

def wgRes (S : Sto) (n i m : Int) : Value := if known S n ∧ 0 ≤ i ∧ 0 ≤ m ∧ i ≤ (tm S.E n).len ∧ m ≤ (tm S.E n).len - i then .tuple #[wtV (sub (tm S.E n).txt i.toNat m.toNat), .nilIface] else .tuple #[wt0, errV 1]
theorem calls_AWeight (b : Nat) (S : Sto) (hw : WF S) (n i m : Int) : SC fn_access_Weight #[pS b, .int .i64 n, .int .i64 i, .int .i64 m] b S S (wgRes S n i m) := by
  intro key fp w hR
  refine part_call [.v (pS b), .v (.int .i64 n), .v (.int .i64 i), .v (.int .i64 m)] ok_access_Weight (by simp) (hR.key 77) ?_
  have hsm := hw.small
  have c0 := calls_SWeight b S n hsm
  unfold wtRes at c0
  unfold wgRes
  by_cases hk : known S n
  case neg =>
    rw [if_neg hk] at c0
    rw [if_neg (fun h => hk h.1)]
    (repeat' ((conv => whnf); first | refine ⟨.v _, ⟨rfl, trivial⟩, ?_⟩ | (refine CallK_pack (key := 77) rfl (fun w hR h0 => c0 _ _ _ h0) ?_; rintro _ _ ⟨rfl, fp', rfl⟩; refine ⟨.v _, rfl, ?_⟩) | (refine bcase_prop (fun h => ?_) (fun h => ?_) <;> try (exfalso; omega)) | (refine bcase_nprop (fun h => ?_) (fun h => ?_) <;> try (exfalso; omega)) | (refine bcase_intro (fun h => ?_) (fun h => ?_) <;> (try simp only [Bool.not_eq_true', Bool.not_eq_false', decide_eq_true_eq, decide_eq_false_iff_not, Bool.not_eq_true, Bool.not_eq_false, Decidable.not_not] at h)) | refine And.intro (by first | omega | exact rfl | assumption | exact ⟨rfl, rfl, rfl, rfl, rfl⟩ | exact ⟨rfl, rfl, rfl, rfl⟩ | exact ⟨rfl, by omega⟩ | exact oneAll_of rfl | exact ⟨rfl, oneAll_of rfl⟩ | exact Ref.refl _ | exact Thin.ref (.skip (Thin.refl _)) | exact Thin.ref (.skip (.skip (Thin.refl _))) | exact ⟨rfl, Nat.le_of_ble_eq_true rfl⟩ | ((try unfold maxLen); (try simp only [List.length_nil, List.length_cons, List.length_append]); omega) | (refine ⟨rfl, ?_⟩; (try simp only [List.length_nil, List.length_cons, List.length_append]); omega)) ?_ | intro _)); (all_goals (conv => whnf))
    exact ⟨endP (by (repeat (first | exact Thin.nil _ | exact Thin.refl _ | refine Thin.keep rfl (fun _ h => h) ?_ | refine Thin.skip ?_))) rfl⟩
  rw [if_pos hk] at c0
  have hlen := hw.le hk.2
  have c1 := calls_lRange i m (tm S.E n).txt.length hlen
  unfold rangeRes at c1
  by_cases hi : 0 ≤ i ∧ 0 ≤ m ∧ i ≤ (tm S.E n).len ∧ m ≤ (tm S.E n).len - i
  case neg =>
    rw [if_neg (fun h => hi h.2)]
    have hi' : ¬ (0 ≤ i ∧ 0 ≤ m ∧ i ≤ ((tm S.E n).txt.length : Nat) ∧ m ≤ ((tm S.E n).txt.length : Nat) - i) := hi
    rw [if_neg hi'] at c1
    (repeat' ((conv => whnf); first | refine ⟨.v _, ⟨rfl, trivial⟩, ?_⟩ | (refine CallK_pack (key := 77) rfl (fun w hR h0 => c0 _ _ _ h0) ?_; rintro _ _ ⟨rfl, fp', rfl⟩; refine ⟨.v _, rfl, ?_⟩) | (first | refine CallK_pure (.v _) (fun w hR => c1 w) ?_ | refine QCall_pure (.v _) (fun w hR => c1 w) ?_) | (refine bcase_prop (fun h => ?_) (fun h => ?_) <;> try (exfalso; omega)) | (refine bcase_nprop (fun h => ?_) (fun h => ?_) <;> try (exfalso; omega)) | (refine bcase_intro (fun h => ?_) (fun h => ?_) <;> (try simp only [Bool.not_eq_true', Bool.not_eq_false', decide_eq_true_eq, decide_eq_false_iff_not, Bool.not_eq_true, Bool.not_eq_false, Decidable.not_not] at h)) | refine And.intro (by first | omega | exact rfl | assumption | exact ⟨rfl, rfl, rfl, rfl, rfl⟩ | exact ⟨rfl, rfl, rfl, rfl⟩ | exact ⟨rfl, by omega⟩ | exact oneAll_of rfl | exact ⟨rfl, oneAll_of rfl⟩ | exact Ref.refl _ | exact Thin.ref (.skip (Thin.refl _)) | exact Thin.ref (.skip (.skip (Thin.refl _))) | exact ⟨rfl, Nat.le_of_ble_eq_true rfl⟩ | ((try unfold maxLen); (try simp only [List.length_nil, List.length_cons, List.length_append]); omega) | (refine ⟨rfl, ?_⟩; (try simp only [List.length_nil, List.length_cons, List.length_append]); omega)) ?_ | intro _)); (all_goals (conv => whnf))
    exact ⟨endP (by (repeat (first | exact Thin.nil _ | exact Thin.refl _ | refine Thin.keep rfl (fun _ h => h) ?_ | refine Thin.skip ?_))) rfl⟩
  rw [if_pos ⟨hk, hi⟩]
  have hi' : 0 ≤ i ∧ 0 ≤ m ∧ i ≤ ((tm S.E n).txt.length : Nat) ∧ m ≤ ((tm S.E n).txt.length : Nat) - i := hi
  rw [if_pos hi'] at c1
  have c2 := calls_wUnit
  obtain ⟨j, rfl⟩ := Int.eq_ofNat_of_zero_le hi.1
  obtain ⟨p, rfl⟩ := Int.eq_ofNat_of_zero_le hi.2.1
  have c3 := fun bs bw => calls_parts b S hw n j p hk (by omega) fn_access_Weight_1 [pS bs, pS bw] (fW b bs bw) p (Nat.le_refl p) rfl (visW b S hw bs bw p (by unfold Tm.len LM at *; omega))
  rw [Int.toNat_natCast, Int.toNat_natCast]
  (repeat' ((conv => whnf); first | refine ⟨.v _, ⟨rfl, trivial⟩, ?_⟩ | (refine CallK_pack (key := 77) rfl (fun w hR h0 => c0 _ _ _ h0) ?_; rintro _ _ ⟨rfl, fp', rfl⟩; refine ⟨.v _, rfl, ?_⟩) | (first | refine CallK_pure (.v _) (fun w hR => c1 w) ?_ | refine QCall_pure (.v _) (fun w hR => c1 w) ?_) | (first | refine CallK_pure (.v _) (fun w hR => c2 w) ?_ | refine QCall_pure (.v _) (fun w hR => c2 w) ?_)  | (refine bcase_prop (fun h => ?_) (fun h => ?_) <;> try (exfalso; omega)) | (refine bcase_nprop (fun h => ?_) (fun h => ?_) <;> try (exfalso; omega)) | (refine bcase_intro (fun h => ?_) (fun h => ?_) <;> (try simp only [Bool.not_eq_true', Bool.not_eq_false', decide_eq_true_eq, decide_eq_false_iff_not, Bool.not_eq_true, Bool.not_eq_false, Decidable.not_not] at h)) | refine And.intro (by first | omega | exact rfl | assumption | exact ⟨rfl, rfl, rfl, rfl, rfl⟩ | exact ⟨rfl, rfl, rfl, rfl⟩ | exact ⟨rfl, by omega⟩ | exact oneAll_of rfl | exact ⟨rfl, oneAll_of rfl⟩ | exact Ref.refl _ | exact Thin.ref (.skip (Thin.refl _)) | exact Thin.ref (.skip (.skip (Thin.refl _))) | exact ⟨rfl, Nat.le_of_ble_eq_true rfl⟩ | ((try unfold maxLen); (try simp only [List.length_nil, List.length_cons, List.length_append]); omega) | (refine ⟨rfl, ?_⟩; (try simp only [List.length_nil, List.length_cons, List.length_append]); omega)) ?_ | intro _)); (all_goals (conv => whnf))
  refine CallK_pre ((Thin.ref (.keep rfl (fun _ h => h) (.skip (.keep rfl (fun _ h => h) (.keep rfl (fun _ h => h) (.keep rfl (fun _ h => h) (.nil _)))))) : Ref _ _ _ [.box 13 _ (wtC []) ty_api_Weight, packE 77 fp' (fS b S), .box 8 _ _ ty_api_Weight, .box 4 _ [pS b] ty_P_intern_Store]).trans (Ref.perm (List.perm_append_comm (l₁ := [_, _, _]) (l₂ := [_])))) ?_
  refine CallK_pre (Ref.packs (key := 90) (f := fW b _ _ []) () (.keep rfl (fun _ h => h) (.keep rfl (fun _ h => h) (Thin.refl _)))) ?_
  refine CallK_post ?_
  refine CallK_pack2 (key1 := 90) (key2 := 77) rfl rfl (fun w hR h0 => c3 _ _ _ _ _ h0) ?_
  rintro _ _ ⟨rfl, fp1', fp2', rfl⟩
  refine ⟨.v _, rfl, _, Ref.unpackU, ?_⟩
  (repeat' ((conv => whnf); first | refine ⟨.v _, ⟨rfl, trivial⟩, ?_⟩ | (refine bcase_prop (fun h => ?_) (fun h => ?_) <;> try (exfalso; omega)) | (refine bcase_nprop (fun h => ?_) (fun h => ?_) <;> try (exfalso; omega)) | (refine bcase_intro (fun h => ?_) (fun h => ?_) <;> (try simp only [Bool.not_eq_true', Bool.not_eq_false', decide_eq_true_eq, decide_eq_false_iff_not, Bool.not_eq_true, Bool.not_eq_false, Decidable.not_not] at h)) | refine And.intro (by first | omega | exact rfl | assumption | exact ⟨rfl, rfl, rfl, rfl, rfl⟩ | exact ⟨rfl, rfl, rfl, rfl⟩ | exact ⟨rfl, by omega⟩ | exact oneAll_of rfl | exact ⟨rfl, oneAll_of rfl⟩ | exact Ref.refl _ | exact Thin.ref (.skip (Thin.refl _)) | exact Thin.ref (.skip (.skip (Thin.refl _))) | exact ⟨rfl, Nat.le_of_ble_eq_true rfl⟩ | ((try unfold maxLen); (try simp only [List.length_nil, List.length_cons, List.length_append]); omega) | (refine ⟨rfl, ?_⟩; (try simp only [List.length_nil, List.length_cons, List.length_append]); omega)) ?_ | intro _)); (all_goals (conv => whnf))
  exact ⟨endP (by (repeat (first | exact Thin.nil _ | exact Thin.refl _ | refine Thin.keep rfl (fun _ h => h) ?_ | refine Thin.skip ?_))) rfl⟩
end Go.Proofs.Ytohlphngnhcbfaa
/- Lines: the program. -/
namespace Go.Proofs.Ytohlphngnhcbfaa
open Go.EG
attribute [local irreducible] CallK QCall Go.Calls
set_option linter.unusedSimpArgs false
set_option linter.unusedVariables false
set_option maxRecDepth 20000
set_option maxHeartbeats 2000000

structure FeedG where
  id : Int
  i : Nat
  at_ : Nat
  fp : List Nat
theorem calls_feedAt (b : Nat) (S : Sto) (hw : WF S) (n : Int) (i : Nat) (hn1 : 1 ≤ n) (hn2 : n ≤ S.E.length) (hi : i < linesN (tm S.E n).txt) : SC fn_lines_feedAt #[pS b, .int .i64 n, .int .i64 i] b S S (.tuple #[.int .i64 (feedN (tm S.E n).txt i), .nilIface]) := by
  intro key fp w hR
  refine part_call [.v (pS b), .v (.int .i64 n), .v (.int .i64 i)] ok_lines_feedAt (by simp) (hR.key 77) ?_
  have hsm := hw.small
  have hF := (feed_lt hi).1
  have hFl := hw.le hn2
  have hFm : linesN (tm S.E n).txt ≤ (tm S.E n).txt.length := List.count_le_length
  unfold LM Tm.len at hFl
  generalize hFF : feedN (tm S.E n).txt i = F at *
  (repeat' ((conv => whnf); first | (refine bcase_prop (fun h => ?_) (fun h => ?_) <;> try (exfalso; omega)) | (refine bcase_nprop (fun h => ?_) (fun h => ?_) <;> try (exfalso; omega)) | (refine bcase_intro (fun h => ?_) (fun h => ?_) <;> (try simp only [Bool.not_eq_true', Bool.not_eq_false', decide_eq_true_eq, decide_eq_false_iff_not, Bool.not_eq_true, Bool.not_eq_false, Decidable.not_not] at h)) | refine And.intro (by first | omega | exact rfl | assumption | exact ⟨rfl, rfl, rfl, rfl, rfl⟩ | exact ⟨rfl, rfl, rfl, rfl⟩ | exact ⟨rfl, by omega⟩ | exact oneAll_of rfl | exact ⟨rfl, oneAll_of rfl⟩ | exact Ref.refl _ | exact Thin.ref (.skip (Thin.refl _)) | exact Thin.ref (.skip (.skip (Thin.refl _))) | exact ⟨rfl, Nat.le_of_ble_eq_true rfl⟩ | ((try unfold maxLen); (try simp only [List.length_nil, List.length_cons, List.length_append]); omega) | (refine ⟨rfl, ?_⟩; (try simp only [List.length_nil, List.length_cons, List.length_append]); omega)) ?_ | intro _)); (all_goals (conv => whnf))
  refine VC_loop FeedG (fun x => [(0, .v (pS b)), (1, .v (.int .i64 x.id)), (2, .v (.int .i64 x.i)), (8, .v (.int .i64 x.at_))]) (fun x => [packE 77 x.fp (fS b S)])
    (fun x => 1 ≤ x.id ∧ x.id ≤ S.E.length ∧ x.i < linesN (tm S.E x.id).txt ∧ x.at_ + feedN (tm S.E x.id).txt x.i = F) (fun x => x.id.toNat) ⟨n, i, 0, fp⟩ ⟨hn1, hn2, hi, by dsimp only; omega⟩ (by (repeat ((conv => whnf); refine And.intro (by first | exact rfl | exact vint_eq (by omega) | exact vint_eq (by (dsimp only; omega)) | exact vsl_eq (by omega) | exact vsl_eq (by first | (dsimp only; omega) | (simp; done) | (simp; omega))) ?_)); exact trivial) (Thin.ref (by (repeat (first | exact Thin.nil _ | exact Thin.refl _ | refine Thin.keep rfl (fun _ h => h) ?_ | refine Thin.skip ?_)))) ?_
  rintro ⟨m, j, at_, fpx⟩ ⟨h1, h2, h3, h4⟩
  dsimp only at h1 h2 h3 h4 ⊢
  have c1 := calls_Rule b S m hsm
  rw [ruleV_ok h1 h2] at c1
  have hlm := hw.le h2
  have hlm2 : linesN (tm S.E m).txt ≤ (tm S.E m).txt.length := List.count_le_length
  have hlet := (hw.at_ h1 h2).2.1
  unfold LM Tm.len at hlm
  have h7 : j ≤ 1152921504606846976 := by omega
  rcases hw.below h1 h2 with ⟨hk1, ht⟩ | ⟨hk1, ht, a1, a2, b1, b2⟩ | ⟨hk1, ht, a1, a2, t2⟩
  · rw [ht] at h3 h4
    rw [Tm.txt, lines_cons] at h3
    have hz : linesN [] = 0 := rfl
    have hl : (atE S.E m).r.l.toNat = 10 := by
      by_cases h : (atE S.E m).r.l.toNat = 10
      · exact h
      · rw [if_neg h] at h3; omega
    rw [if_pos hl] at h3
    have hj : j = 0 := by omega
    subst hj
    have he : at_ = F := by
      rw [Tm.txt, feedN, if_pos hl, if_pos rfl] at h4; omega
    (repeat' ((conv => whnf); first | (refine CallK_pack (key := 77) rfl (fun w hR h0 => c1 _ _ _ h0) ?_; rintro _ _ ⟨rfl, fp', rfl⟩; refine ⟨.v _, rfl, ?_⟩) | (refine bcase_prop (fun h => ?_) (fun h => ?_) <;> try (exfalso; omega)) | (refine bcase_nprop (fun h => ?_) (fun h => ?_) <;> try (exfalso; omega)) | (refine bcase_intro (fun h => ?_) (fun h => ?_) <;> (try simp only [Bool.not_eq_true', Bool.not_eq_false', decide_eq_true_eq, decide_eq_false_iff_not, Bool.not_eq_true, Bool.not_eq_false, Decidable.not_not] at h)) | refine And.intro (by first | omega | exact rfl | assumption | exact ⟨rfl, rfl, rfl, rfl, rfl⟩ | exact ⟨rfl, rfl, rfl, rfl⟩ | exact ⟨rfl, by omega⟩ | exact oneAll_of rfl | exact ⟨rfl, oneAll_of rfl⟩ | exact Ref.refl _ | exact Thin.ref (.skip (Thin.refl _)) | exact Thin.ref (.skip (.skip (Thin.refl _))) | exact ⟨rfl, Nat.le_of_ble_eq_true rfl⟩ | ((try unfold maxLen); (try simp only [List.length_nil, List.length_cons, List.length_append]); omega) | (refine ⟨rfl, ?_⟩; (try simp only [List.length_nil, List.length_cons, List.length_append]); omega)) ?_ | intro _)); (all_goals (conv => whnf))
    exact ⟨endP (by (repeat (first | exact Thin.nil _ | exact Thin.refl _ | refine Thin.keep rfl (fun _ h => h) ?_ | refine Thin.skip ?_))) (by rw [he])⟩
  · have c2 := calls_SWeight b S (atE S.E m).r.a hsm
    rw [wtRes_ok ⟨by omega, by omega⟩] at c2
    have hp := hw.pos1 a1 (by omega)
    have hla := hw.le (n := (atE S.E m).r.a) (by omega)
    have hla2 : linesN (tm S.E (atE S.E m).r.a).txt ≤ (tm S.E (atE S.E m).r.a).txt.length := List.count_le_length
    unfold LM at hla; unfold Tm.len at hla hp
    rw [ht, Tm.txt, lines_append] at h3
    rw [ht, Tm.txt] at h4
    by_cases hlt : j < linesN (tm S.E (atE S.E m).r.a).txt
    · rw [feed_left _ hlt] at h4
      (repeat' ((conv => whnf); first | (refine CallK_pack (key := 77) rfl (fun w hR h0 => c1 _ _ _ h0) ?_; rintro _ _ ⟨rfl, fp', rfl⟩; refine ⟨.v _, rfl, ?_⟩) | (refine CallK_pack (key := 77) rfl (fun w hR h0 => c2 _ _ _ h0) ?_; rintro _ _ ⟨rfl, fp', rfl⟩; refine ⟨.v _, rfl, ?_⟩) | (refine bcase_prop (fun h => ?_) (fun h => ?_) <;> try (exfalso; omega)) | (refine bcase_nprop (fun h => ?_) (fun h => ?_) <;> try (exfalso; omega)) | (refine bcase_intro (fun h => ?_) (fun h => ?_) <;> (try simp only [Bool.not_eq_true', Bool.not_eq_false', decide_eq_true_eq, decide_eq_false_iff_not, Bool.not_eq_true, Bool.not_eq_false, Decidable.not_not] at h)) | refine And.intro (by first | omega | exact rfl | assumption | exact ⟨rfl, rfl, rfl, rfl, rfl⟩ | exact ⟨rfl, rfl, rfl, rfl⟩ | exact ⟨rfl, by omega⟩ | exact oneAll_of rfl | exact ⟨rfl, oneAll_of rfl⟩ | exact Ref.refl _ | exact Thin.ref (.skip (Thin.refl _)) | exact Thin.ref (.skip (.skip (Thin.refl _))) | exact ⟨rfl, Nat.le_of_ble_eq_true rfl⟩ | ((try unfold maxLen); (try simp only [List.length_nil, List.length_cons, List.length_append]); omega) | (refine ⟨rfl, ?_⟩; (try simp only [List.length_nil, List.length_cons, List.length_append]); omega)) ?_ | intro _)); (all_goals (conv => whnf))
      exact loop_next ⟨(atE S.E m).r.a, j, at_, fp'⟩ ⟨a1, by dsimp only; omega, hlt, h4⟩ (by ((try dsimp only); omega)) (by (repeat ((conv => whnf); refine And.intro (by first | exact rfl | exact vint_eq (by omega) | exact vint_eq (by (dsimp only; omega)) | exact vsl_eq (by omega) | exact vsl_eq (by first | (dsimp only; omega) | (simp; done) | (simp; omega))) ?_)); exact trivial) (Thin.ref (by (repeat (first | exact Thin.nil _ | exact Thin.refl _ | refine Thin.keep rfl (fun _ h => h) ?_ | refine Thin.skip ?_))))
    · rw [feed_right _ (by omega)] at h4
      (repeat' ((conv => whnf); first | (refine CallK_pack (key := 77) rfl (fun w hR h0 => c1 _ _ _ h0) ?_; rintro _ _ ⟨rfl, fp', rfl⟩; refine ⟨.v _, rfl, ?_⟩) | (refine CallK_pack (key := 77) rfl (fun w hR h0 => c2 _ _ _ h0) ?_; rintro _ _ ⟨rfl, fp', rfl⟩; refine ⟨.v _, rfl, ?_⟩) | (refine bcase_prop (fun h => ?_) (fun h => ?_) <;> try (exfalso; omega)) | (refine bcase_nprop (fun h => ?_) (fun h => ?_) <;> try (exfalso; omega)) | (refine bcase_intro (fun h => ?_) (fun h => ?_) <;> (try simp only [Bool.not_eq_true', Bool.not_eq_false', decide_eq_true_eq, decide_eq_false_iff_not, Bool.not_eq_true, Bool.not_eq_false, Decidable.not_not] at h)) | refine And.intro (by first | omega | exact rfl | assumption | exact ⟨rfl, rfl, rfl, rfl, rfl⟩ | exact ⟨rfl, rfl, rfl, rfl⟩ | exact ⟨rfl, by omega⟩ | exact oneAll_of rfl | exact ⟨rfl, oneAll_of rfl⟩ | exact Ref.refl _ | exact Thin.ref (.skip (Thin.refl _)) | exact Thin.ref (.skip (.skip (Thin.refl _))) | exact ⟨rfl, Nat.le_of_ble_eq_true rfl⟩ | ((try unfold maxLen); (try simp only [List.length_nil, List.length_cons, List.length_append]); omega) | (refine ⟨rfl, ?_⟩; (try simp only [List.length_nil, List.length_cons, List.length_append]); omega)) ?_ | intro _)); (all_goals (conv => whnf))
      exact loop_next ⟨(atE S.E m).r.b, j - linesN (tm S.E (atE S.E m).r.a).txt, at_ + (tm S.E (atE S.E m).r.a).txt.length, fp'⟩ ⟨b1, by dsimp only; omega, by dsimp only; omega, by dsimp only; omega⟩ (by ((try dsimp only); omega)) (by (repeat ((conv => whnf); refine And.intro (by first | exact rfl | exact vint_eq (by omega) | exact vint_eq (by (dsimp only; omega)) | exact vsl_eq (by omega) | exact vsl_eq (by first | (dsimp only; omega) | (simp; done) | (simp; omega))) ?_)); exact trivial) (Thin.ref (by (repeat (first | exact Thin.nil _ | exact Thin.refl _ | refine Thin.keep rfl (fun _ h => h) ?_ | refine Thin.skip ?_))))
  · have c2 := calls_SWeight b S (atE S.E m).r.a hsm
    rw [wtRes_ok ⟨by omega, by omega⟩] at c2
    have hp := hw.pos1 a1 (by omega)
    have hla := hw.le (n := (atE S.E m).r.a) (by omega)
    have hla2 : linesN (tm S.E (atE S.E m).r.a).txt ≤ (tm S.E (atE S.E m).r.a).txt.length := List.count_le_length
    unfold LM at hla; unfold Tm.len at hla hp
    rw [ht, Tm.txt, rep_lines] at h3
    rw [ht, Tm.txt] at h4
    have hl0 : 0 < linesN (tm S.E (atE S.E m).r.a).txt := by
      rcases Nat.eq_zero_or_pos (linesN (tm S.E (atE S.E m).r.a).txt) with h | h
      · rw [h, Nat.mul_zero] at h3; omega
      · exact h
    rw [feed_rep hl0 h3] at h4
    have h5 := Nat.mod_lt j hl0
    have h6 := Nat.div_le_self j (linesN (tm S.E (atE S.E m).r.a).txt)
    have q1 : (j : Int) / (linesN (tm S.E (atE S.E m).r.a).txt : Int) = ((j / linesN (tm S.E (atE S.E m).r.a).txt : Nat) : Int) := (Int.natCast_ediv _ _).symm
    have q2 : (j : Int) % (linesN (tm S.E (atE S.E m).r.a).txt : Int) = ((j % linesN (tm S.E (atE S.E m).r.a).txt : Nat) : Int) := (Int.natCast_emod _ _).symm
    have q3 : ((j / linesN (tm S.E (atE S.E m).r.a).txt : Nat) : Int) * ((tm S.E (atE S.E m).r.a).txt.length : Int) = ((j / linesN (tm S.E (atE S.E m).r.a).txt * (tm S.E (atE S.E m).r.a).txt.length : Nat) : Int) := (Int.natCast_mul _ _).symm
    generalize j / linesN (tm S.E (atE S.E m).r.a).txt * (tm S.E (atE S.E m).r.a).txt.length = pr at *
    (repeat' ((conv => whnf); first | (refine CallK_pack (key := 77) rfl (fun w hR h0 => c1 _ _ _ h0) ?_; rintro _ _ ⟨rfl, fp', rfl⟩; refine ⟨.v _, rfl, ?_⟩) | (refine CallK_pack (key := 77) rfl (fun w hR h0 => c2 _ _ _ h0) ?_; rintro _ _ ⟨rfl, fp', rfl⟩; refine ⟨.v _, rfl, ?_⟩) | rw [q1] | rw [q2] | rw [q3] | (refine bcase_prop (fun h => ?_) (fun h => ?_) <;> try (exfalso; omega)) | (refine bcase_nprop (fun h => ?_) (fun h => ?_) <;> try (exfalso; omega)) | (refine bcase_intro (fun h => ?_) (fun h => ?_) <;> (try simp only [Bool.not_eq_true', Bool.not_eq_false', decide_eq_true_eq, decide_eq_false_iff_not, Bool.not_eq_true, Bool.not_eq_false, Decidable.not_not] at h)) | refine And.intro (by first | omega | exact rfl | assumption | exact ⟨rfl, rfl, rfl, rfl, rfl⟩ | exact ⟨rfl, rfl, rfl, rfl⟩ | exact ⟨rfl, by omega⟩ | exact oneAll_of rfl | exact ⟨rfl, oneAll_of rfl⟩ | exact Ref.refl _ | exact Thin.ref (.skip (Thin.refl _)) | exact Thin.ref (.skip (.skip (Thin.refl _))) | exact ⟨by omega, by omega, by omega⟩ | exact ⟨rfl, Nat.le_of_ble_eq_true rfl⟩ | ((try unfold maxLen); (try simp only [List.length_nil, List.length_cons, List.length_append]); omega) | (refine ⟨rfl, ?_⟩; (try simp only [List.length_nil, List.length_cons, List.length_append]); omega)) ?_ | intro _)); (all_goals (conv => whnf))
    exact loop_next ⟨(atE S.E m).r.a, j % linesN (tm S.E (atE S.E m).r.a).txt, at_ + pr, fp'⟩ ⟨a1, by dsimp only; omega, h5, by dsimp only; omega⟩ (by ((try dsimp only); omega)) (by (repeat ((conv => whnf); refine And.intro (by first | exact rfl | exact vint_eq (by omega) | exact vint_eq (by (dsimp only; omega)) | exact vsl_eq (by omega) | exact vsl_eq (by first | (dsimp only; omega) | (simp; done) | (simp; omega))) ?_)); exact trivial) (Thin.ref (by (repeat (first | exact Thin.nil _ | exact Thin.refl _ | refine Thin.keep rfl (fun _ h => h) ?_ | refine Thin.skip ?_))))

theorem one_of_lines {S : Sto} {n : Int} (hk : known S n) (h : 0 < linesN (tm S.E n).txt) : 1 ≤ n := by
  have := hk.1
  by_cases h0 : n = 0
  · subst h0; rw [tm_zero] at h; simp [Tm.txt, linesN] at h
  · omega
def cntRes (S : Sto) (n : Int) : Value := if known S n then .tuple #[.int .i64 (linesN (tm S.E n).txt + 1 : Nat), .nilIface] else .tuple #[.int .i64 0, errV 1]
theorem calls_LCount (b : Nat) (S : Sto) (hw : WF S) (n : Int) : SC fn_lines_Count #[pS b, .int .i64 n] b S S (cntRes S n) := by
  intro key fp w hR
  refine part_call [.v (pS b), .v (.int .i64 n)] ok_lines_Count (by simp) (hR.key 77) ?_
  have c0 := calls_SWeight b S n hw.small
  unfold wtRes at c0
  unfold cntRes
  by_cases hk : known S n
  · rw [if_pos hk] at c0 ⊢
    have hl := hw.le hk.2
    have hl2 : linesN (tm S.E n).txt ≤ (tm S.E n).txt.length := List.count_le_length
    unfold LM Tm.len at hl
    (repeat' ((conv => whnf); first | (refine CallK_pack (key := 77) rfl (fun w hR h0 => c0 _ _ _ h0) ?_; rintro _ _ ⟨rfl, fp', rfl⟩; refine ⟨.v _, rfl, ?_⟩) | (refine bcase_prop (fun h => ?_) (fun h => ?_) <;> try (exfalso; omega)) | (refine bcase_nprop (fun h => ?_) (fun h => ?_) <;> try (exfalso; omega)) | (refine bcase_intro (fun h => ?_) (fun h => ?_) <;> (try simp only [Bool.not_eq_true', Bool.not_eq_false', decide_eq_true_eq, decide_eq_false_iff_not, Bool.not_eq_true, Bool.not_eq_false, Decidable.not_not] at h)) | refine And.intro (by first | omega | exact rfl | assumption | exact ⟨rfl, rfl, rfl, rfl, rfl⟩ | exact ⟨rfl, rfl, rfl, rfl⟩ | exact ⟨rfl, by omega⟩ | exact oneAll_of rfl | exact ⟨rfl, oneAll_of rfl⟩ | exact Ref.refl _ | exact Thin.ref (.skip (Thin.refl _)) | exact Thin.ref (.skip (.skip (Thin.refl _))) | exact ⟨rfl, Nat.le_of_ble_eq_true rfl⟩ | ((try unfold maxLen); (try simp only [List.length_nil, List.length_cons, List.length_append]); omega) | (refine ⟨rfl, ?_⟩; (try simp only [List.length_nil, List.length_cons, List.length_append]); omega)) ?_ | intro _)); (all_goals (conv => whnf))
    exact ⟨endP (by (repeat (first | exact Thin.nil _ | exact Thin.refl _ | refine Thin.keep rfl (fun _ h => h) ?_ | refine Thin.skip ?_))) rfl⟩
  · rw [if_neg hk] at c0 ⊢
    (repeat' ((conv => whnf); first | (refine CallK_pack (key := 77) rfl (fun w hR h0 => c0 _ _ _ h0) ?_; rintro _ _ ⟨rfl, fp', rfl⟩; refine ⟨.v _, rfl, ?_⟩) | (refine bcase_prop (fun h => ?_) (fun h => ?_) <;> try (exfalso; omega)) | (refine bcase_nprop (fun h => ?_) (fun h => ?_) <;> try (exfalso; omega)) | (refine bcase_intro (fun h => ?_) (fun h => ?_) <;> (try simp only [Bool.not_eq_true', Bool.not_eq_false', decide_eq_true_eq, decide_eq_false_iff_not, Bool.not_eq_true, Bool.not_eq_false, Decidable.not_not] at h)) | refine And.intro (by first | omega | exact rfl | assumption | exact ⟨rfl, rfl, rfl, rfl, rfl⟩ | exact ⟨rfl, rfl, rfl, rfl⟩ | exact ⟨rfl, by omega⟩ | exact oneAll_of rfl | exact ⟨rfl, oneAll_of rfl⟩ | exact Ref.refl _ | exact Thin.ref (.skip (Thin.refl _)) | exact Thin.ref (.skip (.skip (Thin.refl _))) | exact ⟨rfl, Nat.le_of_ble_eq_true rfl⟩ | ((try unfold maxLen); (try simp only [List.length_nil, List.length_cons, List.length_append]); omega) | (refine ⟨rfl, ?_⟩; (try simp only [List.length_nil, List.length_cons, List.length_append]); omega)) ?_ | intro _)); (all_goals (conv => whnf))
    exact ⟨endP (by (repeat (first | exact Thin.nil _ | exact Thin.refl _ | refine Thin.keep rfl (fun _ h => h) ?_ | refine Thin.skip ?_))) rfl⟩
def begRes (S : Sto) (n i : Int) : Value := if known S n ∧ 0 ≤ i ∧ i ≤ linesN (tm S.E n).txt then .tuple #[.int .i64 (lineS (tm S.E n).txt i.toNat), .nilIface] else .tuple #[.int .i64 0, errV 1]
theorem calls_LStart (b : Nat) (S : Sto) (hw : WF S) (n i : Int) : SC fn_lines_Start #[pS b, .int .i64 n, .int .i64 i] b S S (begRes S n i) := by
  intro key fp w hR
  refine part_call [.v (pS b), .v (.int .i64 n), .v (.int .i64 i)] ok_lines_Start (by simp) (hR.key 77) ?_
  have c0 := calls_SWeight b S n hw.small
  unfold wtRes at c0
  unfold begRes
  by_cases hk : known S n
  case neg =>
    rw [if_neg hk] at c0
    rw [if_neg (fun h => hk h.1)]
    (repeat' ((conv => whnf); first | (refine CallK_pack (key := 77) rfl (fun w hR h0 => c0 _ _ _ h0) ?_; rintro _ _ ⟨rfl, fp', rfl⟩; refine ⟨.v _, rfl, ?_⟩) | (refine bcase_prop (fun h => ?_) (fun h => ?_) <;> try (exfalso; omega)) | (refine bcase_nprop (fun h => ?_) (fun h => ?_) <;> try (exfalso; omega)) | (refine bcase_intro (fun h => ?_) (fun h => ?_) <;> (try simp only [Bool.not_eq_true', Bool.not_eq_false', decide_eq_true_eq, decide_eq_false_iff_not, Bool.not_eq_true, Bool.not_eq_false, Decidable.not_not] at h)) | refine And.intro (by first | omega | exact rfl | assumption | exact ⟨rfl, rfl, rfl, rfl, rfl⟩ | exact ⟨rfl, rfl, rfl, rfl⟩ | exact ⟨rfl, by omega⟩ | exact oneAll_of rfl | exact ⟨rfl, oneAll_of rfl⟩ | exact Ref.refl _ | exact Thin.ref (.skip (Thin.refl _)) | exact Thin.ref (.skip (.skip (Thin.refl _))) | exact ⟨rfl, Nat.le_of_ble_eq_true rfl⟩ | ((try unfold maxLen); (try simp only [List.length_nil, List.length_cons, List.length_append]); omega) | (refine ⟨rfl, ?_⟩; (try simp only [List.length_nil, List.length_cons, List.length_append]); omega)) ?_ | intro _)); (all_goals (conv => whnf))
    exact ⟨endP (by (repeat (first | exact Thin.nil _ | exact Thin.refl _ | refine Thin.keep rfl (fun _ h => h) ?_ | refine Thin.skip ?_))) rfl⟩
  rw [if_pos hk] at c0
  have hl := hw.le hk.2
  have hl2 : linesN (tm S.E n).txt ≤ (tm S.E n).txt.length := List.count_le_length
  unfold LM Tm.len at hl
  by_cases hi : 0 ≤ i ∧ i ≤ linesN (tm S.E n).txt
  case neg =>
    rw [if_neg (fun h => hi h.2)]
    (repeat' ((conv => whnf); first | (refine CallK_pack (key := 77) rfl (fun w hR h0 => c0 _ _ _ h0) ?_; rintro _ _ ⟨rfl, fp', rfl⟩; refine ⟨.v _, rfl, ?_⟩) | (refine bcase_prop (fun h => ?_) (fun h => ?_) <;> try (exfalso; omega)) | (refine bcase_nprop (fun h => ?_) (fun h => ?_) <;> try (exfalso; omega)) | (refine bcase_intro (fun h => ?_) (fun h => ?_) <;> (try simp only [Bool.not_eq_true', Bool.not_eq_false', decide_eq_true_eq, decide_eq_false_iff_not, Bool.not_eq_true, Bool.not_eq_false, Decidable.not_not] at h)) | refine And.intro (by first | omega | exact rfl | assumption | exact ⟨rfl, rfl, rfl, rfl, rfl⟩ | exact ⟨rfl, rfl, rfl, rfl⟩ | exact ⟨rfl, by omega⟩ | exact oneAll_of rfl | exact ⟨rfl, oneAll_of rfl⟩ | exact Ref.refl _ | exact Thin.ref (.skip (Thin.refl _)) | exact Thin.ref (.skip (.skip (Thin.refl _))) | exact ⟨rfl, Nat.le_of_ble_eq_true rfl⟩ | ((try unfold maxLen); (try simp only [List.length_nil, List.length_cons, List.length_append]); omega) | (refine ⟨rfl, ?_⟩; (try simp only [List.length_nil, List.length_cons, List.length_append]); omega)) ?_ | intro _)); (all_goals (conv => whnf))
    all_goals first | (exfalso; omega) | exact ⟨endP (by (repeat (first | exact Thin.nil _ | exact Thin.refl _ | refine Thin.keep rfl (fun _ h => h) ?_ | refine Thin.skip ?_))) rfl⟩
  rw [if_pos ⟨hk, hi⟩]
  obtain ⟨j, rfl⟩ := Int.eq_ofNat_of_zero_le hi.1
  rw [Int.toNat_natCast]
  by_cases h0 : j = 0
  · subst h0
    (repeat' ((conv => whnf); first | (refine CallK_pack (key := 77) rfl (fun w hR h0 => c0 _ _ _ h0) ?_; rintro _ _ ⟨rfl, fp', rfl⟩; refine ⟨.v _, rfl, ?_⟩) | (refine bcase_prop (fun h => ?_) (fun h => ?_) <;> try (exfalso; omega)) | (refine bcase_nprop (fun h => ?_) (fun h => ?_) <;> try (exfalso; omega)) | (refine bcase_intro (fun h => ?_) (fun h => ?_) <;> (try simp only [Bool.not_eq_true', Bool.not_eq_false', decide_eq_true_eq, decide_eq_false_iff_not, Bool.not_eq_true, Bool.not_eq_false, Decidable.not_not] at h)) | refine And.intro (by first | omega | exact rfl | assumption | exact ⟨rfl, rfl, rfl, rfl, rfl⟩ | exact ⟨rfl, rfl, rfl, rfl⟩ | exact ⟨rfl, by omega⟩ | exact oneAll_of rfl | exact ⟨rfl, oneAll_of rfl⟩ | exact Ref.refl _ | exact Thin.ref (.skip (Thin.refl _)) | exact Thin.ref (.skip (.skip (Thin.refl _))) | exact ⟨rfl, Nat.le_of_ble_eq_true rfl⟩ | ((try unfold maxLen); (try simp only [List.length_nil, List.length_cons, List.length_append]); omega) | (refine ⟨rfl, ?_⟩; (try simp only [List.length_nil, List.length_cons, List.length_append]); omega)) ?_ | intro _)); (all_goals (conv => whnf))
    exact ⟨endP (by (repeat (first | exact Thin.nil _ | exact Thin.refl _ | refine Thin.keep rfl (fun _ h => h) ?_ | refine Thin.skip ?_))) rfl⟩
  have hj : j - 1 < linesN (tm S.E n).txt := by omega
  have c1 := calls_feedAt b S hw n (j - 1) (one_of_lines hk (by omega)) hk.2 hj
  have hf := (feed_lt hj).1
  rw [show lineS (tm S.E n).txt j = feedN (tm S.E n).txt (j - 1) + 1 from if_neg h0]
  have q : (j : Int) - 1 = ((j - 1 : Nat) : Int) := by omega
  generalize feedN (tm S.E n).txt (j - 1) = fd at *
  (repeat' ((conv => whnf); first | (refine CallK_pack (key := 77) rfl (fun w hR h0 => c0 _ _ _ h0) ?_; rintro _ _ ⟨rfl, fp', rfl⟩; refine ⟨.v _, rfl, ?_⟩) | rw [q] | (refine CallK_pack (key := 77) rfl (fun w hR h0 => c1 _ _ _ h0) ?_; rintro _ _ ⟨rfl, fp', rfl⟩; refine ⟨.v _, rfl, ?_⟩) | (refine bcase_prop (fun h => ?_) (fun h => ?_) <;> try (exfalso; omega)) | (refine bcase_nprop (fun h => ?_) (fun h => ?_) <;> try (exfalso; omega)) | (refine bcase_intro (fun h => ?_) (fun h => ?_) <;> (try simp only [Bool.not_eq_true', Bool.not_eq_false', decide_eq_true_eq, decide_eq_false_iff_not, Bool.not_eq_true, Bool.not_eq_false, Decidable.not_not] at h)) | refine And.intro (by first | omega | exact rfl | assumption | exact ⟨rfl, rfl, rfl, rfl, rfl⟩ | exact ⟨rfl, rfl, rfl, rfl⟩ | exact ⟨rfl, by omega⟩ | exact oneAll_of rfl | exact ⟨rfl, oneAll_of rfl⟩ | exact Ref.refl _ | exact Thin.ref (.skip (Thin.refl _)) | exact Thin.ref (.skip (.skip (Thin.refl _))) | exact ⟨rfl, Nat.le_of_ble_eq_true rfl⟩ | ((try unfold maxLen); (try simp only [List.length_nil, List.length_cons, List.length_append]); omega) | (refine ⟨rfl, ?_⟩; (try simp only [List.length_nil, List.length_cons, List.length_append]); omega)) ?_ | intro _)); (all_goals (conv => whnf))
  exact ⟨endP (by (repeat (first | exact Thin.nil _ | exact Thin.refl _ | refine Thin.keep rfl (fun _ h => h) ?_ | refine Thin.skip ?_))) rfl⟩
def linRes (S : Sto) (n i : Int) : Value := if known S n ∧ 0 ≤ i ∧ i ≤ linesN (tm S.E n).txt then .tuple #[.agg #[.int .i64 (lineS (tm S.E n).txt i.toNat), .int .i64 (lineE (tm S.E n).txt i.toNat - lineS (tm S.E n).txt i.toNat : Nat)], .nilIface] else .tuple #[.agg #[.int .i64 0, .int .i64 0], errV 1]
theorem calls_LLine (b : Nat) (S : Sto) (hw : WF S) (n i : Int) : SC fn_lines_Line #[pS b, .int .i64 n, .int .i64 i] b S S (linRes S n i) := by
  intro key fp w hR
  refine part_call [.v (pS b), .v (.int .i64 n), .v (.int .i64 i)] ok_lines_Line (by simp) (hR.key 77) ?_
  have c0 := calls_LStart b S hw n i
  unfold begRes at c0
  unfold linRes
  by_cases hk : known S n ∧ 0 ≤ i ∧ i ≤ linesN (tm S.E n).txt
  case neg =>
    rw [if_neg hk] at c0 ⊢
    (repeat' ((conv => whnf); first | (refine CallK_pack (key := 77) rfl (fun w hR h0 => c0 _ _ _ h0) ?_; rintro _ _ ⟨rfl, fp', rfl⟩; refine ⟨.v _, rfl, ?_⟩) | (refine bcase_prop (fun h => ?_) (fun h => ?_) <;> try (exfalso; omega)) | (refine bcase_nprop (fun h => ?_) (fun h => ?_) <;> try (exfalso; omega)) | (refine bcase_intro (fun h => ?_) (fun h => ?_) <;> (try simp only [Bool.not_eq_true', Bool.not_eq_false', decide_eq_true_eq, decide_eq_false_iff_not, Bool.not_eq_true, Bool.not_eq_false, Decidable.not_not] at h)) | refine And.intro (by first | omega | exact rfl | assumption | exact ⟨rfl, rfl, rfl, rfl, rfl⟩ | exact ⟨rfl, rfl, rfl, rfl⟩ | exact ⟨rfl, by omega⟩ | exact oneAll_of rfl | exact ⟨rfl, oneAll_of rfl⟩ | exact Ref.refl _ | exact Thin.ref (.skip (Thin.refl _)) | exact Thin.ref (.skip (.skip (Thin.refl _))) | exact ⟨rfl, Nat.le_of_ble_eq_true rfl⟩ | ((try unfold maxLen); (try simp only [List.length_nil, List.length_cons, List.length_append]); omega) | (refine ⟨rfl, ?_⟩; (try simp only [List.length_nil, List.length_cons, List.length_append]); omega)) ?_ | intro _)); (all_goals (conv => whnf))
    exact ⟨endP (by (repeat (first | exact Thin.nil _ | exact Thin.refl _ | refine Thin.keep rfl (fun _ h => h) ?_ | refine Thin.skip ?_))) rfl⟩
  rw [if_pos hk] at c0 ⊢
  obtain ⟨hk, hi⟩ := hk
  have c1 := calls_SWeight b S n hw.small
  rw [wtRes_ok hk] at c1
  have hl := hw.le hk.2
  have hl2 : linesN (tm S.E n).txt ≤ (tm S.E n).txt.length := List.count_le_length
  unfold LM Tm.len at hl
  obtain ⟨j, rfl⟩ := Int.eq_ofNat_of_zero_le hi.1
  rw [Int.toNat_natCast] at *
  have hle := line_le (t := (tm S.E n).txt) (i := j) (by omega)
  have q : ((lineE (tm S.E n).txt j : Nat) : Int) - ((lineS (tm S.E n).txt j : Nat) : Int) = ((lineE (tm S.E n).txt j - lineS (tm S.E n).txt j : Nat) : Int) := by omega
  by_cases hj : j < linesN (tm S.E n).txt
  · have c2 := calls_feedAt b S hw n j (one_of_lines hk (by omega)) hk.2 hj
    rw [show feedN (tm S.E n).txt j = lineE (tm S.E n).txt j from (if_pos hj).symm] at c2
    generalize lineE (tm S.E n).txt j = le at *
    generalize lineS (tm S.E n).txt j = ls at *
    (repeat' ((conv => whnf); first | (refine CallK_pack (key := 77) rfl (fun w hR h0 => c0 _ _ _ h0) ?_; rintro _ _ ⟨rfl, fp', rfl⟩; refine ⟨.v _, rfl, ?_⟩) | (refine CallK_pack (key := 77) rfl (fun w hR h0 => c1 _ _ _ h0) ?_; rintro _ _ ⟨rfl, fp', rfl⟩; refine ⟨.v _, rfl, ?_⟩) | (refine CallK_pack (key := 77) rfl (fun w hR h0 => c2 _ _ _ h0) ?_; rintro _ _ ⟨rfl, fp', rfl⟩; refine ⟨.v _, rfl, ?_⟩) | rw [q] | (refine bcase_prop (fun h => ?_) (fun h => ?_) <;> try (exfalso; omega)) | (refine bcase_nprop (fun h => ?_) (fun h => ?_) <;> try (exfalso; omega)) | (refine bcase_intro (fun h => ?_) (fun h => ?_) <;> (try simp only [Bool.not_eq_true', Bool.not_eq_false', decide_eq_true_eq, decide_eq_false_iff_not, Bool.not_eq_true, Bool.not_eq_false, Decidable.not_not] at h)) | refine And.intro (by first | omega | exact rfl | assumption | exact ⟨rfl, rfl, rfl, rfl, rfl⟩ | exact ⟨rfl, rfl, rfl, rfl⟩ | exact ⟨rfl, by omega⟩ | exact oneAll_of rfl | exact ⟨rfl, oneAll_of rfl⟩ | exact Ref.refl _ | exact Thin.ref (.skip (Thin.refl _)) | exact Thin.ref (.skip (.skip (Thin.refl _))) | exact ⟨rfl, Nat.le_of_ble_eq_true rfl⟩ | ((try unfold maxLen); (try simp only [List.length_nil, List.length_cons, List.length_append]); omega) | (refine ⟨rfl, ?_⟩; (try simp only [List.length_nil, List.length_cons, List.length_append]); omega)) ?_ | intro _)); (all_goals (conv => whnf))
    exact ⟨endP (by (repeat (first | exact Thin.nil _ | exact Thin.refl _ | refine Thin.keep rfl (fun _ h => h) ?_ | refine Thin.skip ?_))) rfl⟩
  · rw [show lineE (tm S.E n).txt j = (tm S.E n).txt.length from if_neg hj] at *
    generalize lineS (tm S.E n).txt j = ls at *
    (repeat' ((conv => whnf); first | (refine CallK_pack (key := 77) rfl (fun w hR h0 => c0 _ _ _ h0) ?_; rintro _ _ ⟨rfl, fp', rfl⟩; refine ⟨.v _, rfl, ?_⟩) | (refine CallK_pack (key := 77) rfl (fun w hR h0 => c1 _ _ _ h0) ?_; rintro _ _ ⟨rfl, fp', rfl⟩; refine ⟨.v _, rfl, ?_⟩) | rw [q] | (refine bcase_prop (fun h => ?_) (fun h => ?_) <;> try (exfalso; omega)) | (refine bcase_nprop (fun h => ?_) (fun h => ?_) <;> try (exfalso; omega)) | (refine bcase_intro (fun h => ?_) (fun h => ?_) <;> (try simp only [Bool.not_eq_true', Bool.not_eq_false', decide_eq_true_eq, decide_eq_false_iff_not, Bool.not_eq_true, Bool.not_eq_false, Decidable.not_not] at h)) | refine And.intro (by first | omega | exact rfl | assumption | exact ⟨rfl, rfl, rfl, rfl, rfl⟩ | exact ⟨rfl, rfl, rfl, rfl⟩ | exact ⟨rfl, by omega⟩ | exact oneAll_of rfl | exact ⟨rfl, oneAll_of rfl⟩ | exact Ref.refl _ | exact Thin.ref (.skip (Thin.refl _)) | exact Thin.ref (.skip (.skip (Thin.refl _))) | exact ⟨rfl, Nat.le_of_ble_eq_true rfl⟩ | ((try unfold maxLen); (try simp only [List.length_nil, List.length_cons, List.length_append]); omega) | (refine ⟨rfl, ?_⟩; (try simp only [List.length_nil, List.length_cons, List.length_append]); omega)) ?_ | intro _)); (all_goals (conv => whnf))
    exact ⟨endP (by (repeat (first | exact Thin.nil _ | exact Thin.refl _ | refine Thin.keep rfl (fun _ h => h) ?_ | refine Thin.skip ?_))) rfl⟩
def posRes (S : Sto) (n i : Int) : Value := if known S n ∧ 0 ≤ i ∧ i ≤ (tm S.E n).len then .tuple #[.int .i64 (linesN ((tm S.E n).txt.take i.toNat)), .int .i64 (tailN ((tm S.E n).txt.take i.toNat)), .nilIface] else .tuple #[.int .i64 0, .int .i64 0, errV 1]
theorem sub_take (t : List Nat) (m : Nat) : sub t 0 m = t.take m := by simp [sub]
theorem calls_LPosition (b : Nat) (S : Sto) (hw : WF S) (n i : Int) : SC fn_lines_Position #[pS b, .int .i64 n, .int .i64 i] b S S (posRes S n i) := by
  intro key fp w hR
  refine part_call [.v (pS b), .v (.int .i64 n), .v (.int .i64 i)] ok_lines_Position (by simp) (hR.key 77) ?_
  have c0 := calls_AWeight b S hw n 0 i
  unfold wgRes at c0
  unfold posRes
  by_cases hk : known S n ∧ 0 ≤ i ∧ i ≤ (tm S.E n).len
  · rw [if_pos ⟨hk.1, by omega, hk.2.1, by omega, by omega⟩, show (0 : Int).toNat = 0 from rfl, sub_take] at c0
    rw [if_pos hk]
    (repeat' ((conv => whnf); first | (refine CallK_pack (key := 77) rfl (fun w hR h0 => c0 _ _ _ h0) ?_; rintro _ _ ⟨rfl, fp', rfl⟩; refine ⟨.v _, rfl, ?_⟩) | (refine bcase_prop (fun h => ?_) (fun h => ?_) <;> try (exfalso; omega)) | (refine bcase_nprop (fun h => ?_) (fun h => ?_) <;> try (exfalso; omega)) | (refine bcase_intro (fun h => ?_) (fun h => ?_) <;> (try simp only [Bool.not_eq_true', Bool.not_eq_false', decide_eq_true_eq, decide_eq_false_iff_not, Bool.not_eq_true, Bool.not_eq_false, Decidable.not_not] at h)) | refine And.intro (by first | omega | exact rfl | assumption | exact ⟨rfl, rfl, rfl, rfl, rfl⟩ | exact ⟨rfl, rfl, rfl, rfl⟩ | exact ⟨rfl, by omega⟩ | exact oneAll_of rfl | exact ⟨rfl, oneAll_of rfl⟩ | exact Ref.refl _ | exact Thin.ref (.skip (Thin.refl _)) | exact Thin.ref (.skip (.skip (Thin.refl _))) | exact ⟨rfl, Nat.le_of_ble_eq_true rfl⟩ | ((try unfold maxLen); (try simp only [List.length_nil, List.length_cons, List.length_append]); omega) | (refine ⟨rfl, ?_⟩; (try simp only [List.length_nil, List.length_cons, List.length_append]); omega)) ?_ | intro _)); (all_goals (conv => whnf))
    exact ⟨endP (by (repeat (first | exact Thin.nil _ | exact Thin.refl _ | refine Thin.keep rfl (fun _ h => h) ?_ | refine Thin.skip ?_))) rfl⟩
  · rw [if_neg (fun h => hk ⟨h.1, h.2.2.1, by omega⟩)] at c0
    rw [if_neg hk]
    (repeat' ((conv => whnf); first | (refine CallK_pack (key := 77) rfl (fun w hR h0 => c0 _ _ _ h0) ?_; rintro _ _ ⟨rfl, fp', rfl⟩; refine ⟨.v _, rfl, ?_⟩) | (refine bcase_prop (fun h => ?_) (fun h => ?_) <;> try (exfalso; omega)) | (refine bcase_nprop (fun h => ?_) (fun h => ?_) <;> try (exfalso; omega)) | (refine bcase_intro (fun h => ?_) (fun h => ?_) <;> (try simp only [Bool.not_eq_true', Bool.not_eq_false', decide_eq_true_eq, decide_eq_false_iff_not, Bool.not_eq_true, Bool.not_eq_false, Decidable.not_not] at h)) | refine And.intro (by first | omega | exact rfl | assumption | exact ⟨rfl, rfl, rfl, rfl, rfl⟩ | exact ⟨rfl, rfl, rfl, rfl⟩ | exact ⟨rfl, by omega⟩ | exact oneAll_of rfl | exact ⟨rfl, oneAll_of rfl⟩ | exact Ref.refl _ | exact Thin.ref (.skip (Thin.refl _)) | exact Thin.ref (.skip (.skip (Thin.refl _))) | exact ⟨rfl, Nat.le_of_ble_eq_true rfl⟩ | ((try unfold maxLen); (try simp only [List.length_nil, List.length_cons, List.length_append]); omega) | (refine ⟨rfl, ?_⟩; (try simp only [List.length_nil, List.length_cons, List.length_append]); omega)) ?_ | intro _)); (all_goals (conv => whnf))
    exact ⟨endP (by (repeat (first | exact Thin.nil _ | exact Thin.refl _ | refine Thin.keep rfl (fun _ h => h) ?_ | refine Thin.skip ?_))) rfl⟩
def feeRes (S : Sto) (n i m : Int) : Value := if known S n ∧ 0 ≤ i ∧ 0 ≤ m ∧ i ≤ (tm S.E n).len ∧ m ≤ (tm S.E n).len - i then .tuple #[.int .i64 (linesN (sub (tm S.E n).txt i.toNat m.toNat)), .nilIface] else .tuple #[.int .i64 0, errV 1]
theorem calls_LFeeds (b : Nat) (S : Sto) (hw : WF S) (n i m : Int) : SC fn_lines_Feeds #[pS b, .int .i64 n, .int .i64 i, .int .i64 m] b S S (feeRes S n i m) := by
  intro key fp w hR
  refine part_call [.v (pS b), .v (.int .i64 n), .v (.int .i64 i), .v (.int .i64 m)] ok_lines_Feeds (by simp) (hR.key 77) ?_
  have c0 := calls_AWeight b S hw n i m
  unfold wgRes at c0
  unfold feeRes
  by_cases hk : known S n ∧ 0 ≤ i ∧ 0 ≤ m ∧ i ≤ (tm S.E n).len ∧ m ≤ (tm S.E n).len - i
  · rw [if_pos hk] at c0 ⊢
    (repeat' ((conv => whnf); first | (refine CallK_pack (key := 77) rfl (fun w hR h0 => c0 _ _ _ h0) ?_; rintro _ _ ⟨rfl, fp', rfl⟩; refine ⟨.v _, rfl, ?_⟩) | (refine bcase_prop (fun h => ?_) (fun h => ?_) <;> try (exfalso; omega)) | (refine bcase_nprop (fun h => ?_) (fun h => ?_) <;> try (exfalso; omega)) | (refine bcase_intro (fun h => ?_) (fun h => ?_) <;> (try simp only [Bool.not_eq_true', Bool.not_eq_false', decide_eq_true_eq, decide_eq_false_iff_not, Bool.not_eq_true, Bool.not_eq_false, Decidable.not_not] at h)) | refine And.intro (by first | omega | exact rfl | assumption | exact ⟨rfl, rfl, rfl, rfl, rfl⟩ | exact ⟨rfl, rfl, rfl, rfl⟩ | exact ⟨rfl, by omega⟩ | exact oneAll_of rfl | exact ⟨rfl, oneAll_of rfl⟩ | exact Ref.refl _ | exact Thin.ref (.skip (Thin.refl _)) | exact Thin.ref (.skip (.skip (Thin.refl _))) | exact ⟨rfl, Nat.le_of_ble_eq_true rfl⟩ | ((try unfold maxLen); (try simp only [List.length_nil, List.length_cons, List.length_append]); omega) | (refine ⟨rfl, ?_⟩; (try simp only [List.length_nil, List.length_cons, List.length_append]); omega)) ?_ | intro _)); (all_goals (conv => whnf))
    exact ⟨endP (by (repeat (first | exact Thin.nil _ | exact Thin.refl _ | refine Thin.keep rfl (fun _ h => h) ?_ | refine Thin.skip ?_))) rfl⟩
  · rw [if_neg hk] at c0 ⊢
    (repeat' ((conv => whnf); first | (refine CallK_pack (key := 77) rfl (fun w hR h0 => c0 _ _ _ h0) ?_; rintro _ _ ⟨rfl, fp', rfl⟩; refine ⟨.v _, rfl, ?_⟩) | (refine bcase_prop (fun h => ?_) (fun h => ?_) <;> try (exfalso; omega)) | (refine bcase_nprop (fun h => ?_) (fun h => ?_) <;> try (exfalso; omega)) | (refine bcase_intro (fun h => ?_) (fun h => ?_) <;> (try simp only [Bool.not_eq_true', Bool.not_eq_false', decide_eq_true_eq, decide_eq_false_iff_not, Bool.not_eq_true, Bool.not_eq_false, Decidable.not_not] at h)) | refine And.intro (by first | omega | exact rfl | assumption | exact ⟨rfl, rfl, rfl, rfl, rfl⟩ | exact ⟨rfl, rfl, rfl, rfl⟩ | exact ⟨rfl, by omega⟩ | exact oneAll_of rfl | exact ⟨rfl, oneAll_of rfl⟩ | exact Ref.refl _ | exact Thin.ref (.skip (Thin.refl _)) | exact Thin.ref (.skip (.skip (Thin.refl _))) | exact ⟨rfl, Nat.le_of_ble_eq_true rfl⟩ | ((try unfold maxLen); (try simp only [List.length_nil, List.length_cons, List.length_append]); omega) | (refine ⟨rfl, ?_⟩; (try simp only [List.length_nil, List.length_cons, List.length_append]); omega)) ?_ | intro _)); (all_goals (conv => whnf))
    exact ⟨endP (by (repeat (first | exact Thin.nil _ | exact Thin.refl _ | refine Thin.keep rfl (fun _ h => h) ?_ | refine Thin.skip ?_))) rfl⟩

/-! ### Without a store -/
theorem calls_AWeightNil (n i m : Int) (w : World) : Calls Try.prog fn_access_Weight #[.pointer none, .int .i64 n, .int .i64 i, .int .i64 m] w fun e w' => e = .returned (.tuple #[wt0, errV 5]) ∧ Ext w w' := by
  refine pure_call [.v (.pointer none), .v (.int .i64 n), .v (.int .i64 i), .v (.int .i64 m)] w ok_access_Weight (by simp) ?_
  have c0 := calls_SWeightNil n
  (repeat' ((conv => whnf); first | refine ⟨.v _, ⟨rfl, trivial⟩, ?_⟩ | (first | refine CallK_pure (.v _) (fun w hR => c0 w) ?_ | refine QCall_pure (.v _) (fun w hR => c0 w) ?_) | (refine bcase_prop (fun h => ?_) (fun h => ?_) <;> try (exfalso; omega)) | (refine bcase_nprop (fun h => ?_) (fun h => ?_) <;> try (exfalso; omega)) | (refine bcase_intro (fun h => ?_) (fun h => ?_) <;> (try simp only [Bool.not_eq_true', Bool.not_eq_false', decide_eq_true_eq, decide_eq_false_iff_not, Bool.not_eq_true, Bool.not_eq_false, Decidable.not_not] at h)) | refine And.intro (by first | omega | exact rfl | assumption | exact ⟨rfl, rfl, rfl, rfl, rfl⟩ | exact ⟨rfl, rfl, rfl, rfl⟩ | exact ⟨rfl, by omega⟩ | exact oneAll_of rfl | exact ⟨rfl, oneAll_of rfl⟩ | exact Ref.refl _ | exact Thin.ref (.skip (Thin.refl _)) | exact Thin.ref (.skip (.skip (Thin.refl _))) | exact ⟨rfl, Nat.le_of_ble_eq_true rfl⟩ | ((try unfold maxLen); (try simp only [List.length_nil, List.length_cons, List.length_append]); omega) | (refine ⟨rfl, ?_⟩; (try simp only [List.length_nil, List.length_cons, List.length_append]); omega)) ?_ | intro _)); (all_goals (conv => whnf))
  exact ⟨rfl⟩
theorem calls_LCountNil (n : Int) (w : World) : Calls Try.prog fn_lines_Count #[.pointer none, .int .i64 n] w fun e w' => e = .returned (.tuple #[.int .i64 0, errV 5]) ∧ Ext w w' := by
  refine pure_call [.v (.pointer none), .v (.int .i64 n)] w ok_lines_Count (by simp) ?_
  have c0 := calls_SWeightNil n
  (repeat' ((conv => whnf); first | (first | refine CallK_pure (.v _) (fun w hR => c0 w) ?_ | refine QCall_pure (.v _) (fun w hR => c0 w) ?_) | (refine bcase_prop (fun h => ?_) (fun h => ?_) <;> try (exfalso; omega)) | (refine bcase_nprop (fun h => ?_) (fun h => ?_) <;> try (exfalso; omega)) | (refine bcase_intro (fun h => ?_) (fun h => ?_) <;> (try simp only [Bool.not_eq_true', Bool.not_eq_false', decide_eq_true_eq, decide_eq_false_iff_not, Bool.not_eq_true, Bool.not_eq_false, Decidable.not_not] at h)) | refine And.intro (by first | omega | exact rfl | assumption | exact ⟨rfl, rfl, rfl, rfl, rfl⟩ | exact ⟨rfl, rfl, rfl, rfl⟩ | exact ⟨rfl, by omega⟩ | exact oneAll_of rfl | exact ⟨rfl, oneAll_of rfl⟩ | exact Ref.refl _ | exact Thin.ref (.skip (Thin.refl _)) | exact Thin.ref (.skip (.skip (Thin.refl _))) | exact ⟨rfl, Nat.le_of_ble_eq_true rfl⟩ | ((try unfold maxLen); (try simp only [List.length_nil, List.length_cons, List.length_append]); omega) | (refine ⟨rfl, ?_⟩; (try simp only [List.length_nil, List.length_cons, List.length_append]); omega)) ?_ | intro _)); (all_goals (conv => whnf))
  exact ⟨rfl⟩
theorem calls_LStartNil (n i : Int) (w : World) : Calls Try.prog fn_lines_Start #[.pointer none, .int .i64 n, .int .i64 i] w fun e w' => e = .returned (.tuple #[.int .i64 0, errV 5]) ∧ Ext w w' := by
  refine pure_call [.v (.pointer none), .v (.int .i64 n), .v (.int .i64 i)] w ok_lines_Start (by simp) ?_
  have c0 := calls_SWeightNil n
  (repeat' ((conv => whnf); first | (first | refine CallK_pure (.v _) (fun w hR => c0 w) ?_ | refine QCall_pure (.v _) (fun w hR => c0 w) ?_) | (refine bcase_prop (fun h => ?_) (fun h => ?_) <;> try (exfalso; omega)) | (refine bcase_nprop (fun h => ?_) (fun h => ?_) <;> try (exfalso; omega)) | (refine bcase_intro (fun h => ?_) (fun h => ?_) <;> (try simp only [Bool.not_eq_true', Bool.not_eq_false', decide_eq_true_eq, decide_eq_false_iff_not, Bool.not_eq_true, Bool.not_eq_false, Decidable.not_not] at h)) | refine And.intro (by first | omega | exact rfl | assumption | exact ⟨rfl, rfl, rfl, rfl, rfl⟩ | exact ⟨rfl, rfl, rfl, rfl⟩ | exact ⟨rfl, by omega⟩ | exact oneAll_of rfl | exact ⟨rfl, oneAll_of rfl⟩ | exact Ref.refl _ | exact Thin.ref (.skip (Thin.refl _)) | exact Thin.ref (.skip (.skip (Thin.refl _))) | exact ⟨rfl, Nat.le_of_ble_eq_true rfl⟩ | ((try unfold maxLen); (try simp only [List.length_nil, List.length_cons, List.length_append]); omega) | (refine ⟨rfl, ?_⟩; (try simp only [List.length_nil, List.length_cons, List.length_append]); omega)) ?_ | intro _)); (all_goals (conv => whnf))
  exact ⟨rfl⟩
theorem calls_LLineNil (n i : Int) (w : World) : Calls Try.prog fn_lines_Line #[.pointer none, .int .i64 n, .int .i64 i] w fun e w' => e = .returned (.tuple #[.agg #[.int .i64 0, .int .i64 0], errV 5]) ∧ Ext w w' := by
  refine pure_call [.v (.pointer none), .v (.int .i64 n), .v (.int .i64 i)] w ok_lines_Line (by simp) ?_
  have c0 := calls_LStartNil n i
  (repeat' ((conv => whnf); first | (first | refine CallK_pure (.v _) (fun w hR => c0 w) ?_ | refine QCall_pure (.v _) (fun w hR => c0 w) ?_) | (refine bcase_prop (fun h => ?_) (fun h => ?_) <;> try (exfalso; omega)) | (refine bcase_nprop (fun h => ?_) (fun h => ?_) <;> try (exfalso; omega)) | (refine bcase_intro (fun h => ?_) (fun h => ?_) <;> (try simp only [Bool.not_eq_true', Bool.not_eq_false', decide_eq_true_eq, decide_eq_false_iff_not, Bool.not_eq_true, Bool.not_eq_false, Decidable.not_not] at h)) | refine And.intro (by first | omega | exact rfl | assumption | exact ⟨rfl, rfl, rfl, rfl, rfl⟩ | exact ⟨rfl, rfl, rfl, rfl⟩ | exact ⟨rfl, by omega⟩ | exact oneAll_of rfl | exact ⟨rfl, oneAll_of rfl⟩ | exact Ref.refl _ | exact Thin.ref (.skip (Thin.refl _)) | exact Thin.ref (.skip (.skip (Thin.refl _))) | exact ⟨rfl, Nat.le_of_ble_eq_true rfl⟩ | ((try unfold maxLen); (try simp only [List.length_nil, List.length_cons, List.length_append]); omega) | (refine ⟨rfl, ?_⟩; (try simp only [List.length_nil, List.length_cons, List.length_append]); omega)) ?_ | intro _)); (all_goals (conv => whnf))
  exact ⟨rfl⟩
theorem calls_LPositionNil (n i : Int) (w : World) : Calls Try.prog fn_lines_Position #[.pointer none, .int .i64 n, .int .i64 i] w fun e w' => e = .returned (.tuple #[.int .i64 0, .int .i64 0, errV 5]) ∧ Ext w w' := by
  refine pure_call [.v (.pointer none), .v (.int .i64 n), .v (.int .i64 i)] w ok_lines_Position (by simp) ?_
  have c0 := calls_AWeightNil n 0 i
  (repeat' ((conv => whnf); first | (first | refine CallK_pure (.v _) (fun w hR => c0 w) ?_ | refine QCall_pure (.v _) (fun w hR => c0 w) ?_) | (refine bcase_prop (fun h => ?_) (fun h => ?_) <;> try (exfalso; omega)) | (refine bcase_nprop (fun h => ?_) (fun h => ?_) <;> try (exfalso; omega)) | (refine bcase_intro (fun h => ?_) (fun h => ?_) <;> (try simp only [Bool.not_eq_true', Bool.not_eq_false', decide_eq_true_eq, decide_eq_false_iff_not, Bool.not_eq_true, Bool.not_eq_false, Decidable.not_not] at h)) | refine And.intro (by first | omega | exact rfl | assumption | exact ⟨rfl, rfl, rfl, rfl, rfl⟩ | exact ⟨rfl, rfl, rfl, rfl⟩ | exact ⟨rfl, by omega⟩ | exact oneAll_of rfl | exact ⟨rfl, oneAll_of rfl⟩ | exact Ref.refl _ | exact Thin.ref (.skip (Thin.refl _)) | exact Thin.ref (.skip (.skip (Thin.refl _))) | exact ⟨rfl, Nat.le_of_ble_eq_true rfl⟩ | ((try unfold maxLen); (try simp only [List.length_nil, List.length_cons, List.length_append]); omega) | (refine ⟨rfl, ?_⟩; (try simp only [List.length_nil, List.length_cons, List.length_append]); omega)) ?_ | intro _)); (all_goals (conv => whnf))
  exact ⟨rfl⟩
theorem calls_LFeedsNil (n i m : Int) (w : World) : Calls Try.prog fn_lines_Feeds #[.pointer none, .int .i64 n, .int .i64 i, .int .i64 m] w fun e w' => e = .returned (.tuple #[.int .i64 0, errV 5]) ∧ Ext w w' := by
  refine pure_call [.v (.pointer none), .v (.int .i64 n), .v (.int .i64 i), .v (.int .i64 m)] w ok_lines_Feeds (by simp) ?_
  have c0 := calls_AWeightNil n i m
  (repeat' ((conv => whnf); first | (first | refine CallK_pure (.v _) (fun w hR => c0 w) ?_ | refine QCall_pure (.v _) (fun w hR => c0 w) ?_) | (refine bcase_prop (fun h => ?_) (fun h => ?_) <;> try (exfalso; omega)) | (refine bcase_nprop (fun h => ?_) (fun h => ?_) <;> try (exfalso; omega)) | (refine bcase_intro (fun h => ?_) (fun h => ?_) <;> (try simp only [Bool.not_eq_true', Bool.not_eq_false', decide_eq_true_eq, decide_eq_false_iff_not, Bool.not_eq_true, Bool.not_eq_false, Decidable.not_not] at h)) | refine And.intro (by first | omega | exact rfl | assumption | exact ⟨rfl, rfl, rfl, rfl, rfl⟩ | exact ⟨rfl, rfl, rfl, rfl⟩ | exact ⟨rfl, by omega⟩ | exact oneAll_of rfl | exact ⟨rfl, oneAll_of rfl⟩ | exact Ref.refl _ | exact Thin.ref (.skip (Thin.refl _)) | exact Thin.ref (.skip (.skip (Thin.refl _))) | exact ⟨rfl, Nat.le_of_ble_eq_true rfl⟩ | ((try unfold maxLen); (try simp only [List.length_nil, List.length_cons, List.length_append]); omega) | (refine ⟨rfl, ?_⟩; (try simp only [List.length_nil, List.length_cons, List.length_append]); omega)) ?_ | intro _)); (all_goals (conv => whnf))
  exact ⟨rfl⟩
end Go.Proofs.Ytohlphngnhcbfaa
/- The statements of chapter 19 that need no list: the program. -/
namespace Go.Proofs.Ytohlphngnhcbfaa
open Go.EG
attribute [local irreducible] CallK QCall Go.Calls
set_option linter.unusedSimpArgs false
set_option linter.unusedVariables false
set_option maxRecDepth 20000
set_option maxHeartbeats 2000000

def gA : List Rul := [⟨1, 97, 0, 0, 0⟩, ⟨1, 10, 0, 0, 0⟩, ⟨3, 0, 1, 0, 2⟩, ⟨2, 0, 3, 2, 0⟩, ⟨3, 0, 4, 0, 2⟩]
abbrev tA : Tm := .pw (.pr (.pw (.lt 97) 2) (.lt 10)) 2
theorem gA_chk : chk 1 gA = 0 := by decide
theorem gA_rul : ∀ i, i < gA.length → okR (gA.getD i rul0) (i + 1) := fun i hi => by
  have := (chk_zero.1 gA_chk) i hi
  rwa [show (1 : Int) + (i : Int) = i + 1 by omega] at this
theorem gA_let : ∀ i, i < gA.length → 0 ≤ (gA.getD i rul0).l ∧ (gA.getD i rul0).l < 256 := by decide
theorem gA_gram : Gram gA := ⟨gA_rul, gA_let, by decide⟩
theorem gA_imp : ∃ S to, stImp ⟨10, []⟩ [0] gA = some (S, to) ∧ WF S ∧ known S (to.getD 5 0) ∧ tm S.E (to.getD 5 0) = tA := by
  obtain ⟨S, to, h1, h2, _, h4, _⟩ := stImp_ok (g := gA) (WF.new 10 (by decide)) (Rel.start _) (fun i hi => by
    have := gA_rul i hi
    rwa [show (([] : List Tm).length : Int) + 1 + (i : Int) = i + 1 by simp; omega]) gA_let (by decide) (by decide)
  obtain ⟨a, b, c⟩ := h4.at_ 5 (by decide) (by decide)
  exact ⟨S, to, h1, h2, ⟨by omega, b⟩, c⟩
theorem calls_awake19 (w : World) : Calls Try.prog fn_evergreenlaw19_awake #[] w fun e w' => e = .returned (.bool true) ∧ Ext w w' := by
  refine pure_call [] w ok_evergreenlaw19_awake (by simp) ?_
  have c1 := fun w => calls_New 10 77 w
  rw [show clipS 10 = 10 from rfl] at c1
  obtain ⟨S, to, himp, hw, hk, ht⟩ := gA_imp
  have c2 := fun b key fp w hR a c hin => calls_Import b ⟨10, []⟩ (WF.new 10 (by decide)) gA gA_gram S to himp (by decide) a c key fp w hR hin
  have hl : gA.length = 5 := rfl
  rw [hl] at c2
  generalize to.getD 5 0 = n at *
  have c3 := fun b => calls_LCount b S hw n
  have c4 := fun b => calls_LLine b S hw n 1
  have c5 := fun b => calls_LPosition b S hw n 4
  unfold cntRes at c3
  unfold linRes at c4
  unfold posRes at c5
  rw [ht] at c3 c4 c5
  rw [if_pos hk] at c3
  rw [if_pos ⟨hk, by decide⟩] at c4
  rw [if_pos ⟨hk, by decide⟩] at c5
  rw [show (linesN tA.txt + 1 : Nat) = 3 from by decide] at c3
  rw [show lineS tA.txt (1 : Int).toNat = 3 from by decide, show lineE tA.txt (1 : Int).toNat = 5 from by decide] at c4
  rw [show linesN (tA.txt.take (4 : Int).toNat) = 1 from by decide, show tailN (tA.txt.take (4 : Int).toNat) = 1 from by decide] at c5
  (repeat' ((conv => whnf); first | (refine CallK_new (fun w hR => c1 w) ?_; rintro _ _ ⟨bn, fpn, rfl, rfl⟩; refine ⟨.v _, rfl, ?_⟩) | (refine CallK_pack (key := 77) rfl (fun w hR h0 => c2 _ _ _ _ h0 _ _ (In.beside (key := 21) hR rfl)) ?_; rintro _ _ ⟨rfl, fp', rfl⟩; refine ⟨.v _, rfl, ?_⟩) | (refine CallK_pack (key := 77) rfl (fun w hR h0 => c3 _ _ _ _ h0) ?_; rintro _ _ ⟨rfl, fp', rfl⟩; refine ⟨.v _, rfl, ?_⟩) | (refine CallK_pack (key := 77) rfl (fun w hR h0 => c4 _ _ _ _ h0) ?_; rintro _ _ ⟨rfl, fp', rfl⟩; refine ⟨.v _, rfl, ?_⟩) | (refine CallK_pack (key := 77) rfl (fun w hR h0 => c5 _ _ _ _ h0) ?_; rintro _ _ ⟨rfl, fp', rfl⟩; refine ⟨.v _, rfl, ?_⟩) | (refine bcase_prop (fun h => ?_) (fun h => ?_) <;> try (exfalso; omega)) | (refine bcase_nprop (fun h => ?_) (fun h => ?_) <;> try (exfalso; omega)) | (refine bcase_intro (fun h => ?_) (fun h => ?_) <;> (try simp only [Bool.not_eq_true', Bool.not_eq_false', decide_eq_true_eq, decide_eq_false_iff_not, Bool.not_eq_true, Bool.not_eq_false, Decidable.not_not] at h)) | refine And.intro (by first | omega | exact rfl | assumption | exact ⟨rfl, rfl, rfl, rfl, rfl⟩ | exact ⟨rfl, rfl, rfl, rfl⟩ | exact ⟨rfl, by omega⟩ | exact oneAll_of rfl | exact ⟨rfl, oneAll_of rfl⟩ | exact Ref.refl _ | exact Thin.ref (.skip (Thin.refl _)) | exact Thin.ref (.skip (.skip (Thin.refl _))) | exact ⟨rfl, Nat.le_of_ble_eq_true rfl⟩ | ((try unfold maxLen); (try simp only [List.length_nil, List.length_cons, List.length_append]); omega) | (refine ⟨rfl, ?_⟩; (try simp only [List.length_nil, List.length_cons, List.length_append]); omega)) ?_ | intro _)); (all_goals (conv => whnf))
  all_goals exact ⟨rfl⟩
end Go.Proofs.Ytohlphngnhcbfaa
/- Lists of makes: the reference's functions. -/
namespace Go.Proofs.Ytohlphngnhcbfaa
open Go.EG
attribute [local irreducible] CallK QCall Go.Calls
set_option linter.unusedSimpArgs false
set_option linter.unusedVariables false
set_option maxRecDepth 20000
set_option maxHeartbeats 4000000

/-! ### The rows of a list of rules -/

def lensI (ms : List Tm) : List Int := ms.map fun m => (m.len : Int)
theorem lensI_snoc (ms : List Tm) (m : Tm) : ints .i64 (lensI ms) ++ [.int .i64 (m.len : Int)] = ints .i64 (lensI (ms ++ [m])) := by simp [lensI, ints]

abbrev ruE (E : List Entr) : List Value := rulsC (E.map (·.r))
abbrev leE (E : List Entr) : List Value := ints .i64 (lensI (E.map (·.m)))
abbrev stV (n : Nat) (a1 : Option Addr) (c1 : Nat) (a2 : Option Addr) (c2 : Nat) : Value := .agg #[.slice a1 n c1, .slice a2 n c2]
theorem ruE_length (E : List Entr) : (ruE E).length = E.length * 5 := by rw [rulsC_length]; simp
theorem leE_length (E : List Entr) : (leE E).length = E.length := by simp [leE, lensI, ints_length]
theorem getD_map_r {E : List Entr} {i : Nat} (h : i < E.length) : (E.map (·.r)).getD i rul0 = (E.getD i ent0).r := by
  simp [List.getD_eq_getElem?_getD, h]
theorem ruE_at {E : List Entr} {i : Nat} (h : i < E.length) : ((ruE E).drop (i * 5)).take 5 = ruC (E.getD i ent0).r := by
  rw [rulsC_at (by simpa using h), getD_map_r h]
theorem ruE_snoc (E : List Entr) (x : Entr) : ruE E ++ ruC x.r = ruE (E ++ [x]) := by
  unfold ruE
  rw [rulsC_snoc, List.map_append]; rfl
theorem leE_snoc (E : List Entr) (x : Entr) : leE E ++ [.int .i64 (x.m.len : Int)] = leE (E ++ [x]) := by
  unfold leE
  rw [lensI_snoc, List.map_append]; rfl
theorem leE_at {E : List Entr} {n : Int} (h1 : 1 ≤ n) (h2 : n ≤ E.length) : (leE E)[(n - 1).toNat]? = some (.int .i64 ((tm E n).len : Int)) := by
  have hlt : (n - 1).toNat < E.length := by omega
  unfold leE lensI ints tm
  rw [atE_pos (by omega), List.getElem?_map, List.getElem?_map, List.getElem?_map, List.getElem?_eq_getElem hlt, show n.toNat - 1 = (n - 1).toNat by omega, List.getD_eq_getElem?_getD, List.getElem?_eq_getElem hlt]
  rfl
theorem oneAll_ru (E : List Entr) : oneAll (ruE E) := by
  induction E with
  | nil => exact trivial
  | cons x E ih =>
    show oneAll (ruC x.r ++ rulsC (E.map (·.r)))
    exact ⟨trivial, trivial, trivial, trivial, trivial, ih⟩
theorem oneAll_ints' (k : IntKind) (l : List Int) : oneAll (ints k l) := by
  induction l with
  | nil => exact trivial
  | cons x l ih => exact ⟨trivial, ih⟩

/-- What a step answers: the rules as they were, or new rows. -/
def oneQ (E E' : List Entr) (id : Int) (a1 : Option Addr) (c1 : Nat) (a2 : Option Addr) (c2 : Nat) (v : Value) (L1 : List Ent) : Prop :=
  (E' = E ∧ v = .tuple #[stV E.length a1 c1 a2 c2, .int .i64 id] ∧ L1 = []) ∨
  (∃ a1' c1' a2' c2', v = .tuple #[stV E'.length a1' c1' a2' c2', .int .i64 id] ∧ L1 = [.own 801 a1' E'.length c1' ty_api_Rule 5 (ruE E'), .own 802 a2' E'.length c2' ty_int 1 (leE E')])
theorem endOld {w0 : World} {fp0 : List Nat} {L : List Ent} {E E' : List Entr} {id : Int} {a1 a2 : Option Addr} {c1 c2 : Nat} {v : Value} (hE : E' = E) (hv : v = .tuple #[stV E.length a1 c1 a2 c2, .int .i64 id]) : ∃ L1, Ref w0 fp0 L L1 ∧ oneQ E E' id a1 c1 a2 c2 v L1 :=
  ⟨[], Thin.ref (.nil _), .inl ⟨hE, hv, rfl⟩⟩


/-- A row of one's own, taken out. -/
def pickO (key : Nat) : List Ent → Option (Ent × List Ent)
  | [] => none
  | .own k a n c T sz xs :: L => if k = key then some (.own k a n c T sz xs, L) else (pickO key L).map fun p => (p.1, .own k a n c T sz xs :: p.2)
  | e :: L => (pickO key L).map fun p => (p.1, e :: p.2)
theorem pickO_perm {key : Nat} : ∀ {L : List Ent} {e : Ent} {Lr : List Ent}, pickO key L = some (e, Lr) → L.Perm (e :: Lr) := by
  intro L
  induction L with
  | nil => intro e Lr h; cases h
  | cons e0 L ih =>
    have gen : ∀ {e Lr}, ((pickO key L).map fun p => (p.1, e0 :: p.2)) = some (e, Lr) → (e0 :: L).Perm (e :: Lr) := fun {e Lr} h => by
      obtain ⟨p, hp, h⟩ := Option.map_eq_some_iff.1 h
      simp only [Prod.mk.injEq] at h
      obtain ⟨rfl, rfl⟩ := h
      exact ((ih hp).cons _).trans (.swap _ _ _)
    intro e Lr h
    cases e0 with
    | own k a n c T sz xs =>
      simp only [pickO] at h
      split at h
      · simp only [Option.some.injEq, Prod.mk.injEq] at h
        obtain ⟨rfl, rfl⟩ := h
        exact .refl _
      · exact gen h
    | box k b cs T => exact gen h
    | abs k fp ok => exact gen h
    | mapE k b kk m => exact gen h
/-- Two rows of one's own, all else is dropped. -/
theorem Ref.two {w0 : World} {fp0 : List Nat} {L L1 L2 : List Ent} (k1 k2 : Nat) {k1' k2' n1 n1' c1 T1 z1 n2 n2' c2 T2 z2 : Nat} {a1 a2 : Option Addr} {x1 x1' x2 x2' : List Value} (h1 : pickO k1 L = some (.own k1 a1 n1 c1 T1 z1 x1, L1)) (h2 : pickO k2 L1 = some (.own k2 a2 n2 c2 T2 z2 x2, L2)) (e1 : n1 = n1') (e2 : x1 = x1') (e3 : n2 = n2') (e4 : x2 = x2') :
    Ref w0 fp0 L [.own k1' a1 n1' c1 T1 z1 x1', .own k2' a2 n2' c2 T2 z2 x2'] := by
  refine ((Ref.perm (pickO_perm h1)).trans (Ref.perm ((pickO_perm h2).cons _))).trans (Thin.ref ?_)
  exact .own e1 e2 (.own e3 e4 (.nil _))
theorem endNew {w0 : World} {fp0 : List Nat} {L L1 L2 : List Ent} {E E' : List Entr} {id id' : Int} {a1 a2 a1' a2' : Option Addr} {c1 c2 c1' c2' : Nat} {v : Value} (k1 k2 : Nat) {n1 n2 : Nat} {x1 x2 : List Value} (h1 : pickO k1 L = some (.own k1 a1' n1 c1' ty_api_Rule 5 x1, L1)) (h2 : pickO k2 L1 = some (.own k2 a2' n2 c2' ty_int 1 x2, L2))
    (e1 : n1 = E'.length) (e2 : x1 = ruE E') (e3 : n2 = E'.length) (e4 : x2 = leE E') (hid : id' = id) (hv : v = .tuple #[.agg #[.slice a1' n1 c1', .slice a2' n2 c2'], .int .i64 id']) : ∃ L1, Ref w0 fp0 L L1 ∧ oneQ E E' id a1 c1 a2 c2 v L1 := by
  refine ⟨_, Ref.two k1 k2 (k1' := 801) (k2' := 802) h1 h2 e1 e2 e3 e4, .inr ⟨a1', c1', a2', c2', ?_, rfl⟩⟩
  subst hid e1
  rw [hv, e3]

theorem calls_Pick (n : Int) (many : Nat) (h : 0 < many) (hm : many ≤ 9223372036854775807) (hn : -9223372036854775808 ≤ n ∧ n ≤ 9223372036854775807) (w : World) : Calls Try.prog fn_evergreenref12_Pick #[.int .i64 n, .int .i64 many] w fun e w' => e = .returned (.int .i64 (pickF n many : Nat)) ∧ Ext w w' := by
  refine pure_call [.v (.int .i64 n), .v (.int .i64 many)] w ok_evergreenref12_Pick (by simp) ?_
  unfold pickF
  have e1 := Int.emod_nonneg n (show (many : Int) ≠ 0 by omega)
  have e2 := Int.emod_lt_of_pos n (show (0 : Int) < many by omega)
  have e3 : n.tmod many = n % many ∨ n.tmod many + many = n % many := by
    rw [Int.tmod_eq_emod]
    split <;> omega
  have e4 : n.tmod many < many := Int.tmod_lt_of_pos n (by omega)
  generalize n % many = p at *
  (repeat' ((conv => whnf); first | (refine bcase_prop (fun h => ?_) (fun h => ?_) <;> try (exfalso; omega)) | (refine bcase_nprop (fun h => ?_) (fun h => ?_) <;> try (exfalso; omega)) | (refine bcase_intro (fun h => ?_) (fun h => ?_) <;> (try simp only [Bool.not_eq_true', Bool.not_eq_false', decide_eq_true_eq, decide_eq_false_iff_not, Bool.not_eq_true, Bool.not_eq_false, Decidable.not_not] at h)) | refine And.intro (by first | omega | exact rfl | assumption | exact ⟨rfl, rfl, rfl, rfl, rfl⟩ | exact ⟨rfl, rfl, rfl, rfl⟩ | exact ⟨rfl, by omega⟩ | exact oneAll_of rfl | exact ⟨rfl, oneAll_of rfl⟩ | exact Ref.refl _ | exact Thin.ref (.skip (Thin.refl _)) | exact Thin.ref (.skip (.skip (Thin.refl _))) | (dsimp only; omega) | (dsimp only at *; omega) | exact ⟨rfl, Nat.le_of_ble_eq_true rfl⟩ | ((try unfold maxLen); (try simp only [List.length_nil, List.length_cons, List.length_append]); omega) | (refine ⟨rfl, ?_⟩; (try simp only [List.length_nil, List.length_cons, List.length_append]); omega)) ?_ | intro _)); (all_goals (conv => whnf))
  all_goals (refine ⟨?_⟩; (try dsimp only at *); congr 1; omega)

theorem calls_Length {a1 a2 : Option Addr} {c1 c2 : Nat} (E : List Entr) (hE : E.length ≤ 1048576) {n : Int} (h0 : 0 ≤ n) (h1 : n ≤ E.length) (w : World) (h2 : In w [] a2 (leE E)) : Calls Try.prog fn_evergreenref12_Length #[stV E.length a1 c1 a2 c2, .int .i64 n] w fun e w' => e = .returned (.int .i64 ((tm E n).len : Nat)) ∧ Ext w w' := by
  refine pure_call [.v (stV E.length a1 c1 a2 c2), .v (.int .i64 n)] w ok_evergreenref12_Length (by simp) ?_
  by_cases hz : n = 0
  · subst hz
    (repeat' ((conv => whnf); first | refine ⟨.v _, ⟨rfl, trivial⟩, ?_⟩ | (refine bcase_prop (fun h => ?_) (fun h => ?_) <;> try (exfalso; omega)) | (refine bcase_nprop (fun h => ?_) (fun h => ?_) <;> try (exfalso; omega)) | (refine bcase_intro (fun h => ?_) (fun h => ?_) <;> (try simp only [Bool.not_eq_true', Bool.not_eq_false', decide_eq_true_eq, decide_eq_false_iff_not, Bool.not_eq_true, Bool.not_eq_false, Decidable.not_not] at h)) | refine And.intro (by first | omega | exact rfl | assumption | exact ⟨rfl, rfl, rfl, rfl, rfl⟩ | exact ⟨rfl, rfl, rfl, rfl⟩ | exact ⟨rfl, by omega⟩ | exact oneAll_of rfl | exact ⟨rfl, oneAll_of rfl⟩ | exact Ref.refl _ | exact Thin.ref (.skip (Thin.refl _)) | exact Thin.ref (.skip (.skip (Thin.refl _))) | exact ⟨rfl, Nat.le_of_ble_eq_true rfl⟩ | ((try unfold maxLen); (try simp only [List.length_nil, List.length_cons, List.length_append]); omega) | (refine ⟨rfl, ?_⟩; (try simp only [List.length_nil, List.length_cons, List.length_append]); omega)) ?_ | intro _)); (all_goals (conv => whnf))
    exact ⟨rfl⟩
  · have hat := leE_at (E := E) (n := n) (by omega) h1
    have rd := fun {L : List Ent} => h2.rd (L := L) hat
    have hne : a2 ≠ none := h2.ne' (k := (n - 1).toNat) (by rw [leE_length]; omega)
    (repeat' ((conv => whnf); first | rw [Nat.mul_one] | refine ⟨_, rd, ?_⟩ | refine ⟨.v _, ⟨rfl, trivial⟩, ?_⟩ | (refine bcase_prop (fun h => ?_) (fun h => ?_) <;> try (exfalso; omega)) | (refine bcase_nprop (fun h => ?_) (fun h => ?_) <;> try (exfalso; omega)) | (refine bcase_intro (fun h => ?_) (fun h => ?_) <;> (try simp only [Bool.not_eq_true', Bool.not_eq_false', decide_eq_true_eq, decide_eq_false_iff_not, Bool.not_eq_true, Bool.not_eq_false, Decidable.not_not] at h)) | refine And.intro (by first | omega | exact rfl | assumption | exact ⟨rfl, rfl, rfl, rfl, rfl⟩ | exact ⟨rfl, rfl, rfl, rfl⟩ | exact ⟨rfl, by omega⟩ | exact oneAll_of rfl | exact ⟨rfl, oneAll_of rfl⟩ | exact Ref.refl _ | exact Thin.ref (.skip (Thin.refl _)) | exact Thin.ref (.skip (.skip (Thin.refl _))) | exact hne | exact ⟨rfl, Nat.le_of_ble_eq_true rfl⟩ | ((try unfold maxLen); (try simp only [List.length_nil, List.length_cons, List.length_append]); omega) | (refine ⟨rfl, ?_⟩; (try simp only [List.length_nil, List.length_cons, List.length_append]); omega)) ?_ | intro _)); (all_goals (conv => whnf))
    exact ⟨rfl⟩

theorem refPick {w0 : World} {fp0 : List Nat} {L Lr : List Ent} {e : Ent} (key : Nat) (h : pickE key L = some (e, Lr)) : Ref w0 fp0 L (e :: Lr) := Ref.perm (pickE_perm h)
theorem ints_snoc (k : IntKind) (l : List Int) (x : Int) : ints k l ++ [.int k x] = ints k (l ++ [x]) := by simp [ints]
end Go.Proofs.Ytohlphngnhcbfaa
/- A rule is added to the reference's list: the last statement, in any order (written by a program, addgen.py). -/
namespace Go.Proofs.Ytohlphngnhcbfaa
open Go.EG
attribute [local irreducible] CallK QCall Go.Calls
set_option linter.unusedSimpArgs false
set_option linter.unusedVariables false
set_option maxRecDepth 20000
set_option maxHeartbeats 4000000
section
structure AddH (w : World) (K : Env → List Ent → Prop) (Lb Lh : List Ent) (E : List Entr) (r : Rul) (N : Nat) (a1 a2 : Option Addr) (c1 c2 b6 : Nat) (xs ys : List Value) : Prop where
  hE : E.length ≤ 1048576
  th : Thin Lh Lb
  o1 : oneAll xs
  o2 : oneAll ys
  rs : ∀ L, RdS w [] L a1 (E.length * 5) xs
  rl : ∀ L, RdS w [] L a2 (E.length * 1) ys
  lx : xs.length = E.length * 5
  fin : ∀ (q1 : Option Addr) (q2 : Nat) (z1 : Option Addr) (z2 : Nat), VT Try.prog w [] ops_evergreenref12_Add_6 K tr_evergreenref12_Add_0 Lb [(40, .v (.agg #[.slice q1 (E.length + 1) q2, .slice z1 (E.length + 1) z2])), (44, .v (.int .i64 ((E.length : Int) + 1))), (6, .ptr 6 b6 0)] (.own 26 q1 (E.length + 1) q2 ty_api_Rule 5 (xs ++ ruC r) :: .own 33 z1 (E.length + 1) z2 ty_int 1 (ys ++ [.int .i64 N]) :: Lh)
variable {w : World} {K : Env → List Ent → Prop} {Lb Lh : List Ent} {E : List Entr} {r : Rul} {N : Nat} {a1 a2 : Option Addr} {c1 c2 b6 : Nat} {xs ys : List Value}
theorem add_0 (h : AddH w K Lb Lh E r N a1 a2 c1 c2 b6 xs ys) : ∀ (q1 : Option Addr) (q2 : Nat) (z1 : Option Addr) (z2 : Nat), VT Try.prog w [] ops_evergreenref12_Add_6 K tr_evergreenref12_Add_0 Lb [(40, .v (.agg #[.slice q1 (E.length + 1) q2, .slice z1 (E.length + 1) z2])), (44, .v (.int .i64 ((E.length : Int) + 1))), (6, .ptr 6 b6 0)] (.own 26 q1 (E.length + 1) q2 ty_api_Rule 5 (xs ++ ruC r) :: .own 33 z1 (E.length + 1) z2 ty_int 1 (ys ++ [.int .i64 N]) :: Lh) := h.fin
theorem add_1 (h : AddH w K Lb Lh E r N a1 a2 c1 c2 b6 xs ys) : ∀ (q1 : Option Addr) (q2 : Nat) (z1 : Option Addr) (z2 : Nat) (z3 : Option Addr), VT Try.prog w [] ops_evergreenref12_Add_6 K tr_evergreenref12_Add_1 Lb [(32, .sl 26 q1 (E.length + 1) q2), (36, .sl 33 z1 E.length z2), (38, .sl 38 z3 1 1), (28, .v (.slice a1 E.length c1)), (30, .v (ruV r)), (35, .v (.slice a2 E.length c2)), (37, .v (.int .i64 N)), (44, .v (.int .i64 ((E.length : Int) + 1))), (6, .ptr 6 b6 0)] (.own 26 q1 (E.length + 1) q2 ty_api_Rule 5 (xs ++ ruC r) :: .own 33 z1 E.length z2 ty_int 1 ys :: .own 38 z3 1 1 ty_int 1 ([.int .i64 N]) :: Lh) := by
  have hE := h.hE
  have o1 := h.o1
  have o2 := h.o2
  intro q1 q2 z1 z2 z3
  (repeat' ((conv => whnf); first | refine ⟨xs, h.rs _, ?_⟩ | refine ⟨ys, h.rl _, ?_⟩ | refine And.intro (by first | exact o1 | exact o2 | exact fun _ => Thin.ref (.skip (h.th)) | exact fun _ => Thin.ref (.skip (.skip (h.th))) | exact fun _ => Thin.ref (.skip (.skip (.skip (h.th)))) | exact fun _ => Thin.ref (.skip (.skip (.skip (.skip (h.th))))) | exact Thin.ref (.skip (h.th)) | exact Thin.ref (.skip (.skip (h.th))) | exact Thin.ref (.skip (.skip (.skip (h.th)))) | exact Thin.ref (.skip (.skip (.skip (.skip (h.th))))) | exact ⟨rfl, oneAll_of rfl⟩ | exact oneAll_of rfl | exact rfl | exact ⟨rfl, rfl, rfl, rfl⟩ | exact ⟨rfl, rfl, rfl, rfl, rfl⟩ | exact ⟨by unfold maxLen; omega, by omega⟩ | omega) ?_ | intro _)); refine VC_can (t := tr_evergreenref12_Add_0) _ _ (by (repeat ((conv => whnf); refine And.intro (by first | exact rfl | exact vint_eq (by omega) | exact vint_eq (by (dsimp only; omega)) | exact vsl_eq (by omega) | exact vsl_eq (by first | (dsimp only; omega) | (simp; done) | (simp; omega))) ?_)); exact trivial) (Thin.ref (.own (by omega) rfl (.own (by omega) rfl (.skip (Thin.refl _))))) (add_0 h _ _ _ _)

theorem add_2 (h : AddH w K Lb Lh E r N a1 a2 c1 c2 b6 xs ys) : ∀ (q1 : Option Addr) (q2 : Nat) (z1 : Option Addr) (z2 : Nat), VT Try.prog w [] ops_evergreenref12_Add_6 K tr_evergreenref12_Add_2 Lb [(32, .sl 26 q1 (E.length + 1) q2), (36, .sl 33 z1 E.length z2), (28, .v (.slice a1 E.length c1)), (30, .v (ruV r)), (35, .v (.slice a2 E.length c2)), (37, .v (.int .i64 N)), (44, .v (.int .i64 ((E.length : Int) + 1))), (6, .ptr 6 b6 0)] (.own 26 q1 (E.length + 1) q2 ty_api_Rule 5 (xs ++ ruC r) :: .own 33 z1 E.length z2 ty_int 1 ys :: Lh) := by
  have hE := h.hE
  have o1 := h.o1
  have o2 := h.o2
  intro q1 q2 z1 z2
  (repeat' ((conv => whnf); first | refine ⟨xs, h.rs _, ?_⟩ | refine ⟨ys, h.rl _, ?_⟩ | refine And.intro (by first | exact o1 | exact o2 | exact fun _ => Thin.ref (.skip (h.th)) | exact fun _ => Thin.ref (.skip (.skip (h.th))) | exact fun _ => Thin.ref (.skip (.skip (.skip (h.th)))) | exact fun _ => Thin.ref (.skip (.skip (.skip (.skip (h.th))))) | exact Thin.ref (.skip (h.th)) | exact Thin.ref (.skip (.skip (h.th))) | exact Thin.ref (.skip (.skip (.skip (h.th)))) | exact Thin.ref (.skip (.skip (.skip (.skip (h.th))))) | exact ⟨rfl, oneAll_of rfl⟩ | exact oneAll_of rfl | exact rfl | exact ⟨rfl, rfl, rfl, rfl⟩ | exact ⟨rfl, rfl, rfl, rfl, rfl⟩ | exact ⟨by unfold maxLen; omega, by omega⟩ | omega) ?_ | intro _)); refine VC_can (t := tr_evergreenref12_Add_1) _ _ (by (repeat ((conv => whnf); refine And.intro (by first | exact rfl | exact vint_eq (by omega) | exact vint_eq (by (dsimp only; omega)) | exact vsl_eq (by omega) | exact vsl_eq (by first | (dsimp only; omega) | (simp; done) | (simp; omega))) ?_)); exact trivial) ((Ref.perm (.trans (.swap _ _ _) (.cons _ (.swap _ _ _)))).trans (Thin.ref (.own (by omega) rfl (.own (by omega) rfl (.own (by omega) rfl (Thin.refl _)))))) (add_1 h _ _ _ _ _)

theorem add_3 (h : AddH w K Lb Lh E r N a1 a2 c1 c2 b6 xs ys) : ∀ (q1 : Option Addr) (q2 : Nat) (z1 : Option Addr) (z2 : Nat) (z3 : Option Addr), VT Try.prog w [] ops_evergreenref12_Add_6 K tr_evergreenref12_Add_3 Lb [(32, .sl 26 q1 (E.length + 1) q2), (33, .sl 33 z1 0 z2), (38, .sl 38 z3 1 1), (28, .v (.slice a1 E.length c1)), (30, .v (ruV r)), (35, .v (.slice a2 E.length c2)), (37, .v (.int .i64 N)), (44, .v (.int .i64 ((E.length : Int) + 1))), (6, .ptr 6 b6 0)] (.own 26 q1 (E.length + 1) q2 ty_api_Rule 5 (xs ++ ruC r) :: .own 33 z1 0 z2 ty_int 1 [] :: .own 38 z3 1 1 ty_int 1 ([.int .i64 N]) :: Lh) := by
  have hE := h.hE
  have o1 := h.o1
  have o2 := h.o2
  intro q1 q2 z1 z2 z3
  (repeat' ((conv => whnf); first | refine ⟨xs, h.rs _, ?_⟩ | refine ⟨ys, h.rl _, ?_⟩ | refine And.intro (by first | exact o1 | exact o2 | exact fun _ => Thin.ref (.skip (h.th)) | exact fun _ => Thin.ref (.skip (.skip (h.th))) | exact fun _ => Thin.ref (.skip (.skip (.skip (h.th)))) | exact fun _ => Thin.ref (.skip (.skip (.skip (.skip (h.th))))) | exact Thin.ref (.skip (h.th)) | exact Thin.ref (.skip (.skip (h.th))) | exact Thin.ref (.skip (.skip (.skip (h.th)))) | exact Thin.ref (.skip (.skip (.skip (.skip (h.th))))) | exact ⟨rfl, oneAll_of rfl⟩ | exact oneAll_of rfl | exact rfl | exact ⟨rfl, rfl, rfl, rfl⟩ | exact ⟨rfl, rfl, rfl, rfl, rfl⟩ | exact ⟨by unfold maxLen; omega, by omega⟩ | omega) ?_ | intro _)); refine VC_can (t := tr_evergreenref12_Add_1) _ _ (by (repeat ((conv => whnf); refine And.intro (by first | exact rfl | exact vint_eq (by omega) | exact vint_eq (by (dsimp only; omega)) | exact vsl_eq (by omega) | exact vsl_eq (by first | (dsimp only; omega) | (simp; done) | (simp; omega))) ?_)); exact trivial) (Thin.ref (.own (by omega) rfl (.own (by omega) rfl (.own (by omega) rfl (Thin.refl _))))) (add_1 h _ _ _ _ _)

theorem add_4 (h : AddH w K Lb Lh E r N a1 a2 c1 c2 b6 xs ys) : ∀ (q1 : Option Addr) (q2 : Nat) (z1 : Option Addr) (z2 : Nat), VT Try.prog w [] ops_evergreenref12_Add_6 K tr_evergreenref12_Add_4 Lb [(32, .sl 26 q1 (E.length + 1) q2), (33, .sl 33 z1 0 z2), (28, .v (.slice a1 E.length c1)), (30, .v (ruV r)), (35, .v (.slice a2 E.length c2)), (37, .v (.int .i64 N)), (44, .v (.int .i64 ((E.length : Int) + 1))), (6, .ptr 6 b6 0)] (.own 26 q1 (E.length + 1) q2 ty_api_Rule 5 (xs ++ ruC r) :: .own 33 z1 0 z2 ty_int 1 [] :: Lh) := by
  have hE := h.hE
  have o1 := h.o1
  have o2 := h.o2
  intro q1 q2 z1 z2
  (conv => whnf)
  refine stop_and ?_ ?_
  · (repeat' ((conv => whnf); first | refine ⟨xs, h.rs _, ?_⟩ | refine ⟨ys, h.rl _, ?_⟩ | refine And.intro (by first | exact o1 | exact o2 | exact fun _ => Thin.ref (.skip (h.th)) | exact fun _ => Thin.ref (.skip (.skip (h.th))) | exact fun _ => Thin.ref (.skip (.skip (.skip (h.th)))) | exact fun _ => Thin.ref (.skip (.skip (.skip (.skip (h.th))))) | exact Thin.ref (.skip (h.th)) | exact Thin.ref (.skip (.skip (h.th))) | exact Thin.ref (.skip (.skip (.skip (h.th)))) | exact Thin.ref (.skip (.skip (.skip (.skip (h.th))))) | exact ⟨rfl, oneAll_of rfl⟩ | exact oneAll_of rfl | exact rfl | exact ⟨rfl, rfl, rfl, rfl⟩ | exact ⟨rfl, rfl, rfl, rfl, rfl⟩ | exact ⟨by unfold maxLen; omega, by omega⟩ | omega) ?_ | intro _)); refine VC_can (t := tr_evergreenref12_Add_2) _ _ (by (repeat ((conv => whnf); refine And.intro (by first | exact rfl | exact vint_eq (by omega) | exact vint_eq (by (dsimp only; omega)) | exact vsl_eq (by omega) | exact vsl_eq (by first | (dsimp only; omega) | (simp; done) | (simp; omega))) ?_)); exact trivial) (Thin.ref (.own (by omega) rfl (.own (by omega) rfl (Thin.refl _)))) (add_2 h _ _ _ _)
  (repeat' ((conv => whnf); first | refine ⟨xs, h.rs _, ?_⟩ | refine ⟨ys, h.rl _, ?_⟩ | refine And.intro (by first | exact o1 | exact o2 | exact fun _ => Thin.ref (.skip (h.th)) | exact fun _ => Thin.ref (.skip (.skip (h.th))) | exact fun _ => Thin.ref (.skip (.skip (.skip (h.th)))) | exact fun _ => Thin.ref (.skip (.skip (.skip (.skip (h.th))))) | exact Thin.ref (.skip (h.th)) | exact Thin.ref (.skip (.skip (h.th))) | exact Thin.ref (.skip (.skip (.skip (h.th)))) | exact Thin.ref (.skip (.skip (.skip (.skip (h.th))))) | exact ⟨rfl, oneAll_of rfl⟩ | exact oneAll_of rfl | exact rfl | exact ⟨rfl, rfl, rfl, rfl⟩ | exact ⟨rfl, rfl, rfl, rfl, rfl⟩ | exact ⟨by unfold maxLen; omega, by omega⟩ | omega) ?_ | intro _)); refine VC_can (t := tr_evergreenref12_Add_3) _ _ (by (repeat ((conv => whnf); refine And.intro (by first | exact rfl | exact vint_eq (by omega) | exact vint_eq (by (dsimp only; omega)) | exact vsl_eq (by omega) | exact vsl_eq (by first | (dsimp only; omega) | (simp; done) | (simp; omega))) ?_)); exact trivial) ((Ref.perm (.trans (.swap _ _ _) (.cons _ (.swap _ _ _)))).trans (Thin.ref (.own (by omega) rfl (.own (by omega) rfl (.own (by omega) rfl (Thin.refl _)))))) (add_3 h _ _ _ _ _)

theorem add_5 (h : AddH w K Lb Lh E r N a1 a2 c1 c2 b6 xs ys) : ∀ (q1 : Option Addr) (q2 : Nat) (z3 : Option Addr), VT Try.prog w [] ops_evergreenref12_Add_6 K tr_evergreenref12_Add_5 Lb [(32, .sl 26 q1 (E.length + 1) q2), (38, .sl 38 z3 1 1), (28, .v (.slice a1 E.length c1)), (30, .v (ruV r)), (35, .v (.slice a2 E.length c2)), (37, .v (.int .i64 N)), (44, .v (.int .i64 ((E.length : Int) + 1))), (6, .ptr 6 b6 0)] (.own 26 q1 (E.length + 1) q2 ty_api_Rule 5 (xs ++ ruC r) :: .own 38 z3 1 1 ty_int 1 ([.int .i64 N]) :: Lh) := by
  have hE := h.hE
  have o1 := h.o1
  have o2 := h.o2
  intro q1 q2 z3
  (repeat' ((conv => whnf); first | refine ⟨xs, h.rs _, ?_⟩ | refine ⟨ys, h.rl _, ?_⟩ | refine And.intro (by first | exact o1 | exact o2 | exact fun _ => Thin.ref (.skip (h.th)) | exact fun _ => Thin.ref (.skip (.skip (h.th))) | exact fun _ => Thin.ref (.skip (.skip (.skip (h.th)))) | exact fun _ => Thin.ref (.skip (.skip (.skip (.skip (h.th))))) | exact Thin.ref (.skip (h.th)) | exact Thin.ref (.skip (.skip (h.th))) | exact Thin.ref (.skip (.skip (.skip (h.th)))) | exact Thin.ref (.skip (.skip (.skip (.skip (h.th))))) | exact ⟨rfl, oneAll_of rfl⟩ | exact oneAll_of rfl | exact rfl | exact ⟨rfl, rfl, rfl, rfl⟩ | exact ⟨rfl, rfl, rfl, rfl, rfl⟩ | exact ⟨by unfold maxLen; omega, by omega⟩ | omega) ?_ | intro _)); refine VC_can (t := tr_evergreenref12_Add_3) _ _ (by (repeat ((conv => whnf); refine And.intro (by first | exact rfl | exact vint_eq (by omega) | exact vint_eq (by (dsimp only; omega)) | exact vsl_eq (by omega) | exact vsl_eq (by first | (dsimp only; omega) | (simp; done) | (simp; omega))) ?_)); exact trivial) ((Ref.perm (.swap _ _ _)).trans (Thin.ref (.own (by omega) rfl (.own (by omega) rfl (.own (by omega) rfl (Thin.refl _)))))) (add_3 h _ _ _ _ _)

theorem add_6 (h : AddH w K Lb Lh E r N a1 a2 c1 c2 b6 xs ys) : ∀ (q1 : Option Addr) (q2 : Nat), VT Try.prog w [] ops_evergreenref12_Add_6 K tr_evergreenref12_Add_6 Lb [(32, .sl 26 q1 (E.length + 1) q2), (28, .v (.slice a1 E.length c1)), (30, .v (ruV r)), (35, .v (.slice a2 E.length c2)), (37, .v (.int .i64 N)), (44, .v (.int .i64 ((E.length : Int) + 1))), (6, .ptr 6 b6 0)] (.own 26 q1 (E.length + 1) q2 ty_api_Rule 5 (xs ++ ruC r) :: Lh) := by
  have hE := h.hE
  have o1 := h.o1
  have o2 := h.o2
  intro q1 q2
  (conv => whnf)
  refine stop_and ?_ ?_
  · (repeat' ((conv => whnf); first | refine ⟨xs, h.rs _, ?_⟩ | refine ⟨ys, h.rl _, ?_⟩ | refine And.intro (by first | exact o1 | exact o2 | exact fun _ => Thin.ref (.skip (h.th)) | exact fun _ => Thin.ref (.skip (.skip (h.th))) | exact fun _ => Thin.ref (.skip (.skip (.skip (h.th)))) | exact fun _ => Thin.ref (.skip (.skip (.skip (.skip (h.th))))) | exact Thin.ref (.skip (h.th)) | exact Thin.ref (.skip (.skip (h.th))) | exact Thin.ref (.skip (.skip (.skip (h.th)))) | exact Thin.ref (.skip (.skip (.skip (.skip (h.th))))) | exact ⟨rfl, oneAll_of rfl⟩ | exact oneAll_of rfl | exact rfl | exact ⟨rfl, rfl, rfl, rfl⟩ | exact ⟨rfl, rfl, rfl, rfl, rfl⟩ | exact ⟨by unfold maxLen; omega, by omega⟩ | omega) ?_ | intro _)); refine VC_can (t := tr_evergreenref12_Add_4) _ _ (by (repeat ((conv => whnf); refine And.intro (by first | exact rfl | exact vint_eq (by omega) | exact vint_eq (by (dsimp only; omega)) | exact vsl_eq (by omega) | exact vsl_eq (by first | (dsimp only; omega) | (simp; done) | (simp; omega))) ?_)); exact trivial) ((Ref.perm (.swap _ _ _)).trans (Thin.ref (.own (by omega) rfl (.own (by omega) rfl (Thin.refl _))))) (add_4 h _ _ _ _)
  (repeat' ((conv => whnf); first | refine ⟨xs, h.rs _, ?_⟩ | refine ⟨ys, h.rl _, ?_⟩ | refine And.intro (by first | exact o1 | exact o2 | exact fun _ => Thin.ref (.skip (h.th)) | exact fun _ => Thin.ref (.skip (.skip (h.th))) | exact fun _ => Thin.ref (.skip (.skip (.skip (h.th)))) | exact fun _ => Thin.ref (.skip (.skip (.skip (.skip (h.th))))) | exact Thin.ref (.skip (h.th)) | exact Thin.ref (.skip (.skip (h.th))) | exact Thin.ref (.skip (.skip (.skip (h.th)))) | exact Thin.ref (.skip (.skip (.skip (.skip (h.th))))) | exact ⟨rfl, oneAll_of rfl⟩ | exact oneAll_of rfl | exact rfl | exact ⟨rfl, rfl, rfl, rfl⟩ | exact ⟨rfl, rfl, rfl, rfl, rfl⟩ | exact ⟨by unfold maxLen; omega, by omega⟩ | omega) ?_ | intro _)); refine VC_can (t := tr_evergreenref12_Add_5) _ _ (by (repeat ((conv => whnf); refine And.intro (by first | exact rfl | exact vint_eq (by omega) | exact vint_eq (by (dsimp only; omega)) | exact vsl_eq (by omega) | exact vsl_eq (by first | (dsimp only; omega) | (simp; done) | (simp; omega))) ?_)); exact trivial) ((Ref.perm (.swap _ _ _)).trans (Thin.ref (.own (by omega) rfl (.own (by omega) rfl (Thin.refl _))))) (add_5 h _ _ _)

theorem add_7 (h : AddH w K Lb Lh E r N a1 a2 c1 c2 b6 xs ys) : ∀ (q1 : Option Addr) (q2 : Nat) (q3 : Option Addr) (z1 : Option Addr) (z2 : Nat) (z3 : Option Addr), VT Try.prog w [] ops_evergreenref12_Add_6 K tr_evergreenref12_Add_7 Lb [(29, .sl 26 q1 E.length q2), (31, .sl 31 q3 1 1), (33, .sl 33 z1 0 z2), (38, .sl 38 z3 1 1), (28, .v (.slice a1 E.length c1)), (30, .v (ruV r)), (35, .v (.slice a2 E.length c2)), (37, .v (.int .i64 N)), (44, .v (.int .i64 ((E.length : Int) + 1))), (6, .ptr 6 b6 0)] (.own 26 q1 E.length q2 ty_api_Rule 5 xs :: .own 31 q3 1 1 ty_api_Rule 5 (ruC r) :: .own 33 z1 0 z2 ty_int 1 [] :: .own 38 z3 1 1 ty_int 1 ([.int .i64 N]) :: Lh) := by
  have hE := h.hE
  have o1 := h.o1
  have o2 := h.o2
  intro q1 q2 q3 z1 z2 z3
  (repeat' ((conv => whnf); first | refine ⟨xs, h.rs _, ?_⟩ | refine ⟨ys, h.rl _, ?_⟩ | refine And.intro (by first | exact o1 | exact o2 | exact fun _ => Thin.ref (.skip (h.th)) | exact fun _ => Thin.ref (.skip (.skip (h.th))) | exact fun _ => Thin.ref (.skip (.skip (.skip (h.th)))) | exact fun _ => Thin.ref (.skip (.skip (.skip (.skip (h.th))))) | exact Thin.ref (.skip (h.th)) | exact Thin.ref (.skip (.skip (h.th))) | exact Thin.ref (.skip (.skip (.skip (h.th)))) | exact Thin.ref (.skip (.skip (.skip (.skip (h.th))))) | exact ⟨rfl, oneAll_of rfl⟩ | exact oneAll_of rfl | exact rfl | exact ⟨rfl, rfl, rfl, rfl⟩ | exact ⟨rfl, rfl, rfl, rfl, rfl⟩ | exact ⟨by unfold maxLen; omega, by omega⟩ | omega) ?_ | intro _)); refine VC_can (t := tr_evergreenref12_Add_3) _ _ (by (repeat ((conv => whnf); refine And.intro (by first | exact rfl | exact vint_eq (by omega) | exact vint_eq (by (dsimp only; omega)) | exact vsl_eq (by omega) | exact vsl_eq (by first | (dsimp only; omega) | (simp; done) | (simp; omega))) ?_)); exact trivial) (Thin.ref (.own (by omega) rfl (.skip (.own (by omega) rfl (.own (by omega) rfl (Thin.refl _)))))) (add_3 h _ _ _ _ _)

theorem add_8 (h : AddH w K Lb Lh E r N a1 a2 c1 c2 b6 xs ys) : ∀ (q1 : Option Addr) (q2 : Nat) (q3 : Option Addr) (z1 : Option Addr) (z2 : Nat), VT Try.prog w [] ops_evergreenref12_Add_6 K tr_evergreenref12_Add_8 Lb [(29, .sl 26 q1 E.length q2), (31, .sl 31 q3 1 1), (33, .sl 33 z1 0 z2), (28, .v (.slice a1 E.length c1)), (30, .v (ruV r)), (35, .v (.slice a2 E.length c2)), (37, .v (.int .i64 N)), (44, .v (.int .i64 ((E.length : Int) + 1))), (6, .ptr 6 b6 0)] (.own 26 q1 E.length q2 ty_api_Rule 5 xs :: .own 31 q3 1 1 ty_api_Rule 5 (ruC r) :: .own 33 z1 0 z2 ty_int 1 [] :: Lh) := by
  have hE := h.hE
  have o1 := h.o1
  have o2 := h.o2
  intro q1 q2 q3 z1 z2
  (conv => whnf)
  refine stop_and ?_ ?_
  · (repeat' ((conv => whnf); first | refine ⟨xs, h.rs _, ?_⟩ | refine ⟨ys, h.rl _, ?_⟩ | refine And.intro (by first | exact o1 | exact o2 | exact fun _ => Thin.ref (.skip (h.th)) | exact fun _ => Thin.ref (.skip (.skip (h.th))) | exact fun _ => Thin.ref (.skip (.skip (.skip (h.th)))) | exact fun _ => Thin.ref (.skip (.skip (.skip (.skip (h.th))))) | exact Thin.ref (.skip (h.th)) | exact Thin.ref (.skip (.skip (h.th))) | exact Thin.ref (.skip (.skip (.skip (h.th)))) | exact Thin.ref (.skip (.skip (.skip (.skip (h.th))))) | exact ⟨rfl, oneAll_of rfl⟩ | exact oneAll_of rfl | exact rfl | exact ⟨rfl, rfl, rfl, rfl⟩ | exact ⟨rfl, rfl, rfl, rfl, rfl⟩ | exact ⟨by unfold maxLen; omega, by omega⟩ | omega) ?_ | intro _)); refine VC_can (t := tr_evergreenref12_Add_4) _ _ (by (repeat ((conv => whnf); refine And.intro (by first | exact rfl | exact vint_eq (by omega) | exact vint_eq (by (dsimp only; omega)) | exact vsl_eq (by omega) | exact vsl_eq (by first | (dsimp only; omega) | (simp; done) | (simp; omega))) ?_)); exact trivial) (Thin.ref (.own (by omega) rfl (.skip (.own (by omega) rfl (Thin.refl _))))) (add_4 h _ _ _ _)
  (repeat' ((conv => whnf); first | refine ⟨xs, h.rs _, ?_⟩ | refine ⟨ys, h.rl _, ?_⟩ | refine And.intro (by first | exact o1 | exact o2 | exact fun _ => Thin.ref (.skip (h.th)) | exact fun _ => Thin.ref (.skip (.skip (h.th))) | exact fun _ => Thin.ref (.skip (.skip (.skip (h.th)))) | exact fun _ => Thin.ref (.skip (.skip (.skip (.skip (h.th))))) | exact Thin.ref (.skip (h.th)) | exact Thin.ref (.skip (.skip (h.th))) | exact Thin.ref (.skip (.skip (.skip (h.th)))) | exact Thin.ref (.skip (.skip (.skip (.skip (h.th))))) | exact ⟨rfl, oneAll_of rfl⟩ | exact oneAll_of rfl | exact rfl | exact ⟨rfl, rfl, rfl, rfl⟩ | exact ⟨rfl, rfl, rfl, rfl, rfl⟩ | exact ⟨by unfold maxLen; omega, by omega⟩ | omega) ?_ | intro _)); refine VC_can (t := tr_evergreenref12_Add_7) _ _ (by (repeat ((conv => whnf); refine And.intro (by first | exact rfl | exact vint_eq (by omega) | exact vint_eq (by (dsimp only; omega)) | exact vsl_eq (by omega) | exact vsl_eq (by first | (dsimp only; omega) | (simp; done) | (simp; omega))) ?_)); exact trivial) ((Ref.perm (.trans (.swap _ _ _) (.trans (.cons _ (.swap _ _ _)) (.cons _ (.cons _ (.swap _ _ _)))))).trans (Thin.ref (.own (by omega) rfl (.own (by omega) rfl (.own (by omega) rfl (.own (by omega) rfl (Thin.refl _))))))) (add_7 h _ _ _ _ _ _)

theorem add_9 (h : AddH w K Lb Lh E r N a1 a2 c1 c2 b6 xs ys) : ∀ (q1 : Option Addr) (q2 : Nat) (q3 : Option Addr) (z3 : Option Addr), VT Try.prog w [] ops_evergreenref12_Add_6 K tr_evergreenref12_Add_9 Lb [(29, .sl 26 q1 E.length q2), (31, .sl 31 q3 1 1), (38, .sl 38 z3 1 1), (28, .v (.slice a1 E.length c1)), (30, .v (ruV r)), (35, .v (.slice a2 E.length c2)), (37, .v (.int .i64 N)), (44, .v (.int .i64 ((E.length : Int) + 1))), (6, .ptr 6 b6 0)] (.own 26 q1 E.length q2 ty_api_Rule 5 xs :: .own 31 q3 1 1 ty_api_Rule 5 (ruC r) :: .own 38 z3 1 1 ty_int 1 ([.int .i64 N]) :: Lh) := by
  have hE := h.hE
  have o1 := h.o1
  have o2 := h.o2
  intro q1 q2 q3 z3
  (conv => whnf)
  refine stop_and ?_ ?_
  · (repeat' ((conv => whnf); first | refine ⟨xs, h.rs _, ?_⟩ | refine ⟨ys, h.rl _, ?_⟩ | refine And.intro (by first | exact o1 | exact o2 | exact fun _ => Thin.ref (.skip (h.th)) | exact fun _ => Thin.ref (.skip (.skip (h.th))) | exact fun _ => Thin.ref (.skip (.skip (.skip (h.th)))) | exact fun _ => Thin.ref (.skip (.skip (.skip (.skip (h.th))))) | exact Thin.ref (.skip (h.th)) | exact Thin.ref (.skip (.skip (h.th))) | exact Thin.ref (.skip (.skip (.skip (h.th)))) | exact Thin.ref (.skip (.skip (.skip (.skip (h.th))))) | exact ⟨rfl, oneAll_of rfl⟩ | exact oneAll_of rfl | exact rfl | exact ⟨rfl, rfl, rfl, rfl⟩ | exact ⟨rfl, rfl, rfl, rfl, rfl⟩ | exact ⟨by unfold maxLen; omega, by omega⟩ | omega) ?_ | intro _)); refine VC_can (t := tr_evergreenref12_Add_5) _ _ (by (repeat ((conv => whnf); refine And.intro (by first | exact rfl | exact vint_eq (by omega) | exact vint_eq (by (dsimp only; omega)) | exact vsl_eq (by omega) | exact vsl_eq (by first | (dsimp only; omega) | (simp; done) | (simp; omega))) ?_)); exact trivial) (Thin.ref (.own (by omega) rfl (.skip (.own (by omega) rfl (Thin.refl _))))) (add_5 h _ _ _)
  (repeat' ((conv => whnf); first | refine ⟨xs, h.rs _, ?_⟩ | refine ⟨ys, h.rl _, ?_⟩ | refine And.intro (by first | exact o1 | exact o2 | exact fun _ => Thin.ref (.skip (h.th)) | exact fun _ => Thin.ref (.skip (.skip (h.th))) | exact fun _ => Thin.ref (.skip (.skip (.skip (h.th)))) | exact fun _ => Thin.ref (.skip (.skip (.skip (.skip (h.th))))) | exact Thin.ref (.skip (h.th)) | exact Thin.ref (.skip (.skip (h.th))) | exact Thin.ref (.skip (.skip (.skip (h.th)))) | exact Thin.ref (.skip (.skip (.skip (.skip (h.th))))) | exact ⟨rfl, oneAll_of rfl⟩ | exact oneAll_of rfl | exact rfl | exact ⟨rfl, rfl, rfl, rfl⟩ | exact ⟨rfl, rfl, rfl, rfl, rfl⟩ | exact ⟨by unfold maxLen; omega, by omega⟩ | omega) ?_ | intro _)); refine VC_can (t := tr_evergreenref12_Add_7) _ _ (by (repeat ((conv => whnf); refine And.intro (by first | exact rfl | exact vint_eq (by omega) | exact vint_eq (by (dsimp only; omega)) | exact vsl_eq (by omega) | exact vsl_eq (by first | (dsimp only; omega) | (simp; done) | (simp; omega))) ?_)); exact trivial) ((Ref.perm (.trans (.swap _ _ _) (.cons _ (.swap _ _ _)))).trans (Thin.ref (.own (by omega) rfl (.own (by omega) rfl (.own (by omega) rfl (.own (by omega) rfl (Thin.refl _))))))) (add_7 h _ _ _ _ _ _)

theorem add_10 (h : AddH w K Lb Lh E r N a1 a2 c1 c2 b6 xs ys) : ∀ (q1 : Option Addr) (q2 : Nat) (q3 : Option Addr), VT Try.prog w [] ops_evergreenref12_Add_6 K tr_evergreenref12_Add_10 Lb [(29, .sl 26 q1 E.length q2), (31, .sl 31 q3 1 1), (28, .v (.slice a1 E.length c1)), (30, .v (ruV r)), (35, .v (.slice a2 E.length c2)), (37, .v (.int .i64 N)), (44, .v (.int .i64 ((E.length : Int) + 1))), (6, .ptr 6 b6 0)] (.own 26 q1 E.length q2 ty_api_Rule 5 xs :: .own 31 q3 1 1 ty_api_Rule 5 (ruC r) :: Lh) := by
  have hE := h.hE
  have o1 := h.o1
  have o2 := h.o2
  intro q1 q2 q3
  (conv => whnf)
  refine stop_and ?_ ?_
  · (repeat' ((conv => whnf); first | refine ⟨xs, h.rs _, ?_⟩ | refine ⟨ys, h.rl _, ?_⟩ | refine And.intro (by first | exact o1 | exact o2 | exact fun _ => Thin.ref (.skip (h.th)) | exact fun _ => Thin.ref (.skip (.skip (h.th))) | exact fun _ => Thin.ref (.skip (.skip (.skip (h.th)))) | exact fun _ => Thin.ref (.skip (.skip (.skip (.skip (h.th))))) | exact Thin.ref (.skip (h.th)) | exact Thin.ref (.skip (.skip (h.th))) | exact Thin.ref (.skip (.skip (.skip (h.th)))) | exact Thin.ref (.skip (.skip (.skip (.skip (h.th))))) | exact ⟨rfl, oneAll_of rfl⟩ | exact oneAll_of rfl | exact rfl | exact ⟨rfl, rfl, rfl, rfl⟩ | exact ⟨rfl, rfl, rfl, rfl, rfl⟩ | exact ⟨by unfold maxLen; omega, by omega⟩ | omega) ?_ | intro _)); refine VC_can (t := tr_evergreenref12_Add_6) _ _ (by (repeat ((conv => whnf); refine And.intro (by first | exact rfl | exact vint_eq (by omega) | exact vint_eq (by (dsimp only; omega)) | exact vsl_eq (by omega) | exact vsl_eq (by first | (dsimp only; omega) | (simp; done) | (simp; omega))) ?_)); exact trivial) (Thin.ref (.own (by omega) rfl (.skip (Thin.refl _)))) (add_6 h _ _)
  (conv => whnf)
  refine stop_and ?_ ?_
  · (repeat' ((conv => whnf); first | refine ⟨xs, h.rs _, ?_⟩ | refine ⟨ys, h.rl _, ?_⟩ | refine And.intro (by first | exact o1 | exact o2 | exact fun _ => Thin.ref (.skip (h.th)) | exact fun _ => Thin.ref (.skip (.skip (h.th))) | exact fun _ => Thin.ref (.skip (.skip (.skip (h.th)))) | exact fun _ => Thin.ref (.skip (.skip (.skip (.skip (h.th))))) | exact Thin.ref (.skip (h.th)) | exact Thin.ref (.skip (.skip (h.th))) | exact Thin.ref (.skip (.skip (.skip (h.th)))) | exact Thin.ref (.skip (.skip (.skip (.skip (h.th))))) | exact ⟨rfl, oneAll_of rfl⟩ | exact oneAll_of rfl | exact rfl | exact ⟨rfl, rfl, rfl, rfl⟩ | exact ⟨rfl, rfl, rfl, rfl, rfl⟩ | exact ⟨by unfold maxLen; omega, by omega⟩ | omega) ?_ | intro _)); refine VC_can (t := tr_evergreenref12_Add_8) _ _ (by (repeat ((conv => whnf); refine And.intro (by first | exact rfl | exact vint_eq (by omega) | exact vint_eq (by (dsimp only; omega)) | exact vsl_eq (by omega) | exact vsl_eq (by first | (dsimp only; omega) | (simp; done) | (simp; omega))) ?_)); exact trivial) ((Ref.perm (.trans (.swap _ _ _) (.cons _ (.swap _ _ _)))).trans (Thin.ref (.own (by omega) rfl (.own (by omega) rfl (.own (by omega) rfl (Thin.refl _)))))) (add_8 h _ _ _ _ _)
  (repeat' ((conv => whnf); first | refine ⟨xs, h.rs _, ?_⟩ | refine ⟨ys, h.rl _, ?_⟩ | refine And.intro (by first | exact o1 | exact o2 | exact fun _ => Thin.ref (.skip (h.th)) | exact fun _ => Thin.ref (.skip (.skip (h.th))) | exact fun _ => Thin.ref (.skip (.skip (.skip (h.th)))) | exact fun _ => Thin.ref (.skip (.skip (.skip (.skip (h.th))))) | exact Thin.ref (.skip (h.th)) | exact Thin.ref (.skip (.skip (h.th))) | exact Thin.ref (.skip (.skip (.skip (h.th)))) | exact Thin.ref (.skip (.skip (.skip (.skip (h.th))))) | exact ⟨rfl, oneAll_of rfl⟩ | exact oneAll_of rfl | exact rfl | exact ⟨rfl, rfl, rfl, rfl⟩ | exact ⟨rfl, rfl, rfl, rfl, rfl⟩ | exact ⟨by unfold maxLen; omega, by omega⟩ | omega) ?_ | intro _)); refine VC_can (t := tr_evergreenref12_Add_9) _ _ (by (repeat ((conv => whnf); refine And.intro (by first | exact rfl | exact vint_eq (by omega) | exact vint_eq (by (dsimp only; omega)) | exact vsl_eq (by omega) | exact vsl_eq (by first | (dsimp only; omega) | (simp; done) | (simp; omega))) ?_)); exact trivial) ((Ref.perm (.trans (.swap _ _ _) (.cons _ (.swap _ _ _)))).trans (Thin.ref (.own (by omega) rfl (.own (by omega) rfl (.own (by omega) rfl (Thin.refl _)))))) (add_9 h _ _ _ _)

theorem add_11 (h : AddH w K Lb Lh E r N a1 a2 c1 c2 b6 xs ys) : ∀ (q1 : Option Addr) (q2 : Nat) (z1 : Option Addr) (z2 : Nat) (z3 : Option Addr), VT Try.prog w [] ops_evergreenref12_Add_6 K tr_evergreenref12_Add_11 Lb [(29, .sl 26 q1 E.length q2), (33, .sl 33 z1 0 z2), (38, .sl 38 z3 1 1), (28, .v (.slice a1 E.length c1)), (30, .v (ruV r)), (35, .v (.slice a2 E.length c2)), (37, .v (.int .i64 N)), (44, .v (.int .i64 ((E.length : Int) + 1))), (6, .ptr 6 b6 0)] (.own 26 q1 E.length q2 ty_api_Rule 5 xs :: .own 33 z1 0 z2 ty_int 1 [] :: .own 38 z3 1 1 ty_int 1 ([.int .i64 N]) :: Lh) := by
  have hE := h.hE
  have o1 := h.o1
  have o2 := h.o2
  intro q1 q2 z1 z2 z3
  (repeat' ((conv => whnf); first | refine ⟨xs, h.rs _, ?_⟩ | refine ⟨ys, h.rl _, ?_⟩ | refine And.intro (by first | exact o1 | exact o2 | exact fun _ => Thin.ref (.skip (h.th)) | exact fun _ => Thin.ref (.skip (.skip (h.th))) | exact fun _ => Thin.ref (.skip (.skip (.skip (h.th)))) | exact fun _ => Thin.ref (.skip (.skip (.skip (.skip (h.th))))) | exact Thin.ref (.skip (h.th)) | exact Thin.ref (.skip (.skip (h.th))) | exact Thin.ref (.skip (.skip (.skip (h.th)))) | exact Thin.ref (.skip (.skip (.skip (.skip (h.th))))) | exact ⟨rfl, oneAll_of rfl⟩ | exact oneAll_of rfl | exact rfl | exact ⟨rfl, rfl, rfl, rfl⟩ | exact ⟨rfl, rfl, rfl, rfl, rfl⟩ | exact ⟨by unfold maxLen; omega, by omega⟩ | omega) ?_ | intro _)); refine VC_can (t := tr_evergreenref12_Add_7) _ _ (by (repeat ((conv => whnf); refine And.intro (by first | exact rfl | exact vint_eq (by omega) | exact vint_eq (by (dsimp only; omega)) | exact vsl_eq (by omega) | exact vsl_eq (by first | (dsimp only; omega) | (simp; done) | (simp; omega))) ?_)); exact trivial) ((Ref.perm (.swap _ _ _)).trans (Thin.ref (.own (by omega) rfl (.own (by omega) rfl (.own (by omega) rfl (.own (by omega) rfl (Thin.refl _))))))) (add_7 h _ _ _ _ _ _)

theorem add_12 (h : AddH w K Lb Lh E r N a1 a2 c1 c2 b6 xs ys) : ∀ (q1 : Option Addr) (q2 : Nat) (z1 : Option Addr) (z2 : Nat), VT Try.prog w [] ops_evergreenref12_Add_6 K tr_evergreenref12_Add_12 Lb [(29, .sl 26 q1 E.length q2), (33, .sl 33 z1 0 z2), (28, .v (.slice a1 E.length c1)), (30, .v (ruV r)), (35, .v (.slice a2 E.length c2)), (37, .v (.int .i64 N)), (44, .v (.int .i64 ((E.length : Int) + 1))), (6, .ptr 6 b6 0)] (.own 26 q1 E.length q2 ty_api_Rule 5 xs :: .own 33 z1 0 z2 ty_int 1 [] :: Lh) := by
  have hE := h.hE
  have o1 := h.o1
  have o2 := h.o2
  intro q1 q2 z1 z2
  (conv => whnf)
  refine stop_and ?_ ?_
  · (repeat' ((conv => whnf); first | refine ⟨xs, h.rs _, ?_⟩ | refine ⟨ys, h.rl _, ?_⟩ | refine And.intro (by first | exact o1 | exact o2 | exact fun _ => Thin.ref (.skip (h.th)) | exact fun _ => Thin.ref (.skip (.skip (h.th))) | exact fun _ => Thin.ref (.skip (.skip (.skip (h.th)))) | exact fun _ => Thin.ref (.skip (.skip (.skip (.skip (h.th))))) | exact Thin.ref (.skip (h.th)) | exact Thin.ref (.skip (.skip (h.th))) | exact Thin.ref (.skip (.skip (.skip (h.th)))) | exact Thin.ref (.skip (.skip (.skip (.skip (h.th))))) | exact ⟨rfl, oneAll_of rfl⟩ | exact oneAll_of rfl | exact rfl | exact ⟨rfl, rfl, rfl, rfl⟩ | exact ⟨rfl, rfl, rfl, rfl, rfl⟩ | exact ⟨by unfold maxLen; omega, by omega⟩ | omega) ?_ | intro _)); refine VC_can (t := tr_evergreenref12_Add_8) _ _ (by (repeat ((conv => whnf); refine And.intro (by first | exact rfl | exact vint_eq (by omega) | exact vint_eq (by (dsimp only; omega)) | exact vsl_eq (by omega) | exact vsl_eq (by first | (dsimp only; omega) | (simp; done) | (simp; omega))) ?_)); exact trivial) ((Ref.perm (.swap _ _ _)).trans (Thin.ref (.own (by omega) rfl (.own (by omega) rfl (.own (by omega) rfl (Thin.refl _)))))) (add_8 h _ _ _ _ _)
  (repeat' ((conv => whnf); first | refine ⟨xs, h.rs _, ?_⟩ | refine ⟨ys, h.rl _, ?_⟩ | refine And.intro (by first | exact o1 | exact o2 | exact fun _ => Thin.ref (.skip (h.th)) | exact fun _ => Thin.ref (.skip (.skip (h.th))) | exact fun _ => Thin.ref (.skip (.skip (.skip (h.th)))) | exact fun _ => Thin.ref (.skip (.skip (.skip (.skip (h.th))))) | exact Thin.ref (.skip (h.th)) | exact Thin.ref (.skip (.skip (h.th))) | exact Thin.ref (.skip (.skip (.skip (h.th)))) | exact Thin.ref (.skip (.skip (.skip (.skip (h.th))))) | exact ⟨rfl, oneAll_of rfl⟩ | exact oneAll_of rfl | exact rfl | exact ⟨rfl, rfl, rfl, rfl⟩ | exact ⟨rfl, rfl, rfl, rfl, rfl⟩ | exact ⟨by unfold maxLen; omega, by omega⟩ | omega) ?_ | intro _)); refine VC_can (t := tr_evergreenref12_Add_11) _ _ (by (repeat ((conv => whnf); refine And.intro (by first | exact rfl | exact vint_eq (by omega) | exact vint_eq (by (dsimp only; omega)) | exact vsl_eq (by omega) | exact vsl_eq (by first | (dsimp only; omega) | (simp; done) | (simp; omega))) ?_)); exact trivial) ((Ref.perm (.trans (.swap _ _ _) (.cons _ (.swap _ _ _)))).trans (Thin.ref (.own (by omega) rfl (.own (by omega) rfl (.own (by omega) rfl (Thin.refl _)))))) (add_11 h _ _ _ _ _)

theorem add_13 (h : AddH w K Lb Lh E r N a1 a2 c1 c2 b6 xs ys) : ∀ (q1 : Option Addr) (q2 : Nat) (z3 : Option Addr), VT Try.prog w [] ops_evergreenref12_Add_6 K tr_evergreenref12_Add_13 Lb [(29, .sl 26 q1 E.length q2), (38, .sl 38 z3 1 1), (28, .v (.slice a1 E.length c1)), (30, .v (ruV r)), (35, .v (.slice a2 E.length c2)), (37, .v (.int .i64 N)), (44, .v (.int .i64 ((E.length : Int) + 1))), (6, .ptr 6 b6 0)] (.own 26 q1 E.length q2 ty_api_Rule 5 xs :: .own 38 z3 1 1 ty_int 1 ([.int .i64 N]) :: Lh) := by
  have hE := h.hE
  have o1 := h.o1
  have o2 := h.o2
  intro q1 q2 z3
  (conv => whnf)
  refine stop_and ?_ ?_
  · (repeat' ((conv => whnf); first | refine ⟨xs, h.rs _, ?_⟩ | refine ⟨ys, h.rl _, ?_⟩ | refine And.intro (by first | exact o1 | exact o2 | exact fun _ => Thin.ref (.skip (h.th)) | exact fun _ => Thin.ref (.skip (.skip (h.th))) | exact fun _ => Thin.ref (.skip (.skip (.skip (h.th)))) | exact fun _ => Thin.ref (.skip (.skip (.skip (.skip (h.th))))) | exact Thin.ref (.skip (h.th)) | exact Thin.ref (.skip (.skip (h.th))) | exact Thin.ref (.skip (.skip (.skip (h.th)))) | exact Thin.ref (.skip (.skip (.skip (.skip (h.th))))) | exact ⟨rfl, oneAll_of rfl⟩ | exact oneAll_of rfl | exact rfl | exact ⟨rfl, rfl, rfl, rfl⟩ | exact ⟨rfl, rfl, rfl, rfl, rfl⟩ | exact ⟨by unfold maxLen; omega, by omega⟩ | omega) ?_ | intro _)); refine VC_can (t := tr_evergreenref12_Add_9) _ _ (by (repeat ((conv => whnf); refine And.intro (by first | exact rfl | exact vint_eq (by omega) | exact vint_eq (by (dsimp only; omega)) | exact vsl_eq (by omega) | exact vsl_eq (by first | (dsimp only; omega) | (simp; done) | (simp; omega))) ?_)); exact trivial) ((Ref.perm (.swap _ _ _)).trans (Thin.ref (.own (by omega) rfl (.own (by omega) rfl (.own (by omega) rfl (Thin.refl _)))))) (add_9 h _ _ _ _)
  (repeat' ((conv => whnf); first | refine ⟨xs, h.rs _, ?_⟩ | refine ⟨ys, h.rl _, ?_⟩ | refine And.intro (by first | exact o1 | exact o2 | exact fun _ => Thin.ref (.skip (h.th)) | exact fun _ => Thin.ref (.skip (.skip (h.th))) | exact fun _ => Thin.ref (.skip (.skip (.skip (h.th)))) | exact fun _ => Thin.ref (.skip (.skip (.skip (.skip (h.th))))) | exact Thin.ref (.skip (h.th)) | exact Thin.ref (.skip (.skip (h.th))) | exact Thin.ref (.skip (.skip (.skip (h.th)))) | exact Thin.ref (.skip (.skip (.skip (.skip (h.th))))) | exact ⟨rfl, oneAll_of rfl⟩ | exact oneAll_of rfl | exact rfl | exact ⟨rfl, rfl, rfl, rfl⟩ | exact ⟨rfl, rfl, rfl, rfl, rfl⟩ | exact ⟨by unfold maxLen; omega, by omega⟩ | omega) ?_ | intro _)); refine VC_can (t := tr_evergreenref12_Add_11) _ _ (by (repeat ((conv => whnf); refine And.intro (by first | exact rfl | exact vint_eq (by omega) | exact vint_eq (by (dsimp only; omega)) | exact vsl_eq (by omega) | exact vsl_eq (by first | (dsimp only; omega) | (simp; done) | (simp; omega))) ?_)); exact trivial) ((Ref.perm (.swap _ _ _)).trans (Thin.ref (.own (by omega) rfl (.own (by omega) rfl (.own (by omega) rfl (Thin.refl _)))))) (add_11 h _ _ _ _ _)

theorem add_14 (h : AddH w K Lb Lh E r N a1 a2 c1 c2 b6 xs ys) : ∀ (q1 : Option Addr) (q2 : Nat), VT Try.prog w [] ops_evergreenref12_Add_6 K tr_evergreenref12_Add_14 Lb [(29, .sl 26 q1 E.length q2), (28, .v (.slice a1 E.length c1)), (30, .v (ruV r)), (35, .v (.slice a2 E.length c2)), (37, .v (.int .i64 N)), (44, .v (.int .i64 ((E.length : Int) + 1))), (6, .ptr 6 b6 0)] (.own 26 q1 E.length q2 ty_api_Rule 5 xs :: Lh) := by
  have hE := h.hE
  have o1 := h.o1
  have o2 := h.o2
  intro q1 q2
  (conv => whnf)
  refine stop_and ?_ ?_
  · (repeat' ((conv => whnf); first | refine ⟨xs, h.rs _, ?_⟩ | refine ⟨ys, h.rl _, ?_⟩ | refine And.intro (by first | exact o1 | exact o2 | exact fun _ => Thin.ref (.skip (h.th)) | exact fun _ => Thin.ref (.skip (.skip (h.th))) | exact fun _ => Thin.ref (.skip (.skip (.skip (h.th)))) | exact fun _ => Thin.ref (.skip (.skip (.skip (.skip (h.th))))) | exact Thin.ref (.skip (h.th)) | exact Thin.ref (.skip (.skip (h.th))) | exact Thin.ref (.skip (.skip (.skip (h.th)))) | exact Thin.ref (.skip (.skip (.skip (.skip (h.th))))) | exact ⟨rfl, oneAll_of rfl⟩ | exact oneAll_of rfl | exact rfl | exact ⟨rfl, rfl, rfl, rfl⟩ | exact ⟨rfl, rfl, rfl, rfl, rfl⟩ | exact ⟨by unfold maxLen; omega, by omega⟩ | omega) ?_ | intro _)); refine VC_can (t := tr_evergreenref12_Add_10) _ _ (by (repeat ((conv => whnf); refine And.intro (by first | exact rfl | exact vint_eq (by omega) | exact vint_eq (by (dsimp only; omega)) | exact vsl_eq (by omega) | exact vsl_eq (by first | (dsimp only; omega) | (simp; done) | (simp; omega))) ?_)); exact trivial) ((Ref.perm (.swap _ _ _)).trans (Thin.ref (.own (by omega) rfl (.own (by omega) rfl (Thin.refl _))))) (add_10 h _ _ _)
  (conv => whnf)
  refine stop_and ?_ ?_
  · (repeat' ((conv => whnf); first | refine ⟨xs, h.rs _, ?_⟩ | refine ⟨ys, h.rl _, ?_⟩ | refine And.intro (by first | exact o1 | exact o2 | exact fun _ => Thin.ref (.skip (h.th)) | exact fun _ => Thin.ref (.skip (.skip (h.th))) | exact fun _ => Thin.ref (.skip (.skip (.skip (h.th)))) | exact fun _ => Thin.ref (.skip (.skip (.skip (.skip (h.th))))) | exact Thin.ref (.skip (h.th)) | exact Thin.ref (.skip (.skip (h.th))) | exact Thin.ref (.skip (.skip (.skip (h.th)))) | exact Thin.ref (.skip (.skip (.skip (.skip (h.th))))) | exact ⟨rfl, oneAll_of rfl⟩ | exact oneAll_of rfl | exact rfl | exact ⟨rfl, rfl, rfl, rfl⟩ | exact ⟨rfl, rfl, rfl, rfl, rfl⟩ | exact ⟨by unfold maxLen; omega, by omega⟩ | omega) ?_ | intro _)); refine VC_can (t := tr_evergreenref12_Add_12) _ _ (by (repeat ((conv => whnf); refine And.intro (by first | exact rfl | exact vint_eq (by omega) | exact vint_eq (by (dsimp only; omega)) | exact vsl_eq (by omega) | exact vsl_eq (by first | (dsimp only; omega) | (simp; done) | (simp; omega))) ?_)); exact trivial) ((Ref.perm (.swap _ _ _)).trans (Thin.ref (.own (by omega) rfl (.own (by omega) rfl (Thin.refl _))))) (add_12 h _ _ _ _)
  (repeat' ((conv => whnf); first | refine ⟨xs, h.rs _, ?_⟩ | refine ⟨ys, h.rl _, ?_⟩ | refine And.intro (by first | exact o1 | exact o2 | exact fun _ => Thin.ref (.skip (h.th)) | exact fun _ => Thin.ref (.skip (.skip (h.th))) | exact fun _ => Thin.ref (.skip (.skip (.skip (h.th)))) | exact fun _ => Thin.ref (.skip (.skip (.skip (.skip (h.th))))) | exact Thin.ref (.skip (h.th)) | exact Thin.ref (.skip (.skip (h.th))) | exact Thin.ref (.skip (.skip (.skip (h.th)))) | exact Thin.ref (.skip (.skip (.skip (.skip (h.th))))) | exact ⟨rfl, oneAll_of rfl⟩ | exact oneAll_of rfl | exact rfl | exact ⟨rfl, rfl, rfl, rfl⟩ | exact ⟨rfl, rfl, rfl, rfl, rfl⟩ | exact ⟨by unfold maxLen; omega, by omega⟩ | omega) ?_ | intro _)); refine VC_can (t := tr_evergreenref12_Add_13) _ _ (by (repeat ((conv => whnf); refine And.intro (by first | exact rfl | exact vint_eq (by omega) | exact vint_eq (by (dsimp only; omega)) | exact vsl_eq (by omega) | exact vsl_eq (by first | (dsimp only; omega) | (simp; done) | (simp; omega))) ?_)); exact trivial) ((Ref.perm (.swap _ _ _)).trans (Thin.ref (.own (by omega) rfl (.own (by omega) rfl (Thin.refl _))))) (add_13 h _ _ _)

theorem add_15 (h : AddH w K Lb Lh E r N a1 a2 c1 c2 b6 xs ys) : ∀ (q1 : Option Addr) (q2 : Nat) (q3 : Option Addr) (z1 : Option Addr) (z2 : Nat) (z3 : Option Addr), VT Try.prog w [] ops_evergreenref12_Add_6 K tr_evergreenref12_Add_15 Lb [(26, .sl 26 q1 0 q2), (31, .sl 31 q3 1 1), (33, .sl 33 z1 0 z2), (38, .sl 38 z3 1 1), (28, .v (.slice a1 E.length c1)), (30, .v (ruV r)), (35, .v (.slice a2 E.length c2)), (37, .v (.int .i64 N)), (44, .v (.int .i64 ((E.length : Int) + 1))), (6, .ptr 6 b6 0)] (.own 26 q1 0 q2 ty_api_Rule 5 [] :: .own 31 q3 1 1 ty_api_Rule 5 (ruC r) :: .own 33 z1 0 z2 ty_int 1 [] :: .own 38 z3 1 1 ty_int 1 ([.int .i64 N]) :: Lh) := by
  have hE := h.hE
  have o1 := h.o1
  have o2 := h.o2
  intro q1 q2 q3 z1 z2 z3
  (repeat' ((conv => whnf); first | refine ⟨xs, h.rs _, ?_⟩ | refine ⟨ys, h.rl _, ?_⟩ | refine And.intro (by first | exact o1 | exact o2 | exact fun _ => Thin.ref (.skip (h.th)) | exact fun _ => Thin.ref (.skip (.skip (h.th))) | exact fun _ => Thin.ref (.skip (.skip (.skip (h.th)))) | exact fun _ => Thin.ref (.skip (.skip (.skip (.skip (h.th))))) | exact Thin.ref (.skip (h.th)) | exact Thin.ref (.skip (.skip (h.th))) | exact Thin.ref (.skip (.skip (.skip (h.th)))) | exact Thin.ref (.skip (.skip (.skip (.skip (h.th))))) | exact ⟨rfl, oneAll_of rfl⟩ | exact oneAll_of rfl | exact rfl | exact ⟨rfl, rfl, rfl, rfl⟩ | exact ⟨rfl, rfl, rfl, rfl, rfl⟩ | exact ⟨by unfold maxLen; omega, by omega⟩ | omega) ?_ | intro _)); refine VC_can (t := tr_evergreenref12_Add_7) _ _ (by (repeat ((conv => whnf); refine And.intro (by first | exact rfl | exact vint_eq (by omega) | exact vint_eq (by (dsimp only; omega)) | exact vsl_eq (by omega) | exact vsl_eq (by first | (dsimp only; omega) | (simp; done) | (simp; omega))) ?_)); exact trivial) (Thin.ref (.own (by omega) rfl (.own (by omega) rfl (.own (by omega) rfl (.own (by omega) rfl (Thin.refl _)))))) (add_7 h _ _ _ _ _ _)

theorem add_16 (h : AddH w K Lb Lh E r N a1 a2 c1 c2 b6 xs ys) : ∀ (q1 : Option Addr) (q2 : Nat) (q3 : Option Addr) (z1 : Option Addr) (z2 : Nat), VT Try.prog w [] ops_evergreenref12_Add_6 K tr_evergreenref12_Add_16 Lb [(26, .sl 26 q1 0 q2), (31, .sl 31 q3 1 1), (33, .sl 33 z1 0 z2), (28, .v (.slice a1 E.length c1)), (30, .v (ruV r)), (35, .v (.slice a2 E.length c2)), (37, .v (.int .i64 N)), (44, .v (.int .i64 ((E.length : Int) + 1))), (6, .ptr 6 b6 0)] (.own 26 q1 0 q2 ty_api_Rule 5 [] :: .own 31 q3 1 1 ty_api_Rule 5 (ruC r) :: .own 33 z1 0 z2 ty_int 1 [] :: Lh) := by
  have hE := h.hE
  have o1 := h.o1
  have o2 := h.o2
  intro q1 q2 q3 z1 z2
  (conv => whnf)
  refine stop_and ?_ ?_
  · (repeat' ((conv => whnf); first | refine ⟨xs, h.rs _, ?_⟩ | refine ⟨ys, h.rl _, ?_⟩ | refine And.intro (by first | exact o1 | exact o2 | exact fun _ => Thin.ref (.skip (h.th)) | exact fun _ => Thin.ref (.skip (.skip (h.th))) | exact fun _ => Thin.ref (.skip (.skip (.skip (h.th)))) | exact fun _ => Thin.ref (.skip (.skip (.skip (.skip (h.th))))) | exact Thin.ref (.skip (h.th)) | exact Thin.ref (.skip (.skip (h.th))) | exact Thin.ref (.skip (.skip (.skip (h.th)))) | exact Thin.ref (.skip (.skip (.skip (.skip (h.th))))) | exact ⟨rfl, oneAll_of rfl⟩ | exact oneAll_of rfl | exact rfl | exact ⟨rfl, rfl, rfl, rfl⟩ | exact ⟨rfl, rfl, rfl, rfl, rfl⟩ | exact ⟨by unfold maxLen; omega, by omega⟩ | omega) ?_ | intro _)); refine VC_can (t := tr_evergreenref12_Add_8) _ _ (by (repeat ((conv => whnf); refine And.intro (by first | exact rfl | exact vint_eq (by omega) | exact vint_eq (by (dsimp only; omega)) | exact vsl_eq (by omega) | exact vsl_eq (by first | (dsimp only; omega) | (simp; done) | (simp; omega))) ?_)); exact trivial) (Thin.ref (.own (by omega) rfl (.own (by omega) rfl (.own (by omega) rfl (Thin.refl _))))) (add_8 h _ _ _ _ _)
  (repeat' ((conv => whnf); first | refine ⟨xs, h.rs _, ?_⟩ | refine ⟨ys, h.rl _, ?_⟩ | refine And.intro (by first | exact o1 | exact o2 | exact fun _ => Thin.ref (.skip (h.th)) | exact fun _ => Thin.ref (.skip (.skip (h.th))) | exact fun _ => Thin.ref (.skip (.skip (.skip (h.th)))) | exact fun _ => Thin.ref (.skip (.skip (.skip (.skip (h.th))))) | exact Thin.ref (.skip (h.th)) | exact Thin.ref (.skip (.skip (h.th))) | exact Thin.ref (.skip (.skip (.skip (h.th)))) | exact Thin.ref (.skip (.skip (.skip (.skip (h.th))))) | exact ⟨rfl, oneAll_of rfl⟩ | exact oneAll_of rfl | exact rfl | exact ⟨rfl, rfl, rfl, rfl⟩ | exact ⟨rfl, rfl, rfl, rfl, rfl⟩ | exact ⟨by unfold maxLen; omega, by omega⟩ | omega) ?_ | intro _)); refine VC_can (t := tr_evergreenref12_Add_15) _ _ (by (repeat ((conv => whnf); refine And.intro (by first | exact rfl | exact vint_eq (by omega) | exact vint_eq (by (dsimp only; omega)) | exact vsl_eq (by omega) | exact vsl_eq (by first | (dsimp only; omega) | (simp; done) | (simp; omega))) ?_)); exact trivial) ((Ref.perm (.trans (.swap _ _ _) (.trans (.cons _ (.swap _ _ _)) (.cons _ (.cons _ (.swap _ _ _)))))).trans (Thin.ref (.own (by omega) rfl (.own (by omega) rfl (.own (by omega) rfl (.own (by omega) rfl (Thin.refl _))))))) (add_15 h _ _ _ _ _ _)

theorem add_17 (h : AddH w K Lb Lh E r N a1 a2 c1 c2 b6 xs ys) : ∀ (q1 : Option Addr) (q2 : Nat) (q3 : Option Addr) (z3 : Option Addr), VT Try.prog w [] ops_evergreenref12_Add_6 K tr_evergreenref12_Add_17 Lb [(26, .sl 26 q1 0 q2), (31, .sl 31 q3 1 1), (38, .sl 38 z3 1 1), (28, .v (.slice a1 E.length c1)), (30, .v (ruV r)), (35, .v (.slice a2 E.length c2)), (37, .v (.int .i64 N)), (44, .v (.int .i64 ((E.length : Int) + 1))), (6, .ptr 6 b6 0)] (.own 26 q1 0 q2 ty_api_Rule 5 [] :: .own 31 q3 1 1 ty_api_Rule 5 (ruC r) :: .own 38 z3 1 1 ty_int 1 ([.int .i64 N]) :: Lh) := by
  have hE := h.hE
  have o1 := h.o1
  have o2 := h.o2
  intro q1 q2 q3 z3
  (conv => whnf)
  refine stop_and ?_ ?_
  · (repeat' ((conv => whnf); first | refine ⟨xs, h.rs _, ?_⟩ | refine ⟨ys, h.rl _, ?_⟩ | refine And.intro (by first | exact o1 | exact o2 | exact fun _ => Thin.ref (.skip (h.th)) | exact fun _ => Thin.ref (.skip (.skip (h.th))) | exact fun _ => Thin.ref (.skip (.skip (.skip (h.th)))) | exact fun _ => Thin.ref (.skip (.skip (.skip (.skip (h.th))))) | exact Thin.ref (.skip (h.th)) | exact Thin.ref (.skip (.skip (h.th))) | exact Thin.ref (.skip (.skip (.skip (h.th)))) | exact Thin.ref (.skip (.skip (.skip (.skip (h.th))))) | exact ⟨rfl, oneAll_of rfl⟩ | exact oneAll_of rfl | exact rfl | exact ⟨rfl, rfl, rfl, rfl⟩ | exact ⟨rfl, rfl, rfl, rfl, rfl⟩ | exact ⟨by unfold maxLen; omega, by omega⟩ | omega) ?_ | intro _)); refine VC_can (t := tr_evergreenref12_Add_9) _ _ (by (repeat ((conv => whnf); refine And.intro (by first | exact rfl | exact vint_eq (by omega) | exact vint_eq (by (dsimp only; omega)) | exact vsl_eq (by omega) | exact vsl_eq (by first | (dsimp only; omega) | (simp; done) | (simp; omega))) ?_)); exact trivial) (Thin.ref (.own (by omega) rfl (.own (by omega) rfl (.own (by omega) rfl (Thin.refl _))))) (add_9 h _ _ _ _)
  (repeat' ((conv => whnf); first | refine ⟨xs, h.rs _, ?_⟩ | refine ⟨ys, h.rl _, ?_⟩ | refine And.intro (by first | exact o1 | exact o2 | exact fun _ => Thin.ref (.skip (h.th)) | exact fun _ => Thin.ref (.skip (.skip (h.th))) | exact fun _ => Thin.ref (.skip (.skip (.skip (h.th)))) | exact fun _ => Thin.ref (.skip (.skip (.skip (.skip (h.th))))) | exact Thin.ref (.skip (h.th)) | exact Thin.ref (.skip (.skip (h.th))) | exact Thin.ref (.skip (.skip (.skip (h.th)))) | exact Thin.ref (.skip (.skip (.skip (.skip (h.th))))) | exact ⟨rfl, oneAll_of rfl⟩ | exact oneAll_of rfl | exact rfl | exact ⟨rfl, rfl, rfl, rfl⟩ | exact ⟨rfl, rfl, rfl, rfl, rfl⟩ | exact ⟨by unfold maxLen; omega, by omega⟩ | omega) ?_ | intro _)); refine VC_can (t := tr_evergreenref12_Add_15) _ _ (by (repeat ((conv => whnf); refine And.intro (by first | exact rfl | exact vint_eq (by omega) | exact vint_eq (by (dsimp only; omega)) | exact vsl_eq (by omega) | exact vsl_eq (by first | (dsimp only; omega) | (simp; done) | (simp; omega))) ?_)); exact trivial) ((Ref.perm (.trans (.swap _ _ _) (.cons _ (.swap _ _ _)))).trans (Thin.ref (.own (by omega) rfl (.own (by omega) rfl (.own (by omega) rfl (.own (by omega) rfl (Thin.refl _))))))) (add_15 h _ _ _ _ _ _)

theorem add_18 (h : AddH w K Lb Lh E r N a1 a2 c1 c2 b6 xs ys) : ∀ (q1 : Option Addr) (q2 : Nat) (q3 : Option Addr), VT Try.prog w [] ops_evergreenref12_Add_6 K tr_evergreenref12_Add_18 Lb [(26, .sl 26 q1 0 q2), (31, .sl 31 q3 1 1), (28, .v (.slice a1 E.length c1)), (30, .v (ruV r)), (35, .v (.slice a2 E.length c2)), (37, .v (.int .i64 N)), (44, .v (.int .i64 ((E.length : Int) + 1))), (6, .ptr 6 b6 0)] (.own 26 q1 0 q2 ty_api_Rule 5 [] :: .own 31 q3 1 1 ty_api_Rule 5 (ruC r) :: Lh) := by
  have hE := h.hE
  have o1 := h.o1
  have o2 := h.o2
  intro q1 q2 q3
  (conv => whnf)
  refine stop_and ?_ ?_
  · (repeat' ((conv => whnf); first | refine ⟨xs, h.rs _, ?_⟩ | refine ⟨ys, h.rl _, ?_⟩ | refine And.intro (by first | exact o1 | exact o2 | exact fun _ => Thin.ref (.skip (h.th)) | exact fun _ => Thin.ref (.skip (.skip (h.th))) | exact fun _ => Thin.ref (.skip (.skip (.skip (h.th)))) | exact fun _ => Thin.ref (.skip (.skip (.skip (.skip (h.th))))) | exact Thin.ref (.skip (h.th)) | exact Thin.ref (.skip (.skip (h.th))) | exact Thin.ref (.skip (.skip (.skip (h.th)))) | exact Thin.ref (.skip (.skip (.skip (.skip (h.th))))) | exact ⟨rfl, oneAll_of rfl⟩ | exact oneAll_of rfl | exact rfl | exact ⟨rfl, rfl, rfl, rfl⟩ | exact ⟨rfl, rfl, rfl, rfl, rfl⟩ | exact ⟨by unfold maxLen; omega, by omega⟩ | omega) ?_ | intro _)); refine VC_can (t := tr_evergreenref12_Add_10) _ _ (by (repeat ((conv => whnf); refine And.intro (by first | exact rfl | exact vint_eq (by omega) | exact vint_eq (by (dsimp only; omega)) | exact vsl_eq (by omega) | exact vsl_eq (by first | (dsimp only; omega) | (simp; done) | (simp; omega))) ?_)); exact trivial) (Thin.ref (.own (by omega) rfl (.own (by omega) rfl (Thin.refl _)))) (add_10 h _ _ _)
  (conv => whnf)
  refine stop_and ?_ ?_
  · (repeat' ((conv => whnf); first | refine ⟨xs, h.rs _, ?_⟩ | refine ⟨ys, h.rl _, ?_⟩ | refine And.intro (by first | exact o1 | exact o2 | exact fun _ => Thin.ref (.skip (h.th)) | exact fun _ => Thin.ref (.skip (.skip (h.th))) | exact fun _ => Thin.ref (.skip (.skip (.skip (h.th)))) | exact fun _ => Thin.ref (.skip (.skip (.skip (.skip (h.th))))) | exact Thin.ref (.skip (h.th)) | exact Thin.ref (.skip (.skip (h.th))) | exact Thin.ref (.skip (.skip (.skip (h.th)))) | exact Thin.ref (.skip (.skip (.skip (.skip (h.th))))) | exact ⟨rfl, oneAll_of rfl⟩ | exact oneAll_of rfl | exact rfl | exact ⟨rfl, rfl, rfl, rfl⟩ | exact ⟨rfl, rfl, rfl, rfl, rfl⟩ | exact ⟨by unfold maxLen; omega, by omega⟩ | omega) ?_ | intro _)); refine VC_can (t := tr_evergreenref12_Add_16) _ _ (by (repeat ((conv => whnf); refine And.intro (by first | exact rfl | exact vint_eq (by omega) | exact vint_eq (by (dsimp only; omega)) | exact vsl_eq (by omega) | exact vsl_eq (by first | (dsimp only; omega) | (simp; done) | (simp; omega))) ?_)); exact trivial) ((Ref.perm (.trans (.swap _ _ _) (.cons _ (.swap _ _ _)))).trans (Thin.ref (.own (by omega) rfl (.own (by omega) rfl (.own (by omega) rfl (Thin.refl _)))))) (add_16 h _ _ _ _ _)
  (repeat' ((conv => whnf); first | refine ⟨xs, h.rs _, ?_⟩ | refine ⟨ys, h.rl _, ?_⟩ | refine And.intro (by first | exact o1 | exact o2 | exact fun _ => Thin.ref (.skip (h.th)) | exact fun _ => Thin.ref (.skip (.skip (h.th))) | exact fun _ => Thin.ref (.skip (.skip (.skip (h.th)))) | exact fun _ => Thin.ref (.skip (.skip (.skip (.skip (h.th))))) | exact Thin.ref (.skip (h.th)) | exact Thin.ref (.skip (.skip (h.th))) | exact Thin.ref (.skip (.skip (.skip (h.th)))) | exact Thin.ref (.skip (.skip (.skip (.skip (h.th))))) | exact ⟨rfl, oneAll_of rfl⟩ | exact oneAll_of rfl | exact rfl | exact ⟨rfl, rfl, rfl, rfl⟩ | exact ⟨rfl, rfl, rfl, rfl, rfl⟩ | exact ⟨by unfold maxLen; omega, by omega⟩ | omega) ?_ | intro _)); refine VC_can (t := tr_evergreenref12_Add_17) _ _ (by (repeat ((conv => whnf); refine And.intro (by first | exact rfl | exact vint_eq (by omega) | exact vint_eq (by (dsimp only; omega)) | exact vsl_eq (by omega) | exact vsl_eq (by first | (dsimp only; omega) | (simp; done) | (simp; omega))) ?_)); exact trivial) ((Ref.perm (.trans (.swap _ _ _) (.cons _ (.swap _ _ _)))).trans (Thin.ref (.own (by omega) rfl (.own (by omega) rfl (.own (by omega) rfl (Thin.refl _)))))) (add_17 h _ _ _ _)

theorem add_19 (h : AddH w K Lb Lh E r N a1 a2 c1 c2 b6 xs ys) : ∀ (q1 : Option Addr) (q2 : Nat) (z1 : Option Addr) (z2 : Nat) (z3 : Option Addr), VT Try.prog w [] ops_evergreenref12_Add_6 K tr_evergreenref12_Add_19 Lb [(26, .sl 26 q1 0 q2), (33, .sl 33 z1 0 z2), (38, .sl 38 z3 1 1), (28, .v (.slice a1 E.length c1)), (30, .v (ruV r)), (35, .v (.slice a2 E.length c2)), (37, .v (.int .i64 N)), (44, .v (.int .i64 ((E.length : Int) + 1))), (6, .ptr 6 b6 0)] (.own 26 q1 0 q2 ty_api_Rule 5 [] :: .own 33 z1 0 z2 ty_int 1 [] :: .own 38 z3 1 1 ty_int 1 ([.int .i64 N]) :: Lh) := by
  have hE := h.hE
  have o1 := h.o1
  have o2 := h.o2
  intro q1 q2 z1 z2 z3
  (conv => whnf)
  refine stop_and ?_ ?_
  · (repeat' ((conv => whnf); first | refine ⟨xs, h.rs _, ?_⟩ | refine ⟨ys, h.rl _, ?_⟩ | refine And.intro (by first | exact o1 | exact o2 | exact fun _ => Thin.ref (.skip (h.th)) | exact fun _ => Thin.ref (.skip (.skip (h.th))) | exact fun _ => Thin.ref (.skip (.skip (.skip (h.th)))) | exact fun _ => Thin.ref (.skip (.skip (.skip (.skip (h.th))))) | exact Thin.ref (.skip (h.th)) | exact Thin.ref (.skip (.skip (h.th))) | exact Thin.ref (.skip (.skip (.skip (h.th)))) | exact Thin.ref (.skip (.skip (.skip (.skip (h.th))))) | exact ⟨rfl, oneAll_of rfl⟩ | exact oneAll_of rfl | exact rfl | exact ⟨rfl, rfl, rfl, rfl⟩ | exact ⟨rfl, rfl, rfl, rfl, rfl⟩ | exact ⟨by unfold maxLen; omega, by omega⟩ | omega) ?_ | intro _)); refine VC_can (t := tr_evergreenref12_Add_11) _ _ (by (repeat ((conv => whnf); refine And.intro (by first | exact rfl | exact vint_eq (by omega) | exact vint_eq (by (dsimp only; omega)) | exact vsl_eq (by omega) | exact vsl_eq (by first | (dsimp only; omega) | (simp; done) | (simp; omega))) ?_)); exact trivial) (Thin.ref (.own (by omega) rfl (.own (by omega) rfl (.own (by omega) rfl (Thin.refl _))))) (add_11 h _ _ _ _ _)
  (repeat' ((conv => whnf); first | refine ⟨xs, h.rs _, ?_⟩ | refine ⟨ys, h.rl _, ?_⟩ | refine And.intro (by first | exact o1 | exact o2 | exact fun _ => Thin.ref (.skip (h.th)) | exact fun _ => Thin.ref (.skip (.skip (h.th))) | exact fun _ => Thin.ref (.skip (.skip (.skip (h.th)))) | exact fun _ => Thin.ref (.skip (.skip (.skip (.skip (h.th))))) | exact Thin.ref (.skip (h.th)) | exact Thin.ref (.skip (.skip (h.th))) | exact Thin.ref (.skip (.skip (.skip (h.th)))) | exact Thin.ref (.skip (.skip (.skip (.skip (h.th))))) | exact ⟨rfl, oneAll_of rfl⟩ | exact oneAll_of rfl | exact rfl | exact ⟨rfl, rfl, rfl, rfl⟩ | exact ⟨rfl, rfl, rfl, rfl, rfl⟩ | exact ⟨by unfold maxLen; omega, by omega⟩ | omega) ?_ | intro _)); refine VC_can (t := tr_evergreenref12_Add_15) _ _ (by (repeat ((conv => whnf); refine And.intro (by first | exact rfl | exact vint_eq (by omega) | exact vint_eq (by (dsimp only; omega)) | exact vsl_eq (by omega) | exact vsl_eq (by first | (dsimp only; omega) | (simp; done) | (simp; omega))) ?_)); exact trivial) ((Ref.perm (.swap _ _ _)).trans (Thin.ref (.own (by omega) rfl (.own (by omega) rfl (.own (by omega) rfl (.own (by omega) rfl (Thin.refl _))))))) (add_15 h _ _ _ _ _ _)

theorem add_20 (h : AddH w K Lb Lh E r N a1 a2 c1 c2 b6 xs ys) : ∀ (q1 : Option Addr) (q2 : Nat) (z1 : Option Addr) (z2 : Nat), VT Try.prog w [] ops_evergreenref12_Add_6 K tr_evergreenref12_Add_20 Lb [(26, .sl 26 q1 0 q2), (33, .sl 33 z1 0 z2), (28, .v (.slice a1 E.length c1)), (30, .v (ruV r)), (35, .v (.slice a2 E.length c2)), (37, .v (.int .i64 N)), (44, .v (.int .i64 ((E.length : Int) + 1))), (6, .ptr 6 b6 0)] (.own 26 q1 0 q2 ty_api_Rule 5 [] :: .own 33 z1 0 z2 ty_int 1 [] :: Lh) := by
  have hE := h.hE
  have o1 := h.o1
  have o2 := h.o2
  intro q1 q2 z1 z2
  (conv => whnf)
  refine stop_and ?_ ?_
  · (repeat' ((conv => whnf); first | refine ⟨xs, h.rs _, ?_⟩ | refine ⟨ys, h.rl _, ?_⟩ | refine And.intro (by first | exact o1 | exact o2 | exact fun _ => Thin.ref (.skip (h.th)) | exact fun _ => Thin.ref (.skip (.skip (h.th))) | exact fun _ => Thin.ref (.skip (.skip (.skip (h.th)))) | exact fun _ => Thin.ref (.skip (.skip (.skip (.skip (h.th))))) | exact Thin.ref (.skip (h.th)) | exact Thin.ref (.skip (.skip (h.th))) | exact Thin.ref (.skip (.skip (.skip (h.th)))) | exact Thin.ref (.skip (.skip (.skip (.skip (h.th))))) | exact ⟨rfl, oneAll_of rfl⟩ | exact oneAll_of rfl | exact rfl | exact ⟨rfl, rfl, rfl, rfl⟩ | exact ⟨rfl, rfl, rfl, rfl, rfl⟩ | exact ⟨by unfold maxLen; omega, by omega⟩ | omega) ?_ | intro _)); refine VC_can (t := tr_evergreenref12_Add_12) _ _ (by (repeat ((conv => whnf); refine And.intro (by first | exact rfl | exact vint_eq (by omega) | exact vint_eq (by (dsimp only; omega)) | exact vsl_eq (by omega) | exact vsl_eq (by first | (dsimp only; omega) | (simp; done) | (simp; omega))) ?_)); exact trivial) (Thin.ref (.own (by omega) rfl (.own (by omega) rfl (Thin.refl _)))) (add_12 h _ _ _ _)
  (conv => whnf)
  refine stop_and ?_ ?_
  · (repeat' ((conv => whnf); first | refine ⟨xs, h.rs _, ?_⟩ | refine ⟨ys, h.rl _, ?_⟩ | refine And.intro (by first | exact o1 | exact o2 | exact fun _ => Thin.ref (.skip (h.th)) | exact fun _ => Thin.ref (.skip (.skip (h.th))) | exact fun _ => Thin.ref (.skip (.skip (.skip (h.th)))) | exact fun _ => Thin.ref (.skip (.skip (.skip (.skip (h.th))))) | exact Thin.ref (.skip (h.th)) | exact Thin.ref (.skip (.skip (h.th))) | exact Thin.ref (.skip (.skip (.skip (h.th)))) | exact Thin.ref (.skip (.skip (.skip (.skip (h.th))))) | exact ⟨rfl, oneAll_of rfl⟩ | exact oneAll_of rfl | exact rfl | exact ⟨rfl, rfl, rfl, rfl⟩ | exact ⟨rfl, rfl, rfl, rfl, rfl⟩ | exact ⟨by unfold maxLen; omega, by omega⟩ | omega) ?_ | intro _)); refine VC_can (t := tr_evergreenref12_Add_16) _ _ (by (repeat ((conv => whnf); refine And.intro (by first | exact rfl | exact vint_eq (by omega) | exact vint_eq (by (dsimp only; omega)) | exact vsl_eq (by omega) | exact vsl_eq (by first | (dsimp only; omega) | (simp; done) | (simp; omega))) ?_)); exact trivial) ((Ref.perm (.swap _ _ _)).trans (Thin.ref (.own (by omega) rfl (.own (by omega) rfl (.own (by omega) rfl (Thin.refl _)))))) (add_16 h _ _ _ _ _)
  (repeat' ((conv => whnf); first | refine ⟨xs, h.rs _, ?_⟩ | refine ⟨ys, h.rl _, ?_⟩ | refine And.intro (by first | exact o1 | exact o2 | exact fun _ => Thin.ref (.skip (h.th)) | exact fun _ => Thin.ref (.skip (.skip (h.th))) | exact fun _ => Thin.ref (.skip (.skip (.skip (h.th)))) | exact fun _ => Thin.ref (.skip (.skip (.skip (.skip (h.th))))) | exact Thin.ref (.skip (h.th)) | exact Thin.ref (.skip (.skip (h.th))) | exact Thin.ref (.skip (.skip (.skip (h.th)))) | exact Thin.ref (.skip (.skip (.skip (.skip (h.th))))) | exact ⟨rfl, oneAll_of rfl⟩ | exact oneAll_of rfl | exact rfl | exact ⟨rfl, rfl, rfl, rfl⟩ | exact ⟨rfl, rfl, rfl, rfl, rfl⟩ | exact ⟨by unfold maxLen; omega, by omega⟩ | omega) ?_ | intro _)); refine VC_can (t := tr_evergreenref12_Add_19) _ _ (by (repeat ((conv => whnf); refine And.intro (by first | exact rfl | exact vint_eq (by omega) | exact vint_eq (by (dsimp only; omega)) | exact vsl_eq (by omega) | exact vsl_eq (by first | (dsimp only; omega) | (simp; done) | (simp; omega))) ?_)); exact trivial) ((Ref.perm (.trans (.swap _ _ _) (.cons _ (.swap _ _ _)))).trans (Thin.ref (.own (by omega) rfl (.own (by omega) rfl (.own (by omega) rfl (Thin.refl _)))))) (add_19 h _ _ _ _ _)

theorem add_21 (h : AddH w K Lb Lh E r N a1 a2 c1 c2 b6 xs ys) : ∀ (q1 : Option Addr) (q2 : Nat) (z3 : Option Addr), VT Try.prog w [] ops_evergreenref12_Add_6 K tr_evergreenref12_Add_21 Lb [(26, .sl 26 q1 0 q2), (38, .sl 38 z3 1 1), (28, .v (.slice a1 E.length c1)), (30, .v (ruV r)), (35, .v (.slice a2 E.length c2)), (37, .v (.int .i64 N)), (44, .v (.int .i64 ((E.length : Int) + 1))), (6, .ptr 6 b6 0)] (.own 26 q1 0 q2 ty_api_Rule 5 [] :: .own 38 z3 1 1 ty_int 1 ([.int .i64 N]) :: Lh) := by
  have hE := h.hE
  have o1 := h.o1
  have o2 := h.o2
  intro q1 q2 z3
  (conv => whnf)
  refine stop_and ?_ ?_
  · (repeat' ((conv => whnf); first | refine ⟨xs, h.rs _, ?_⟩ | refine ⟨ys, h.rl _, ?_⟩ | refine And.intro (by first | exact o1 | exact o2 | exact fun _ => Thin.ref (.skip (h.th)) | exact fun _ => Thin.ref (.skip (.skip (h.th))) | exact fun _ => Thin.ref (.skip (.skip (.skip (h.th)))) | exact fun _ => Thin.ref (.skip (.skip (.skip (.skip (h.th))))) | exact Thin.ref (.skip (h.th)) | exact Thin.ref (.skip (.skip (h.th))) | exact Thin.ref (.skip (.skip (.skip (h.th)))) | exact Thin.ref (.skip (.skip (.skip (.skip (h.th))))) | exact ⟨rfl, oneAll_of rfl⟩ | exact oneAll_of rfl | exact rfl | exact ⟨rfl, rfl, rfl, rfl⟩ | exact ⟨rfl, rfl, rfl, rfl, rfl⟩ | exact ⟨by unfold maxLen; omega, by omega⟩ | omega) ?_ | intro _)); refine VC_can (t := tr_evergreenref12_Add_13) _ _ (by (repeat ((conv => whnf); refine And.intro (by first | exact rfl | exact vint_eq (by omega) | exact vint_eq (by (dsimp only; omega)) | exact vsl_eq (by omega) | exact vsl_eq (by first | (dsimp only; omega) | (simp; done) | (simp; omega))) ?_)); exact trivial) (Thin.ref (.own (by omega) rfl (.own (by omega) rfl (Thin.refl _)))) (add_13 h _ _ _)
  (conv => whnf)
  refine stop_and ?_ ?_
  · (repeat' ((conv => whnf); first | refine ⟨xs, h.rs _, ?_⟩ | refine ⟨ys, h.rl _, ?_⟩ | refine And.intro (by first | exact o1 | exact o2 | exact fun _ => Thin.ref (.skip (h.th)) | exact fun _ => Thin.ref (.skip (.skip (h.th))) | exact fun _ => Thin.ref (.skip (.skip (.skip (h.th)))) | exact fun _ => Thin.ref (.skip (.skip (.skip (.skip (h.th))))) | exact Thin.ref (.skip (h.th)) | exact Thin.ref (.skip (.skip (h.th))) | exact Thin.ref (.skip (.skip (.skip (h.th)))) | exact Thin.ref (.skip (.skip (.skip (.skip (h.th))))) | exact ⟨rfl, oneAll_of rfl⟩ | exact oneAll_of rfl | exact rfl | exact ⟨rfl, rfl, rfl, rfl⟩ | exact ⟨rfl, rfl, rfl, rfl, rfl⟩ | exact ⟨by unfold maxLen; omega, by omega⟩ | omega) ?_ | intro _)); refine VC_can (t := tr_evergreenref12_Add_17) _ _ (by (repeat ((conv => whnf); refine And.intro (by first | exact rfl | exact vint_eq (by omega) | exact vint_eq (by (dsimp only; omega)) | exact vsl_eq (by omega) | exact vsl_eq (by first | (dsimp only; omega) | (simp; done) | (simp; omega))) ?_)); exact trivial) ((Ref.perm (.swap _ _ _)).trans (Thin.ref (.own (by omega) rfl (.own (by omega) rfl (.own (by omega) rfl (Thin.refl _)))))) (add_17 h _ _ _ _)
  (repeat' ((conv => whnf); first | refine ⟨xs, h.rs _, ?_⟩ | refine ⟨ys, h.rl _, ?_⟩ | refine And.intro (by first | exact o1 | exact o2 | exact fun _ => Thin.ref (.skip (h.th)) | exact fun _ => Thin.ref (.skip (.skip (h.th))) | exact fun _ => Thin.ref (.skip (.skip (.skip (h.th)))) | exact fun _ => Thin.ref (.skip (.skip (.skip (.skip (h.th))))) | exact Thin.ref (.skip (h.th)) | exact Thin.ref (.skip (.skip (h.th))) | exact Thin.ref (.skip (.skip (.skip (h.th)))) | exact Thin.ref (.skip (.skip (.skip (.skip (h.th))))) | exact ⟨rfl, oneAll_of rfl⟩ | exact oneAll_of rfl | exact rfl | exact ⟨rfl, rfl, rfl, rfl⟩ | exact ⟨rfl, rfl, rfl, rfl, rfl⟩ | exact ⟨by unfold maxLen; omega, by omega⟩ | omega) ?_ | intro _)); refine VC_can (t := tr_evergreenref12_Add_19) _ _ (by (repeat ((conv => whnf); refine And.intro (by first | exact rfl | exact vint_eq (by omega) | exact vint_eq (by (dsimp only; omega)) | exact vsl_eq (by omega) | exact vsl_eq (by first | (dsimp only; omega) | (simp; done) | (simp; omega))) ?_)); exact trivial) ((Ref.perm (.swap _ _ _)).trans (Thin.ref (.own (by omega) rfl (.own (by omega) rfl (.own (by omega) rfl (Thin.refl _)))))) (add_19 h _ _ _ _ _)

theorem add_22 (h : AddH w K Lb Lh E r N a1 a2 c1 c2 b6 xs ys) : ∀ (q1 : Option Addr) (q2 : Nat), VT Try.prog w [] ops_evergreenref12_Add_6 K tr_evergreenref12_Add_22 Lb [(26, .sl 26 q1 0 q2), (28, .v (.slice a1 E.length c1)), (30, .v (ruV r)), (35, .v (.slice a2 E.length c2)), (37, .v (.int .i64 N)), (44, .v (.int .i64 ((E.length : Int) + 1))), (6, .ptr 6 b6 0)] (.own 26 q1 0 q2 ty_api_Rule 5 [] :: Lh) := by
  have hE := h.hE
  have o1 := h.o1
  have o2 := h.o2
  intro q1 q2
  (conv => whnf)
  refine stop_and ?_ ?_
  · (repeat' ((conv => whnf); first | refine ⟨xs, h.rs _, ?_⟩ | refine ⟨ys, h.rl _, ?_⟩ | refine And.intro (by first | exact o1 | exact o2 | exact fun _ => Thin.ref (.skip (h.th)) | exact fun _ => Thin.ref (.skip (.skip (h.th))) | exact fun _ => Thin.ref (.skip (.skip (.skip (h.th)))) | exact fun _ => Thin.ref (.skip (.skip (.skip (.skip (h.th))))) | exact Thin.ref (.skip (h.th)) | exact Thin.ref (.skip (.skip (h.th))) | exact Thin.ref (.skip (.skip (.skip (h.th)))) | exact Thin.ref (.skip (.skip (.skip (.skip (h.th))))) | exact ⟨rfl, oneAll_of rfl⟩ | exact oneAll_of rfl | exact rfl | exact ⟨rfl, rfl, rfl, rfl⟩ | exact ⟨rfl, rfl, rfl, rfl, rfl⟩ | exact ⟨by unfold maxLen; omega, by omega⟩ | omega) ?_ | intro _)); refine VC_can (t := tr_evergreenref12_Add_14) _ _ (by (repeat ((conv => whnf); refine And.intro (by first | exact rfl | exact vint_eq (by omega) | exact vint_eq (by (dsimp only; omega)) | exact vsl_eq (by omega) | exact vsl_eq (by first | (dsimp only; omega) | (simp; done) | (simp; omega))) ?_)); exact trivial) (Thin.ref (.own (by omega) rfl (Thin.refl _))) (add_14 h _ _)
  (conv => whnf)
  refine stop_and ?_ ?_
  · (repeat' ((conv => whnf); first | refine ⟨xs, h.rs _, ?_⟩ | refine ⟨ys, h.rl _, ?_⟩ | refine And.intro (by first | exact o1 | exact o2 | exact fun _ => Thin.ref (.skip (h.th)) | exact fun _ => Thin.ref (.skip (.skip (h.th))) | exact fun _ => Thin.ref (.skip (.skip (.skip (h.th)))) | exact fun _ => Thin.ref (.skip (.skip (.skip (.skip (h.th))))) | exact Thin.ref (.skip (h.th)) | exact Thin.ref (.skip (.skip (h.th))) | exact Thin.ref (.skip (.skip (.skip (h.th)))) | exact Thin.ref (.skip (.skip (.skip (.skip (h.th))))) | exact ⟨rfl, oneAll_of rfl⟩ | exact oneAll_of rfl | exact rfl | exact ⟨rfl, rfl, rfl, rfl⟩ | exact ⟨rfl, rfl, rfl, rfl, rfl⟩ | exact ⟨by unfold maxLen; omega, by omega⟩ | omega) ?_ | intro _)); refine VC_can (t := tr_evergreenref12_Add_18) _ _ (by (repeat ((conv => whnf); refine And.intro (by first | exact rfl | exact vint_eq (by omega) | exact vint_eq (by (dsimp only; omega)) | exact vsl_eq (by omega) | exact vsl_eq (by first | (dsimp only; omega) | (simp; done) | (simp; omega))) ?_)); exact trivial) ((Ref.perm (.swap _ _ _)).trans (Thin.ref (.own (by omega) rfl (.own (by omega) rfl (Thin.refl _))))) (add_18 h _ _ _)
  (conv => whnf)
  refine stop_and ?_ ?_
  · (repeat' ((conv => whnf); first | refine ⟨xs, h.rs _, ?_⟩ | refine ⟨ys, h.rl _, ?_⟩ | refine And.intro (by first | exact o1 | exact o2 | exact fun _ => Thin.ref (.skip (h.th)) | exact fun _ => Thin.ref (.skip (.skip (h.th))) | exact fun _ => Thin.ref (.skip (.skip (.skip (h.th)))) | exact fun _ => Thin.ref (.skip (.skip (.skip (.skip (h.th))))) | exact Thin.ref (.skip (h.th)) | exact Thin.ref (.skip (.skip (h.th))) | exact Thin.ref (.skip (.skip (.skip (h.th)))) | exact Thin.ref (.skip (.skip (.skip (.skip (h.th))))) | exact ⟨rfl, oneAll_of rfl⟩ | exact oneAll_of rfl | exact rfl | exact ⟨rfl, rfl, rfl, rfl⟩ | exact ⟨rfl, rfl, rfl, rfl, rfl⟩ | exact ⟨by unfold maxLen; omega, by omega⟩ | omega) ?_ | intro _)); refine VC_can (t := tr_evergreenref12_Add_20) _ _ (by (repeat ((conv => whnf); refine And.intro (by first | exact rfl | exact vint_eq (by omega) | exact vint_eq (by (dsimp only; omega)) | exact vsl_eq (by omega) | exact vsl_eq (by first | (dsimp only; omega) | (simp; done) | (simp; omega))) ?_)); exact trivial) ((Ref.perm (.swap _ _ _)).trans (Thin.ref (.own (by omega) rfl (.own (by omega) rfl (Thin.refl _))))) (add_20 h _ _ _ _)
  (repeat' ((conv => whnf); first | refine ⟨xs, h.rs _, ?_⟩ | refine ⟨ys, h.rl _, ?_⟩ | refine And.intro (by first | exact o1 | exact o2 | exact fun _ => Thin.ref (.skip (h.th)) | exact fun _ => Thin.ref (.skip (.skip (h.th))) | exact fun _ => Thin.ref (.skip (.skip (.skip (h.th)))) | exact fun _ => Thin.ref (.skip (.skip (.skip (.skip (h.th))))) | exact Thin.ref (.skip (h.th)) | exact Thin.ref (.skip (.skip (h.th))) | exact Thin.ref (.skip (.skip (.skip (h.th)))) | exact Thin.ref (.skip (.skip (.skip (.skip (h.th))))) | exact ⟨rfl, oneAll_of rfl⟩ | exact oneAll_of rfl | exact rfl | exact ⟨rfl, rfl, rfl, rfl⟩ | exact ⟨rfl, rfl, rfl, rfl, rfl⟩ | exact ⟨by unfold maxLen; omega, by omega⟩ | omega) ?_ | intro _)); refine VC_can (t := tr_evergreenref12_Add_21) _ _ (by (repeat ((conv => whnf); refine And.intro (by first | exact rfl | exact vint_eq (by omega) | exact vint_eq (by (dsimp only; omega)) | exact vsl_eq (by omega) | exact vsl_eq (by first | (dsimp only; omega) | (simp; done) | (simp; omega))) ?_)); exact trivial) ((Ref.perm (.swap _ _ _)).trans (Thin.ref (.own (by omega) rfl (.own (by omega) rfl (Thin.refl _))))) (add_21 h _ _ _)

theorem add_23 (h : AddH w K Lb Lh E r N a1 a2 c1 c2 b6 xs ys) : ∀ (q3 : Option Addr) (z1 : Option Addr) (z2 : Nat) (z3 : Option Addr), VT Try.prog w [] ops_evergreenref12_Add_6 K tr_evergreenref12_Add_23 Lb [(31, .sl 31 q3 1 1), (33, .sl 33 z1 0 z2), (38, .sl 38 z3 1 1), (28, .v (.slice a1 E.length c1)), (30, .v (ruV r)), (35, .v (.slice a2 E.length c2)), (37, .v (.int .i64 N)), (44, .v (.int .i64 ((E.length : Int) + 1))), (6, .ptr 6 b6 0)] (.own 31 q3 1 1 ty_api_Rule 5 (ruC r) :: .own 33 z1 0 z2 ty_int 1 [] :: .own 38 z3 1 1 ty_int 1 ([.int .i64 N]) :: Lh) := by
  have hE := h.hE
  have o1 := h.o1
  have o2 := h.o2
  intro q3 z1 z2 z3
  (repeat' ((conv => whnf); first | refine ⟨xs, h.rs _, ?_⟩ | refine ⟨ys, h.rl _, ?_⟩ | refine And.intro (by first | exact o1 | exact o2 | exact fun _ => Thin.ref (.skip (h.th)) | exact fun _ => Thin.ref (.skip (.skip (h.th))) | exact fun _ => Thin.ref (.skip (.skip (.skip (h.th)))) | exact fun _ => Thin.ref (.skip (.skip (.skip (.skip (h.th))))) | exact Thin.ref (.skip (h.th)) | exact Thin.ref (.skip (.skip (h.th))) | exact Thin.ref (.skip (.skip (.skip (h.th)))) | exact Thin.ref (.skip (.skip (.skip (.skip (h.th))))) | exact ⟨rfl, oneAll_of rfl⟩ | exact oneAll_of rfl | exact rfl | exact ⟨rfl, rfl, rfl, rfl⟩ | exact ⟨rfl, rfl, rfl, rfl, rfl⟩ | exact ⟨by unfold maxLen; omega, by omega⟩ | omega) ?_ | intro _)); refine VC_can (t := tr_evergreenref12_Add_15) _ _ (by (repeat ((conv => whnf); refine And.intro (by first | exact rfl | exact vint_eq (by omega) | exact vint_eq (by (dsimp only; omega)) | exact vsl_eq (by omega) | exact vsl_eq (by first | (dsimp only; omega) | (simp; done) | (simp; omega))) ?_)); exact trivial) (Thin.ref (.own (by omega) rfl (.own (by omega) rfl (.own (by omega) rfl (.own (by omega) rfl (Thin.refl _)))))) (add_15 h _ _ _ _ _ _)

theorem add_24 (h : AddH w K Lb Lh E r N a1 a2 c1 c2 b6 xs ys) : ∀ (q3 : Option Addr) (z1 : Option Addr) (z2 : Nat), VT Try.prog w [] ops_evergreenref12_Add_6 K tr_evergreenref12_Add_24 Lb [(31, .sl 31 q3 1 1), (33, .sl 33 z1 0 z2), (28, .v (.slice a1 E.length c1)), (30, .v (ruV r)), (35, .v (.slice a2 E.length c2)), (37, .v (.int .i64 N)), (44, .v (.int .i64 ((E.length : Int) + 1))), (6, .ptr 6 b6 0)] (.own 31 q3 1 1 ty_api_Rule 5 (ruC r) :: .own 33 z1 0 z2 ty_int 1 [] :: Lh) := by
  have hE := h.hE
  have o1 := h.o1
  have o2 := h.o2
  intro q3 z1 z2
  (conv => whnf)
  refine stop_and ?_ ?_
  · (repeat' ((conv => whnf); first | refine ⟨xs, h.rs _, ?_⟩ | refine ⟨ys, h.rl _, ?_⟩ | refine And.intro (by first | exact o1 | exact o2 | exact fun _ => Thin.ref (.skip (h.th)) | exact fun _ => Thin.ref (.skip (.skip (h.th))) | exact fun _ => Thin.ref (.skip (.skip (.skip (h.th)))) | exact fun _ => Thin.ref (.skip (.skip (.skip (.skip (h.th))))) | exact Thin.ref (.skip (h.th)) | exact Thin.ref (.skip (.skip (h.th))) | exact Thin.ref (.skip (.skip (.skip (h.th)))) | exact Thin.ref (.skip (.skip (.skip (.skip (h.th))))) | exact ⟨rfl, oneAll_of rfl⟩ | exact oneAll_of rfl | exact rfl | exact ⟨rfl, rfl, rfl, rfl⟩ | exact ⟨rfl, rfl, rfl, rfl, rfl⟩ | exact ⟨by unfold maxLen; omega, by omega⟩ | omega) ?_ | intro _)); refine VC_can (t := tr_evergreenref12_Add_16) _ _ (by (repeat ((conv => whnf); refine And.intro (by first | exact rfl | exact vint_eq (by omega) | exact vint_eq (by (dsimp only; omega)) | exact vsl_eq (by omega) | exact vsl_eq (by first | (dsimp only; omega) | (simp; done) | (simp; omega))) ?_)); exact trivial) (Thin.ref (.own (by omega) rfl (.own (by omega) rfl (.own (by omega) rfl (Thin.refl _))))) (add_16 h _ _ _ _ _)
  (repeat' ((conv => whnf); first | refine ⟨xs, h.rs _, ?_⟩ | refine ⟨ys, h.rl _, ?_⟩ | refine And.intro (by first | exact o1 | exact o2 | exact fun _ => Thin.ref (.skip (h.th)) | exact fun _ => Thin.ref (.skip (.skip (h.th))) | exact fun _ => Thin.ref (.skip (.skip (.skip (h.th)))) | exact fun _ => Thin.ref (.skip (.skip (.skip (.skip (h.th))))) | exact Thin.ref (.skip (h.th)) | exact Thin.ref (.skip (.skip (h.th))) | exact Thin.ref (.skip (.skip (.skip (h.th)))) | exact Thin.ref (.skip (.skip (.skip (.skip (h.th))))) | exact ⟨rfl, oneAll_of rfl⟩ | exact oneAll_of rfl | exact rfl | exact ⟨rfl, rfl, rfl, rfl⟩ | exact ⟨rfl, rfl, rfl, rfl, rfl⟩ | exact ⟨by unfold maxLen; omega, by omega⟩ | omega) ?_ | intro _)); refine VC_can (t := tr_evergreenref12_Add_23) _ _ (by (repeat ((conv => whnf); refine And.intro (by first | exact rfl | exact vint_eq (by omega) | exact vint_eq (by (dsimp only; omega)) | exact vsl_eq (by omega) | exact vsl_eq (by first | (dsimp only; omega) | (simp; done) | (simp; omega))) ?_)); exact trivial) ((Ref.perm (.trans (.swap _ _ _) (.cons _ (.swap _ _ _)))).trans (Thin.ref (.own (by omega) rfl (.own (by omega) rfl (.own (by omega) rfl (Thin.refl _)))))) (add_23 h _ _ _ _)

theorem add_25 (h : AddH w K Lb Lh E r N a1 a2 c1 c2 b6 xs ys) : ∀ (q3 : Option Addr) (z3 : Option Addr), VT Try.prog w [] ops_evergreenref12_Add_6 K tr_evergreenref12_Add_25 Lb [(31, .sl 31 q3 1 1), (38, .sl 38 z3 1 1), (28, .v (.slice a1 E.length c1)), (30, .v (ruV r)), (35, .v (.slice a2 E.length c2)), (37, .v (.int .i64 N)), (44, .v (.int .i64 ((E.length : Int) + 1))), (6, .ptr 6 b6 0)] (.own 31 q3 1 1 ty_api_Rule 5 (ruC r) :: .own 38 z3 1 1 ty_int 1 ([.int .i64 N]) :: Lh) := by
  have hE := h.hE
  have o1 := h.o1
  have o2 := h.o2
  intro q3 z3
  (conv => whnf)
  refine stop_and ?_ ?_
  · (repeat' ((conv => whnf); first | refine ⟨xs, h.rs _, ?_⟩ | refine ⟨ys, h.rl _, ?_⟩ | refine And.intro (by first | exact o1 | exact o2 | exact fun _ => Thin.ref (.skip (h.th)) | exact fun _ => Thin.ref (.skip (.skip (h.th))) | exact fun _ => Thin.ref (.skip (.skip (.skip (h.th)))) | exact fun _ => Thin.ref (.skip (.skip (.skip (.skip (h.th))))) | exact Thin.ref (.skip (h.th)) | exact Thin.ref (.skip (.skip (h.th))) | exact Thin.ref (.skip (.skip (.skip (h.th)))) | exact Thin.ref (.skip (.skip (.skip (.skip (h.th))))) | exact ⟨rfl, oneAll_of rfl⟩ | exact oneAll_of rfl | exact rfl | exact ⟨rfl, rfl, rfl, rfl⟩ | exact ⟨rfl, rfl, rfl, rfl, rfl⟩ | exact ⟨by unfold maxLen; omega, by omega⟩ | omega) ?_ | intro _)); refine VC_can (t := tr_evergreenref12_Add_17) _ _ (by (repeat ((conv => whnf); refine And.intro (by first | exact rfl | exact vint_eq (by omega) | exact vint_eq (by (dsimp only; omega)) | exact vsl_eq (by omega) | exact vsl_eq (by first | (dsimp only; omega) | (simp; done) | (simp; omega))) ?_)); exact trivial) (Thin.ref (.own (by omega) rfl (.own (by omega) rfl (.own (by omega) rfl (Thin.refl _))))) (add_17 h _ _ _ _)
  (repeat' ((conv => whnf); first | refine ⟨xs, h.rs _, ?_⟩ | refine ⟨ys, h.rl _, ?_⟩ | refine And.intro (by first | exact o1 | exact o2 | exact fun _ => Thin.ref (.skip (h.th)) | exact fun _ => Thin.ref (.skip (.skip (h.th))) | exact fun _ => Thin.ref (.skip (.skip (.skip (h.th)))) | exact fun _ => Thin.ref (.skip (.skip (.skip (.skip (h.th))))) | exact Thin.ref (.skip (h.th)) | exact Thin.ref (.skip (.skip (h.th))) | exact Thin.ref (.skip (.skip (.skip (h.th)))) | exact Thin.ref (.skip (.skip (.skip (.skip (h.th))))) | exact ⟨rfl, oneAll_of rfl⟩ | exact oneAll_of rfl | exact rfl | exact ⟨rfl, rfl, rfl, rfl⟩ | exact ⟨rfl, rfl, rfl, rfl, rfl⟩ | exact ⟨by unfold maxLen; omega, by omega⟩ | omega) ?_ | intro _)); refine VC_can (t := tr_evergreenref12_Add_23) _ _ (by (repeat ((conv => whnf); refine And.intro (by first | exact rfl | exact vint_eq (by omega) | exact vint_eq (by (dsimp only; omega)) | exact vsl_eq (by omega) | exact vsl_eq (by first | (dsimp only; omega) | (simp; done) | (simp; omega))) ?_)); exact trivial) ((Ref.perm (.swap _ _ _)).trans (Thin.ref (.own (by omega) rfl (.own (by omega) rfl (.own (by omega) rfl (Thin.refl _)))))) (add_23 h _ _ _ _)

theorem add_26 (h : AddH w K Lb Lh E r N a1 a2 c1 c2 b6 xs ys) : ∀ (q3 : Option Addr), VT Try.prog w [] ops_evergreenref12_Add_6 K tr_evergreenref12_Add_26 Lb [(31, .sl 31 q3 1 1), (28, .v (.slice a1 E.length c1)), (30, .v (ruV r)), (35, .v (.slice a2 E.length c2)), (37, .v (.int .i64 N)), (44, .v (.int .i64 ((E.length : Int) + 1))), (6, .ptr 6 b6 0)] (.own 31 q3 1 1 ty_api_Rule 5 (ruC r) :: Lh) := by
  have hE := h.hE
  have o1 := h.o1
  have o2 := h.o2
  intro q3
  (conv => whnf)
  refine stop_and ?_ ?_
  · (repeat' ((conv => whnf); first | refine ⟨xs, h.rs _, ?_⟩ | refine ⟨ys, h.rl _, ?_⟩ | refine And.intro (by first | exact o1 | exact o2 | exact fun _ => Thin.ref (.skip (h.th)) | exact fun _ => Thin.ref (.skip (.skip (h.th))) | exact fun _ => Thin.ref (.skip (.skip (.skip (h.th)))) | exact fun _ => Thin.ref (.skip (.skip (.skip (.skip (h.th))))) | exact Thin.ref (.skip (h.th)) | exact Thin.ref (.skip (.skip (h.th))) | exact Thin.ref (.skip (.skip (.skip (h.th)))) | exact Thin.ref (.skip (.skip (.skip (.skip (h.th))))) | exact ⟨rfl, oneAll_of rfl⟩ | exact oneAll_of rfl | exact rfl | exact ⟨rfl, rfl, rfl, rfl⟩ | exact ⟨rfl, rfl, rfl, rfl, rfl⟩ | exact ⟨by unfold maxLen; omega, by omega⟩ | omega) ?_ | intro _)); refine VC_can (t := tr_evergreenref12_Add_18) _ _ (by (repeat ((conv => whnf); refine And.intro (by first | exact rfl | exact vint_eq (by omega) | exact vint_eq (by (dsimp only; omega)) | exact vsl_eq (by omega) | exact vsl_eq (by first | (dsimp only; omega) | (simp; done) | (simp; omega))) ?_)); exact trivial) (Thin.ref (.own (by omega) rfl (.own (by omega) rfl (Thin.refl _)))) (add_18 h _ _ _)
  (conv => whnf)
  refine stop_and ?_ ?_
  · (repeat' ((conv => whnf); first | refine ⟨xs, h.rs _, ?_⟩ | refine ⟨ys, h.rl _, ?_⟩ | refine And.intro (by first | exact o1 | exact o2 | exact fun _ => Thin.ref (.skip (h.th)) | exact fun _ => Thin.ref (.skip (.skip (h.th))) | exact fun _ => Thin.ref (.skip (.skip (.skip (h.th)))) | exact fun _ => Thin.ref (.skip (.skip (.skip (.skip (h.th))))) | exact Thin.ref (.skip (h.th)) | exact Thin.ref (.skip (.skip (h.th))) | exact Thin.ref (.skip (.skip (.skip (h.th)))) | exact Thin.ref (.skip (.skip (.skip (.skip (h.th))))) | exact ⟨rfl, oneAll_of rfl⟩ | exact oneAll_of rfl | exact rfl | exact ⟨rfl, rfl, rfl, rfl⟩ | exact ⟨rfl, rfl, rfl, rfl, rfl⟩ | exact ⟨by unfold maxLen; omega, by omega⟩ | omega) ?_ | intro _)); refine VC_can (t := tr_evergreenref12_Add_24) _ _ (by (repeat ((conv => whnf); refine And.intro (by first | exact rfl | exact vint_eq (by omega) | exact vint_eq (by (dsimp only; omega)) | exact vsl_eq (by omega) | exact vsl_eq (by first | (dsimp only; omega) | (simp; done) | (simp; omega))) ?_)); exact trivial) ((Ref.perm (.swap _ _ _)).trans (Thin.ref (.own (by omega) rfl (.own (by omega) rfl (Thin.refl _))))) (add_24 h _ _ _)
  (repeat' ((conv => whnf); first | refine ⟨xs, h.rs _, ?_⟩ | refine ⟨ys, h.rl _, ?_⟩ | refine And.intro (by first | exact o1 | exact o2 | exact fun _ => Thin.ref (.skip (h.th)) | exact fun _ => Thin.ref (.skip (.skip (h.th))) | exact fun _ => Thin.ref (.skip (.skip (.skip (h.th)))) | exact fun _ => Thin.ref (.skip (.skip (.skip (.skip (h.th))))) | exact Thin.ref (.skip (h.th)) | exact Thin.ref (.skip (.skip (h.th))) | exact Thin.ref (.skip (.skip (.skip (h.th)))) | exact Thin.ref (.skip (.skip (.skip (.skip (h.th))))) | exact ⟨rfl, oneAll_of rfl⟩ | exact oneAll_of rfl | exact rfl | exact ⟨rfl, rfl, rfl, rfl⟩ | exact ⟨rfl, rfl, rfl, rfl, rfl⟩ | exact ⟨by unfold maxLen; omega, by omega⟩ | omega) ?_ | intro _)); refine VC_can (t := tr_evergreenref12_Add_25) _ _ (by (repeat ((conv => whnf); refine And.intro (by first | exact rfl | exact vint_eq (by omega) | exact vint_eq (by (dsimp only; omega)) | exact vsl_eq (by omega) | exact vsl_eq (by first | (dsimp only; omega) | (simp; done) | (simp; omega))) ?_)); exact trivial) ((Ref.perm (.swap _ _ _)).trans (Thin.ref (.own (by omega) rfl (.own (by omega) rfl (Thin.refl _))))) (add_25 h _ _)

theorem add_27 (h : AddH w K Lb Lh E r N a1 a2 c1 c2 b6 xs ys) : ∀ (z1 : Option Addr) (z2 : Nat) (z3 : Option Addr), VT Try.prog w [] ops_evergreenref12_Add_6 K tr_evergreenref12_Add_27 Lb [(33, .sl 33 z1 0 z2), (38, .sl 38 z3 1 1), (28, .v (.slice a1 E.length c1)), (30, .v (ruV r)), (35, .v (.slice a2 E.length c2)), (37, .v (.int .i64 N)), (44, .v (.int .i64 ((E.length : Int) + 1))), (6, .ptr 6 b6 0)] (.own 33 z1 0 z2 ty_int 1 [] :: .own 38 z3 1 1 ty_int 1 ([.int .i64 N]) :: Lh) := by
  have hE := h.hE
  have o1 := h.o1
  have o2 := h.o2
  intro z1 z2 z3
  (conv => whnf)
  refine stop_and ?_ ?_
  · (repeat' ((conv => whnf); first | refine ⟨xs, h.rs _, ?_⟩ | refine ⟨ys, h.rl _, ?_⟩ | refine And.intro (by first | exact o1 | exact o2 | exact fun _ => Thin.ref (.skip (h.th)) | exact fun _ => Thin.ref (.skip (.skip (h.th))) | exact fun _ => Thin.ref (.skip (.skip (.skip (h.th)))) | exact fun _ => Thin.ref (.skip (.skip (.skip (.skip (h.th))))) | exact Thin.ref (.skip (h.th)) | exact Thin.ref (.skip (.skip (h.th))) | exact Thin.ref (.skip (.skip (.skip (h.th)))) | exact Thin.ref (.skip (.skip (.skip (.skip (h.th))))) | exact ⟨rfl, oneAll_of rfl⟩ | exact oneAll_of rfl | exact rfl | exact ⟨rfl, rfl, rfl, rfl⟩ | exact ⟨rfl, rfl, rfl, rfl, rfl⟩ | exact ⟨by unfold maxLen; omega, by omega⟩ | omega) ?_ | intro _)); refine VC_can (t := tr_evergreenref12_Add_19) _ _ (by (repeat ((conv => whnf); refine And.intro (by first | exact rfl | exact vint_eq (by omega) | exact vint_eq (by (dsimp only; omega)) | exact vsl_eq (by omega) | exact vsl_eq (by first | (dsimp only; omega) | (simp; done) | (simp; omega))) ?_)); exact trivial) (Thin.ref (.own (by omega) rfl (.own (by omega) rfl (.own (by omega) rfl (Thin.refl _))))) (add_19 h _ _ _ _ _)
  (repeat' ((conv => whnf); first | refine ⟨xs, h.rs _, ?_⟩ | refine ⟨ys, h.rl _, ?_⟩ | refine And.intro (by first | exact o1 | exact o2 | exact fun _ => Thin.ref (.skip (h.th)) | exact fun _ => Thin.ref (.skip (.skip (h.th))) | exact fun _ => Thin.ref (.skip (.skip (.skip (h.th)))) | exact fun _ => Thin.ref (.skip (.skip (.skip (.skip (h.th))))) | exact Thin.ref (.skip (h.th)) | exact Thin.ref (.skip (.skip (h.th))) | exact Thin.ref (.skip (.skip (.skip (h.th)))) | exact Thin.ref (.skip (.skip (.skip (.skip (h.th))))) | exact ⟨rfl, oneAll_of rfl⟩ | exact oneAll_of rfl | exact rfl | exact ⟨rfl, rfl, rfl, rfl⟩ | exact ⟨rfl, rfl, rfl, rfl, rfl⟩ | exact ⟨by unfold maxLen; omega, by omega⟩ | omega) ?_ | intro _)); refine VC_can (t := tr_evergreenref12_Add_23) _ _ (by (repeat ((conv => whnf); refine And.intro (by first | exact rfl | exact vint_eq (by omega) | exact vint_eq (by (dsimp only; omega)) | exact vsl_eq (by omega) | exact vsl_eq (by first | (dsimp only; omega) | (simp; done) | (simp; omega))) ?_)); exact trivial) (Thin.ref (.own (by omega) rfl (.own (by omega) rfl (.own (by omega) rfl (Thin.refl _))))) (add_23 h _ _ _ _)

theorem add_28 (h : AddH w K Lb Lh E r N a1 a2 c1 c2 b6 xs ys) : ∀ (z1 : Option Addr) (z2 : Nat), VT Try.prog w [] ops_evergreenref12_Add_6 K tr_evergreenref12_Add_28 Lb [(33, .sl 33 z1 0 z2), (28, .v (.slice a1 E.length c1)), (30, .v (ruV r)), (35, .v (.slice a2 E.length c2)), (37, .v (.int .i64 N)), (44, .v (.int .i64 ((E.length : Int) + 1))), (6, .ptr 6 b6 0)] (.own 33 z1 0 z2 ty_int 1 [] :: Lh) := by
  have hE := h.hE
  have o1 := h.o1
  have o2 := h.o2
  intro z1 z2
  (conv => whnf)
  refine stop_and ?_ ?_
  · (repeat' ((conv => whnf); first | refine ⟨xs, h.rs _, ?_⟩ | refine ⟨ys, h.rl _, ?_⟩ | refine And.intro (by first | exact o1 | exact o2 | exact fun _ => Thin.ref (.skip (h.th)) | exact fun _ => Thin.ref (.skip (.skip (h.th))) | exact fun _ => Thin.ref (.skip (.skip (.skip (h.th)))) | exact fun _ => Thin.ref (.skip (.skip (.skip (.skip (h.th))))) | exact Thin.ref (.skip (h.th)) | exact Thin.ref (.skip (.skip (h.th))) | exact Thin.ref (.skip (.skip (.skip (h.th)))) | exact Thin.ref (.skip (.skip (.skip (.skip (h.th))))) | exact ⟨rfl, oneAll_of rfl⟩ | exact oneAll_of rfl | exact rfl | exact ⟨rfl, rfl, rfl, rfl⟩ | exact ⟨rfl, rfl, rfl, rfl, rfl⟩ | exact ⟨by unfold maxLen; omega, by omega⟩ | omega) ?_ | intro _)); refine VC_can (t := tr_evergreenref12_Add_20) _ _ (by (repeat ((conv => whnf); refine And.intro (by first | exact rfl | exact vint_eq (by omega) | exact vint_eq (by (dsimp only; omega)) | exact vsl_eq (by omega) | exact vsl_eq (by first | (dsimp only; omega) | (simp; done) | (simp; omega))) ?_)); exact trivial) (Thin.ref (.own (by omega) rfl (.own (by omega) rfl (Thin.refl _)))) (add_20 h _ _ _ _)
  (conv => whnf)
  refine stop_and ?_ ?_
  · (repeat' ((conv => whnf); first | refine ⟨xs, h.rs _, ?_⟩ | refine ⟨ys, h.rl _, ?_⟩ | refine And.intro (by first | exact o1 | exact o2 | exact fun _ => Thin.ref (.skip (h.th)) | exact fun _ => Thin.ref (.skip (.skip (h.th))) | exact fun _ => Thin.ref (.skip (.skip (.skip (h.th)))) | exact fun _ => Thin.ref (.skip (.skip (.skip (.skip (h.th))))) | exact Thin.ref (.skip (h.th)) | exact Thin.ref (.skip (.skip (h.th))) | exact Thin.ref (.skip (.skip (.skip (h.th)))) | exact Thin.ref (.skip (.skip (.skip (.skip (h.th))))) | exact ⟨rfl, oneAll_of rfl⟩ | exact oneAll_of rfl | exact rfl | exact ⟨rfl, rfl, rfl, rfl⟩ | exact ⟨rfl, rfl, rfl, rfl, rfl⟩ | exact ⟨by unfold maxLen; omega, by omega⟩ | omega) ?_ | intro _)); refine VC_can (t := tr_evergreenref12_Add_24) _ _ (by (repeat ((conv => whnf); refine And.intro (by first | exact rfl | exact vint_eq (by omega) | exact vint_eq (by (dsimp only; omega)) | exact vsl_eq (by omega) | exact vsl_eq (by first | (dsimp only; omega) | (simp; done) | (simp; omega))) ?_)); exact trivial) (Thin.ref (.own (by omega) rfl (.own (by omega) rfl (Thin.refl _)))) (add_24 h _ _ _)
  (repeat' ((conv => whnf); first | refine ⟨xs, h.rs _, ?_⟩ | refine ⟨ys, h.rl _, ?_⟩ | refine And.intro (by first | exact o1 | exact o2 | exact fun _ => Thin.ref (.skip (h.th)) | exact fun _ => Thin.ref (.skip (.skip (h.th))) | exact fun _ => Thin.ref (.skip (.skip (.skip (h.th)))) | exact fun _ => Thin.ref (.skip (.skip (.skip (.skip (h.th))))) | exact Thin.ref (.skip (h.th)) | exact Thin.ref (.skip (.skip (h.th))) | exact Thin.ref (.skip (.skip (.skip (h.th)))) | exact Thin.ref (.skip (.skip (.skip (.skip (h.th))))) | exact ⟨rfl, oneAll_of rfl⟩ | exact oneAll_of rfl | exact rfl | exact ⟨rfl, rfl, rfl, rfl⟩ | exact ⟨rfl, rfl, rfl, rfl, rfl⟩ | exact ⟨by unfold maxLen; omega, by omega⟩ | omega) ?_ | intro _)); refine VC_can (t := tr_evergreenref12_Add_27) _ _ (by (repeat ((conv => whnf); refine And.intro (by first | exact rfl | exact vint_eq (by omega) | exact vint_eq (by (dsimp only; omega)) | exact vsl_eq (by omega) | exact vsl_eq (by first | (dsimp only; omega) | (simp; done) | (simp; omega))) ?_)); exact trivial) ((Ref.perm (.swap _ _ _)).trans (Thin.ref (.own (by omega) rfl (.own (by omega) rfl (Thin.refl _))))) (add_27 h _ _ _)

theorem add_29 (h : AddH w K Lb Lh E r N a1 a2 c1 c2 b6 xs ys) : ∀ (z3 : Option Addr), VT Try.prog w [] ops_evergreenref12_Add_6 K tr_evergreenref12_Add_29 Lb [(38, .sl 38 z3 1 1), (28, .v (.slice a1 E.length c1)), (30, .v (ruV r)), (35, .v (.slice a2 E.length c2)), (37, .v (.int .i64 N)), (44, .v (.int .i64 ((E.length : Int) + 1))), (6, .ptr 6 b6 0)] (.own 38 z3 1 1 ty_int 1 ([.int .i64 N]) :: Lh) := by
  have hE := h.hE
  have o1 := h.o1
  have o2 := h.o2
  intro z3
  (conv => whnf)
  refine stop_and ?_ ?_
  · (repeat' ((conv => whnf); first | refine ⟨xs, h.rs _, ?_⟩ | refine ⟨ys, h.rl _, ?_⟩ | refine And.intro (by first | exact o1 | exact o2 | exact fun _ => Thin.ref (.skip (h.th)) | exact fun _ => Thin.ref (.skip (.skip (h.th))) | exact fun _ => Thin.ref (.skip (.skip (.skip (h.th)))) | exact fun _ => Thin.ref (.skip (.skip (.skip (.skip (h.th))))) | exact Thin.ref (.skip (h.th)) | exact Thin.ref (.skip (.skip (h.th))) | exact Thin.ref (.skip (.skip (.skip (h.th)))) | exact Thin.ref (.skip (.skip (.skip (.skip (h.th))))) | exact ⟨rfl, oneAll_of rfl⟩ | exact oneAll_of rfl | exact rfl | exact ⟨rfl, rfl, rfl, rfl⟩ | exact ⟨rfl, rfl, rfl, rfl, rfl⟩ | exact ⟨by unfold maxLen; omega, by omega⟩ | omega) ?_ | intro _)); refine VC_can (t := tr_evergreenref12_Add_21) _ _ (by (repeat ((conv => whnf); refine And.intro (by first | exact rfl | exact vint_eq (by omega) | exact vint_eq (by (dsimp only; omega)) | exact vsl_eq (by omega) | exact vsl_eq (by first | (dsimp only; omega) | (simp; done) | (simp; omega))) ?_)); exact trivial) (Thin.ref (.own (by omega) rfl (.own (by omega) rfl (Thin.refl _)))) (add_21 h _ _ _)
  (conv => whnf)
  refine stop_and ?_ ?_
  · (repeat' ((conv => whnf); first | refine ⟨xs, h.rs _, ?_⟩ | refine ⟨ys, h.rl _, ?_⟩ | refine And.intro (by first | exact o1 | exact o2 | exact fun _ => Thin.ref (.skip (h.th)) | exact fun _ => Thin.ref (.skip (.skip (h.th))) | exact fun _ => Thin.ref (.skip (.skip (.skip (h.th)))) | exact fun _ => Thin.ref (.skip (.skip (.skip (.skip (h.th))))) | exact Thin.ref (.skip (h.th)) | exact Thin.ref (.skip (.skip (h.th))) | exact Thin.ref (.skip (.skip (.skip (h.th)))) | exact Thin.ref (.skip (.skip (.skip (.skip (h.th))))) | exact ⟨rfl, oneAll_of rfl⟩ | exact oneAll_of rfl | exact rfl | exact ⟨rfl, rfl, rfl, rfl⟩ | exact ⟨rfl, rfl, rfl, rfl, rfl⟩ | exact ⟨by unfold maxLen; omega, by omega⟩ | omega) ?_ | intro _)); refine VC_can (t := tr_evergreenref12_Add_25) _ _ (by (repeat ((conv => whnf); refine And.intro (by first | exact rfl | exact vint_eq (by omega) | exact vint_eq (by (dsimp only; omega)) | exact vsl_eq (by omega) | exact vsl_eq (by first | (dsimp only; omega) | (simp; done) | (simp; omega))) ?_)); exact trivial) (Thin.ref (.own (by omega) rfl (.own (by omega) rfl (Thin.refl _)))) (add_25 h _ _)
  (repeat' ((conv => whnf); first | refine ⟨xs, h.rs _, ?_⟩ | refine ⟨ys, h.rl _, ?_⟩ | refine And.intro (by first | exact o1 | exact o2 | exact fun _ => Thin.ref (.skip (h.th)) | exact fun _ => Thin.ref (.skip (.skip (h.th))) | exact fun _ => Thin.ref (.skip (.skip (.skip (h.th)))) | exact fun _ => Thin.ref (.skip (.skip (.skip (.skip (h.th))))) | exact Thin.ref (.skip (h.th)) | exact Thin.ref (.skip (.skip (h.th))) | exact Thin.ref (.skip (.skip (.skip (h.th)))) | exact Thin.ref (.skip (.skip (.skip (.skip (h.th))))) | exact ⟨rfl, oneAll_of rfl⟩ | exact oneAll_of rfl | exact rfl | exact ⟨rfl, rfl, rfl, rfl⟩ | exact ⟨rfl, rfl, rfl, rfl, rfl⟩ | exact ⟨by unfold maxLen; omega, by omega⟩ | omega) ?_ | intro _)); refine VC_can (t := tr_evergreenref12_Add_27) _ _ (by (repeat ((conv => whnf); refine And.intro (by first | exact rfl | exact vint_eq (by omega) | exact vint_eq (by (dsimp only; omega)) | exact vsl_eq (by omega) | exact vsl_eq (by first | (dsimp only; omega) | (simp; done) | (simp; omega))) ?_)); exact trivial) (Thin.ref (.own (by omega) rfl (.own (by omega) rfl (Thin.refl _)))) (add_27 h _ _ _)

theorem add_30 (h : AddH w K Lb Lh E r N a1 a2 c1 c2 b6 xs ys) : VT Try.prog w [] ops_evergreenref12_Add_6 K tr_evergreenref12_Add_30 Lb [(28, .v (.slice a1 E.length c1)), (30, .v (ruV r)), (35, .v (.slice a2 E.length c2)), (37, .v (.int .i64 N)), (44, .v (.int .i64 ((E.length : Int) + 1))), (6, .ptr 6 b6 0)] (Lh) := by
  have hE := h.hE
  have o1 := h.o1
  have o2 := h.o2

  (conv => whnf)
  refine stop_and ?_ ?_
  · (repeat' ((conv => whnf); first | refine ⟨xs, h.rs _, ?_⟩ | refine ⟨ys, h.rl _, ?_⟩ | refine And.intro (by first | exact o1 | exact o2 | exact fun _ => Thin.ref (.skip (h.th)) | exact fun _ => Thin.ref (.skip (.skip (h.th))) | exact fun _ => Thin.ref (.skip (.skip (.skip (h.th)))) | exact fun _ => Thin.ref (.skip (.skip (.skip (.skip (h.th))))) | exact Thin.ref (.skip (h.th)) | exact Thin.ref (.skip (.skip (h.th))) | exact Thin.ref (.skip (.skip (.skip (h.th)))) | exact Thin.ref (.skip (.skip (.skip (.skip (h.th))))) | exact ⟨rfl, oneAll_of rfl⟩ | exact oneAll_of rfl | exact rfl | exact ⟨rfl, rfl, rfl, rfl⟩ | exact ⟨rfl, rfl, rfl, rfl, rfl⟩ | exact ⟨by unfold maxLen; omega, by omega⟩ | omega) ?_ | intro _)); refine VC_can (t := tr_evergreenref12_Add_22) _ _ (by (repeat ((conv => whnf); refine And.intro (by first | exact rfl | exact vint_eq (by omega) | exact vint_eq (by (dsimp only; omega)) | exact vsl_eq (by omega) | exact vsl_eq (by first | (dsimp only; omega) | (simp; done) | (simp; omega))) ?_)); exact trivial) (Thin.ref (.own (by omega) rfl (Thin.refl _))) (add_22 h _ _)
  (conv => whnf)
  refine stop_and ?_ ?_
  · (repeat' ((conv => whnf); first | refine ⟨xs, h.rs _, ?_⟩ | refine ⟨ys, h.rl _, ?_⟩ | refine And.intro (by first | exact o1 | exact o2 | exact fun _ => Thin.ref (.skip (h.th)) | exact fun _ => Thin.ref (.skip (.skip (h.th))) | exact fun _ => Thin.ref (.skip (.skip (.skip (h.th)))) | exact fun _ => Thin.ref (.skip (.skip (.skip (.skip (h.th))))) | exact Thin.ref (.skip (h.th)) | exact Thin.ref (.skip (.skip (h.th))) | exact Thin.ref (.skip (.skip (.skip (h.th)))) | exact Thin.ref (.skip (.skip (.skip (.skip (h.th))))) | exact ⟨rfl, oneAll_of rfl⟩ | exact oneAll_of rfl | exact rfl | exact ⟨rfl, rfl, rfl, rfl⟩ | exact ⟨rfl, rfl, rfl, rfl, rfl⟩ | exact ⟨by unfold maxLen; omega, by omega⟩ | omega) ?_ | intro _)); refine VC_can (t := tr_evergreenref12_Add_26) _ _ (by (repeat ((conv => whnf); refine And.intro (by first | exact rfl | exact vint_eq (by omega) | exact vint_eq (by (dsimp only; omega)) | exact vsl_eq (by omega) | exact vsl_eq (by first | (dsimp only; omega) | (simp; done) | (simp; omega))) ?_)); exact trivial) (Thin.ref (.own (by omega) rfl (Thin.refl _))) (add_26 h _)
  (conv => whnf)
  refine stop_and ?_ ?_
  · (repeat' ((conv => whnf); first | refine ⟨xs, h.rs _, ?_⟩ | refine ⟨ys, h.rl _, ?_⟩ | refine And.intro (by first | exact o1 | exact o2 | exact fun _ => Thin.ref (.skip (h.th)) | exact fun _ => Thin.ref (.skip (.skip (h.th))) | exact fun _ => Thin.ref (.skip (.skip (.skip (h.th)))) | exact fun _ => Thin.ref (.skip (.skip (.skip (.skip (h.th))))) | exact Thin.ref (.skip (h.th)) | exact Thin.ref (.skip (.skip (h.th))) | exact Thin.ref (.skip (.skip (.skip (h.th)))) | exact Thin.ref (.skip (.skip (.skip (.skip (h.th))))) | exact ⟨rfl, oneAll_of rfl⟩ | exact oneAll_of rfl | exact rfl | exact ⟨rfl, rfl, rfl, rfl⟩ | exact ⟨rfl, rfl, rfl, rfl, rfl⟩ | exact ⟨by unfold maxLen; omega, by omega⟩ | omega) ?_ | intro _)); refine VC_can (t := tr_evergreenref12_Add_28) _ _ (by (repeat ((conv => whnf); refine And.intro (by first | exact rfl | exact vint_eq (by omega) | exact vint_eq (by (dsimp only; omega)) | exact vsl_eq (by omega) | exact vsl_eq (by first | (dsimp only; omega) | (simp; done) | (simp; omega))) ?_)); exact trivial) (Thin.ref (.own (by omega) rfl (Thin.refl _))) (add_28 h _ _)
  (repeat' ((conv => whnf); first | refine ⟨xs, h.rs _, ?_⟩ | refine ⟨ys, h.rl _, ?_⟩ | refine And.intro (by first | exact o1 | exact o2 | exact fun _ => Thin.ref (.skip (h.th)) | exact fun _ => Thin.ref (.skip (.skip (h.th))) | exact fun _ => Thin.ref (.skip (.skip (.skip (h.th)))) | exact fun _ => Thin.ref (.skip (.skip (.skip (.skip (h.th))))) | exact Thin.ref (.skip (h.th)) | exact Thin.ref (.skip (.skip (h.th))) | exact Thin.ref (.skip (.skip (.skip (h.th)))) | exact Thin.ref (.skip (.skip (.skip (.skip (h.th))))) | exact ⟨rfl, oneAll_of rfl⟩ | exact oneAll_of rfl | exact rfl | exact ⟨rfl, rfl, rfl, rfl⟩ | exact ⟨rfl, rfl, rfl, rfl, rfl⟩ | exact ⟨by unfold maxLen; omega, by omega⟩ | omega) ?_ | intro _)); refine VC_can (t := tr_evergreenref12_Add_29) _ _ (by (repeat ((conv => whnf); refine And.intro (by first | exact rfl | exact vint_eq (by omega) | exact vint_eq (by (dsimp only; omega)) | exact vsl_eq (by omega) | exact vsl_eq (by first | (dsimp only; omega) | (simp; done) | (simp; omega))) ?_)); exact trivial) (Thin.ref (.own (by omega) rfl (Thin.refl _))) (add_29 h _)

end
end Go.Proofs.Ytohlphngnhcbfaa
/- A rule is added to the reference's list. -/
namespace Go.Proofs.Ytohlphngnhcbfaa
open Go.EG
attribute [local irreducible] CallK QCall Go.Calls
set_option linter.unusedSimpArgs false
set_option linter.unusedVariables false
set_option maxRecDepth 20000
set_option maxHeartbeats 4000000

theorem rul_ext {r r' : Rul} (h : r ≠ r') : ¬ (r.k = r'.k ∧ r.l = r'.l ∧ r.a = r'.a ∧ r.b = r'.b ∧ r.t = r'.t) := fun ⟨h1, h2, h3, h4, h5⟩ => h (by cases r; cases r'; simp_all)
theorem calls_rAdd {a1 a2 : Option Addr} {c1 c2 : Nat} (E : List Entr) (hE : E.length ≤ 1048576) (r : Rul) (n : Nat) (hn : (mkT E r).len = n) (w : World) (h1 : In w [] a1 (ruE E)) (h2 : In w [] a2 (leE E)) :
    Calls Try.prog fn_evergreenref12_Add #[stV E.length a1 c1 a2 c2, ruV r, .int .i64 n] w fun e w' => ∃ v L1, e = .returned v ∧ R w [] L1 w' ∧ oneQ E (putF E r).1 (putF E r).2 a1 c1 a2 c2 v L1 := by
  refine new_call [.v (stV E.length a1 c1 a2 c2), .v (ruV r), .v (.int .i64 n)] ok_evergreenref12_Add (by simp) ?_
  have rs := fun {L : List Ent} => h1.rds (L := L) (n := E.length * 5) (by rw [ruE_length])
  have rl := fun {L : List Ent} => h2.rds (L := L) (n := E.length * 1) (by rw [leE_length, Nat.mul_one])
  have o1 := oneAll_ru E
  have o2 : oneAll (leE E) := oneAll_ints' .i64 (lensI (E.map (·.m)))
  have s1 := ruE_snoc E (mkE E r)
  have s2 := leE_snoc E (mkE E r)
  rw [show (mkE E r).r = r from rfl] at s1
  rw [show (mkE E r).m = mkT E r from rfl, hn] at s2
  have hlen : (E ++ [mkE E r]).length = E.length + 1 := by simp
  have hne : ∀ i, i < E.length → a1 ≠ none := fun i hi => h1.ne' (k := i * 5) (by rw [ruE_length]; omega)
  have hrd := fun {L : List Ent} (i : Nat) (hi : i < E.length) => In.rdn (L := L) (vs := ruC (E.getD i ent0).r) (k := i * 5) h1 (Nat.succ_pos _) (ruE_at hi)
  (repeat' ((conv => whnf); first | (refine bcase_prop (fun h => ?_) (fun h => ?_) <;> try (exfalso; omega)) | (refine bcase_nprop (fun h => ?_) (fun h => ?_) <;> try (exfalso; omega)) | (refine bcase_intro (fun h => ?_) (fun h => ?_) <;> (try simp only [Bool.not_eq_true', Bool.not_eq_false', decide_eq_true_eq, decide_eq_false_iff_not, Bool.not_eq_true, Bool.not_eq_false, Decidable.not_not] at h)) | refine And.intro (by first | omega | exact rfl | assumption | exact ⟨rfl, rfl, rfl, rfl, rfl⟩ | exact ⟨rfl, rfl, rfl, rfl⟩ | exact ⟨rfl, by omega⟩ | exact oneAll_of rfl | exact ⟨rfl, oneAll_of rfl⟩ | exact Ref.refl _ | exact Thin.ref (.skip (Thin.refl _)) | exact Thin.ref (.skip (.skip (Thin.refl _))) | exact ⟨rfl, Nat.le_of_ble_eq_true rfl⟩ | ((try unfold maxLen); (try simp only [List.length_nil, List.length_cons, List.length_append]); omega) | (refine ⟨rfl, ?_⟩; (try simp only [List.length_nil, List.length_cons, List.length_append]); omega)) ?_ | intro _)); (all_goals (conv => whnf))
  rename_i b3 b4 b6
  refine VC_loop Nat (fun i => [(2, .v (.int .i64 n)), (3, .ptr 3 b3 0), (4, .ptr 4 b4 0), (6, .ptr 6 b6 0), (7, .v (.int .i64 0)), (8, .v (.int .i64 i))]) (fun _ => [.box 6 b6 [.slice none 0 0, .slice none 0 0] ty_evergreenref12_Store, .box 4 b4 (ruC r) ty_api_Rule, .box 3 b3 [.slice a1 E.length c1, .slice a2 E.length c2] ty_evergreenref12_Store])
    (fun i => i ≤ E.length ∧ idOf r E = idx r i (E.drop i)) (fun i => E.length - i) 0 ⟨Nat.zero_le _, rfl⟩ (by (repeat ((conv => whnf); refine And.intro (by first | exact rfl | exact vint_eq (by omega) | exact vint_eq (by (dsimp only; omega)) | exact vsl_eq (by omega) | exact vsl_eq (by first | (dsimp only; omega) | (simp; done) | (simp; omega))) ?_)); exact trivial) (.refl _) ?_
  rintro i ⟨hi, hid⟩
  by_cases hlt : i < E.length
  · rw [drop_cons (d := ent0) hlt] at hid
    have hr := fun {L : List Ent} => hrd (L := L) i hlt
    have hn0 := hne i hlt
    by_cases hx : (E.getD i ent0).r = r
    · have hid : idOf r E = i + 1 := hid.trans (if_pos hx.symm)
      rw [hx] at hr
      have hp : putF E r = (E, ((idOf r E : Nat) : Int)) := if_neg (by omega)
      rw [hp]
      (repeat' ((conv => whnf); first | rw [Int.toNat_natCast] | refine ⟨ruC r, rfl, hr, ?_⟩ | refine ⟨.v _, ⟨rfl, trivial⟩, ?_⟩ | (refine bcase_prop (fun h => ?_) (fun h => ?_) <;> try (exfalso; omega)) | (refine bcase_nprop (fun h => ?_) (fun h => ?_) <;> try (exfalso; omega)) | (refine bcase_intro (fun h => ?_) (fun h => ?_) <;> (try simp only [Bool.not_eq_true', Bool.not_eq_false', decide_eq_true_eq, decide_eq_false_iff_not, Bool.not_eq_true, Bool.not_eq_false, Decidable.not_not] at h)) | refine And.intro (by first | omega | exact rfl | assumption | exact ⟨rfl, rfl, rfl, rfl, rfl⟩ | exact ⟨rfl, rfl, rfl, rfl⟩ | exact ⟨rfl, by omega⟩ | exact oneAll_of rfl | exact ⟨rfl, oneAll_of rfl⟩ | exact Ref.refl _ | exact Thin.ref (.skip (Thin.refl _)) | exact Thin.ref (.skip (.skip (Thin.refl _))) | exact ⟨rfl, Nat.le_of_ble_eq_true rfl⟩ | ((try unfold maxLen); (try simp only [List.length_nil, List.length_cons, List.length_append]); omega) | (refine ⟨rfl, ?_⟩; (try simp only [List.length_nil, List.length_cons, List.length_append]); omega)) ?_ | intro _)); (all_goals (conv => whnf))
      refine ⟨endOld rfl ?_⟩
      rw [hid]; rfl
    · have hid : idOf r E = idx r (i + 1) (E.drop (i + 1)) := hid.trans (if_neg (fun h => hx h.symm))
      have hx' := rul_ext hx
      generalize (E.getD i ent0).r = q at *
      (repeat' ((conv => whnf); first | rw [Int.toNat_natCast] | refine ⟨ruC q, rfl, hr, ?_⟩ | refine ⟨.v _, ⟨rfl, trivial⟩, ?_⟩ | (refine bcase_prop (fun h => ?_) (fun h => ?_) <;> try (exfalso; omega)) | (refine bcase_nprop (fun h => ?_) (fun h => ?_) <;> try (exfalso; omega)) | (refine bcase_intro (fun h => ?_) (fun h => ?_) <;> (try simp only [Bool.not_eq_true', Bool.not_eq_false', decide_eq_true_eq, decide_eq_false_iff_not, Bool.not_eq_true, Bool.not_eq_false, Decidable.not_not] at h)) | refine And.intro (by first | omega | exact rfl | assumption | exact ⟨rfl, rfl, rfl, rfl, rfl⟩ | exact ⟨rfl, rfl, rfl, rfl⟩ | exact ⟨rfl, by omega⟩ | exact oneAll_of rfl | exact ⟨rfl, oneAll_of rfl⟩ | exact Ref.refl _ | exact Thin.ref (.skip (Thin.refl _)) | exact Thin.ref (.skip (.skip (Thin.refl _))) | exact ⟨rfl, Nat.le_of_ble_eq_true rfl⟩ | ((try unfold maxLen); (try simp only [List.length_nil, List.length_cons, List.length_append]); omega) | (refine ⟨rfl, ?_⟩; (try simp only [List.length_nil, List.length_cons, List.length_append]); omega)) ?_ | intro _)); (all_goals (conv => whnf))
      all_goals (refine loop_next (i + 1) ⟨hlt, hid⟩ (by ((try dsimp only); omega)) (by (repeat ((conv => whnf); refine And.intro (by first | exact rfl | exact vint_eq (by omega) | exact vint_eq (by (dsimp only; omega)) | exact vsl_eq (by omega) | exact vsl_eq (by first | (dsimp only; omega) | (simp; done) | (simp; omega))) ?_)); exact trivial) (Thin.ref (by (repeat (first | exact Thin.nil _ | exact Thin.refl _ | refine Thin.keep rfl (fun _ h => h) ?_ | refine Thin.skip ?_)))))
  · rw [show E.drop i = [] from List.drop_eq_nil_of_le (by omega)] at hid
    have hid : idOf r E = 0 := hid
    have hp : putF E r = (E ++ [mkE E r], ((E.length + 1 : Nat) : Int)) := if_pos hid
    rw [hp]
    clear hne hrd hid hp
    have lx : (ruE E).length = E.length * 5 := ruE_length E
    generalize ruE E = xs at *
    generalize leE E = ys at *
    (repeat' ((conv => whnf); first | refine VC_drop 6 ?_ | refine ⟨.v _, ⟨rfl, trivial⟩, ?_⟩ | (refine bcase_prop (fun h => ?_) (fun h => ?_) <;> try (exfalso; omega)) | (refine bcase_nprop (fun h => ?_) (fun h => ?_) <;> try (exfalso; omega)) | (refine bcase_intro (fun h => ?_) (fun h => ?_) <;> (try simp only [Bool.not_eq_true', Bool.not_eq_false', decide_eq_true_eq, decide_eq_false_iff_not, Bool.not_eq_true, Bool.not_eq_false, Decidable.not_not] at h)) | refine And.intro (by first | omega | exact rfl | assumption | exact ⟨rfl, rfl, rfl, rfl, rfl⟩ | exact ⟨rfl, rfl, rfl, rfl⟩ | exact ⟨rfl, by omega⟩ | exact oneAll_of rfl | exact ⟨rfl, oneAll_of rfl⟩ | exact Ref.refl _ | exact Thin.ref (.skip (Thin.refl _)) | exact Thin.ref (.skip (.skip (Thin.refl _))) | exact ⟨rfl, Nat.le_of_ble_eq_true rfl⟩ | ((try unfold maxLen); (try simp only [List.length_nil, List.length_cons, List.length_append]); omega) | (refine ⟨rfl, ?_⟩; (try simp only [List.length_nil, List.length_cons, List.length_append]); omega)) ?_ | intro _)); (all_goals (conv => whnf))
    refine VC_can _ _ (by (repeat ((conv => whnf); refine And.intro (by first | exact rfl | exact vint_eq (by omega) | exact vint_eq (by (dsimp only; omega)) | exact vsl_eq (by omega) | exact vsl_eq (by first | (dsimp only; omega) | (simp; done) | (simp; omega))) ?_)); exact trivial) (Ref.refl _) (add_30 (E := E) (r := r) (N := n) (a1 := a1) (a2 := a2) (c1 := c1) (c2 := c2) (b6 := b6) (xs := xs) (ys := ys) ⟨hE, Thin.skip (Thin.refl _), o1, o2, fun L => rs, fun L => rl, lx, ?_⟩)
    intro q1 q2 z1 z2
    (repeat' ((conv => whnf); first | (refine bcase_prop (fun h => ?_) (fun h => ?_) <;> try (exfalso; omega)) | (refine bcase_nprop (fun h => ?_) (fun h => ?_) <;> try (exfalso; omega)) | (refine bcase_intro (fun h => ?_) (fun h => ?_) <;> (try simp only [Bool.not_eq_true', Bool.not_eq_false', decide_eq_true_eq, decide_eq_false_iff_not, Bool.not_eq_true, Bool.not_eq_false, Decidable.not_not] at h)) | refine And.intro (by first | omega | exact rfl | assumption | exact ⟨rfl, rfl, rfl, rfl, rfl⟩ | exact ⟨rfl, rfl, rfl, rfl⟩ | exact ⟨rfl, by omega⟩ | exact oneAll_of rfl | exact ⟨rfl, oneAll_of rfl⟩ | exact Ref.refl _ | exact Thin.ref (.skip (Thin.refl _)) | exact Thin.ref (.skip (.skip (Thin.refl _))) | exact Thin.ref (.skip (.skip (.skip (Thin.refl _)))) | exact ⟨rfl, Nat.le_of_ble_eq_true rfl⟩ | ((try unfold maxLen); (try simp only [List.length_nil, List.length_cons, List.length_append]); omega) | (refine ⟨rfl, ?_⟩; (try simp only [List.length_nil, List.length_cons, List.length_append]); omega)) ?_ | intro _)); (all_goals (conv => whnf))
    all_goals exact ⟨endNew 26 33 rfl rfl (by rw [hlen]) (by rw [← s1]) (by rw [hlen]) (by rw [← s2]) (by omega) rfl⟩
end Go.Proofs.Ytohlphngnhcbfaa
/- Lists of makes: one make, a list, by the reference. -/
namespace Go.Proofs.Ytohlphngnhcbfaa
open Go.EG
attribute [local irreducible] CallK QCall Go.Calls
set_option linter.unusedSimpArgs false
set_option linter.unusedVariables false
set_option maxRecDepth 20000
set_option maxHeartbeats 4000000

/-- A make's fields. -/
structure MakB (m : Rul) : Prop where
  k : -9223372036854775808 ≤ m.k ∧ m.k ≤ 9223372036854775807
  l : 0 ≤ m.l ∧ m.l < 256
  a : -9223372036854775808 ≤ m.a ∧ m.a ≤ 9223372036854775807
  b : -9223372036854775808 ≤ m.b ∧ m.b ≤ 9223372036854775807
  t : -9223372036854775808 ≤ m.t ∧ m.t ≤ 9223372036854775807
structure MIn (g : List Rul) : Prop where
  len : g.length * 40 ≤ 140737488355328
  ok : ∀ i, i < g.length → MakB (g.getD i rul0)

theorem len_pair (E : List Entr) (i j : Int) : (mkT E (pairR i j)).len = (tm E i).len + (tm E j).len := by
  show (Tm.pr (tm E i) (tm E j)).len = _
  unfold Tm.len; rw [Tm.txt, List.length_append]
theorem len_pow (E : List Entr) (i k : Int) : (mkT E (powR i k)).len = (tm E i).len * k.toNat := by
  show (Tm.pw (tm E i) k.toNat).len = _
  unfold Tm.len; rw [Tm.txt, len_rep, Nat.mul_comm]

theorem calls_rOne {a1 a2 a3 : Option Addr} {c1 c2 c3 : Nat} {E : List Entr} {res : List Int} (hB : Bld E res) (hE : E.length ≤ 1000) (hres : res.length ≤ 1000) {m : Rul} (hm : MakB m) (w : World) (h1 : In w [] a1 (ruE E)) (h2 : In w [] a2 (leE E)) (h3 : In w [] a3 (ints .i64 res)) :
    Calls Try.prog fn_evergreenref12_One #[stV E.length a1 c1 a2 c2, ruV m, .slice a3 res.length c3] w fun e w' => ∃ v L1, e = .returned v ∧ R w [] L1 w' ∧ oneQ E (oneF E m res).1 (oneF E m res).2 a1 c1 a2 c2 v L1 := by
  refine new_call [.v (stV E.length a1 c1 a2 c2), .v (ruV m), .v (.slice a3 res.length c3)] ok_evergreenref12_One (by simp) ?_
  have p1 := calls_Pick m.a res.length hB.ne (by omega) hm.a
  have p2 := calls_Pick m.b res.length hB.ne (by omega) hm.b
  have p3 := calls_Pick m.k 4 (by decide) (by decide) hm.k
  have i1 := pickF_lt (n := m.a) hB.ne
  have i2 := pickF_lt (n := m.b) hB.ne
  have pa := hB.pick m.a
  have pb := hB.pick m.b
  have rd1 := fun {L : List Ent} => rdI (L := L) h3 i1
  have rd2 := fun {L : List Ent} => rdI (L := L) h3 i2
  have n3 : a3 ≠ none := neI h3 hB.ne
  have hl1 := hB.wf.le (n := res.getD (pickF m.a res.length) 0) pa.2
  have hl2 := hB.wf.le (n := res.getD (pickF m.b res.length) 0) pb.2
  have q1 := hB.wf.pos1 (n := res.getD (pickF m.a res.length) 0)
  dsimp only at hl1 hl2 q1
  unfold oneF
  generalize pickF m.a res.length = ia at *
  generalize pickF m.b res.length = ib at *
  generalize res.getD ia 0 = x at *
  generalize res.getD ib 0 = y at *
  generalize pickF m.k 4 = kk at *
  have L1 := calls_Length (a1 := a1) (c1 := c1) (a2 := a2) (c2 := c2) E (by omega) pa.1 pa.2
  have L2 := calls_Length (a1 := a1) (c1 := c1) (a2 := a2) (c2 := c2) E (by omega) pb.1 pb.2
  by_cases k0 : kk = 0
  · subst k0
    rw [if_pos rfl]
    obtain ⟨l, hl⟩ : ∃ l : Nat, m.l = l := ⟨m.l.toNat, by have := hm.l; omega⟩
    rw [hl, Int.toNat_natCast]
    have cA := calls_rAdd (a1 := a1) (c1 := c1) (a2 := a2) (c2 := c2) E (by omega) (letR l) 1 rfl
    (repeat' ((conv => whnf); first | rw [hl] | rw [Int.toNat_natCast] | rw [Nat.mul_one] | (first | refine CallK_pure (.v _) (fun w hR => p1 w) ?_ | refine QCall_pure (.v _) (fun w hR => p1 w) ?_) | (first | refine CallK_pure (.v _) (fun w hR => p2 w) ?_ | refine QCall_pure (.v _) (fun w hR => p2 w) ?_) | (first | refine CallK_pure (.v _) (fun w hR => p3 w) ?_ | refine QCall_pure (.v _) (fun w hR => p3 w) ?_) | refine ⟨_, rd1, ?_⟩ | refine ⟨_, rd2, ?_⟩ | refine ⟨.v _, ⟨rfl, trivial⟩, ?_⟩ | ((refine CallK_new (fun w hR => cA w (h1.cast hR (by simp)) (h2.cast hR (by simp))) ?_; rintro _ _ (⟨hq, rfl, rfl⟩ | ⟨a1', c1', a2', c2', rfl, rfl⟩)) <;> refine ⟨.v _, rfl, ?_⟩) | (refine bcase_prop (fun h => ?_) (fun h => ?_) <;> try (exfalso; omega)) | (refine bcase_nprop (fun h => ?_) (fun h => ?_) <;> try (exfalso; omega)) | (refine bcase_intro (fun h => ?_) (fun h => ?_) <;> (try simp only [Bool.not_eq_true', Bool.not_eq_false', decide_eq_true_eq, decide_eq_false_iff_not, Bool.not_eq_true, Bool.not_eq_false, Decidable.not_not] at h)) | refine And.intro (by first | omega | exact rfl | assumption | exact ⟨rfl, rfl, rfl, rfl, rfl⟩ | exact ⟨rfl, rfl, rfl, rfl⟩ | exact ⟨rfl, by omega⟩ | exact oneAll_of rfl | exact ⟨rfl, oneAll_of rfl⟩ | exact Ref.refl _ | exact Thin.ref (.skip (Thin.refl _)) | exact Thin.ref (.skip (.skip (Thin.refl _))) | exact n3 | exact ⟨rfl, Nat.le_of_ble_eq_true rfl⟩ | ((try unfold maxLen); (try simp only [List.length_nil, List.length_cons, List.length_append]); omega) | (refine ⟨rfl, ?_⟩; (try simp only [List.length_nil, List.length_cons, List.length_append]); omega)) ?_ | intro _)); (all_goals (conv => whnf))
    all_goals first | exact ⟨endOld hq rfl⟩ | exact ⟨endNew 801 802 rfl rfl rfl rfl rfl rfl rfl rfl⟩
  · rw [if_neg k0]
    by_cases k3 : kk = 3
    · subst k3
      rw [if_pos rfl]
      by_cases hx : x = 0
      · rw [if_pos (.inl hx)]
        subst hx
        (repeat' ((conv => whnf); first | rw [Int.toNat_natCast] | rw [Nat.mul_one] | (first | refine CallK_pure (.v _) (fun w hR => p1 w) ?_ | refine QCall_pure (.v _) (fun w hR => p1 w) ?_) | (first | refine CallK_pure (.v _) (fun w hR => p2 w) ?_ | refine QCall_pure (.v _) (fun w hR => p2 w) ?_) | (first | refine CallK_pure (.v _) (fun w hR => p3 w) ?_ | refine QCall_pure (.v _) (fun w hR => p3 w) ?_) | refine ⟨_, rd1, ?_⟩ | refine ⟨_, rd2, ?_⟩ | refine ⟨.v _, ⟨rfl, trivial⟩, ?_⟩ | refine CallK_pure (.v _) (fun w hR => L1 w (h2.cast hR (by simp))) ?_ | (refine bcase_prop (fun h => ?_) (fun h => ?_) <;> try (exfalso; omega)) | (refine bcase_nprop (fun h => ?_) (fun h => ?_) <;> try (exfalso; omega)) | (refine bcase_intro (fun h => ?_) (fun h => ?_) <;> (try simp only [Bool.not_eq_true', Bool.not_eq_false', decide_eq_true_eq, decide_eq_false_iff_not, Bool.not_eq_true, Bool.not_eq_false, Decidable.not_not] at h)) | refine And.intro (by first | omega | exact rfl | assumption | exact ⟨rfl, rfl, rfl, rfl, rfl⟩ | exact ⟨rfl, rfl, rfl, rfl⟩ | exact ⟨rfl, by omega⟩ | exact oneAll_of rfl | exact ⟨rfl, oneAll_of rfl⟩ | exact Ref.refl _ | exact Thin.ref (.skip (Thin.refl _)) | exact Thin.ref (.skip (.skip (Thin.refl _))) | exact n3 | exact ⟨rfl, Nat.le_of_ble_eq_true rfl⟩ | ((try unfold maxLen); (try simp only [List.length_nil, List.length_cons, List.length_append]); omega) | (refine ⟨rfl, ?_⟩; (try simp only [List.length_nil, List.length_cons, List.length_append]); omega)) ?_ | intro _)); (all_goals (conv => whnf))
        all_goals exact ⟨endOld rfl rfl⟩
      · have hp := q1 (by omega) pa.2
        by_cases ht : m.t ≤ 0
        · rw [if_pos (.inr (.inl ht))]
          (repeat' ((conv => whnf); first | rw [Int.toNat_natCast] | rw [Nat.mul_one] | (first | refine CallK_pure (.v _) (fun w hR => p1 w) ?_ | refine QCall_pure (.v _) (fun w hR => p1 w) ?_) | (first | refine CallK_pure (.v _) (fun w hR => p2 w) ?_ | refine QCall_pure (.v _) (fun w hR => p2 w) ?_) | (first | refine CallK_pure (.v _) (fun w hR => p3 w) ?_ | refine QCall_pure (.v _) (fun w hR => p3 w) ?_) | refine ⟨_, rd1, ?_⟩ | refine ⟨_, rd2, ?_⟩ | refine ⟨.v _, ⟨rfl, trivial⟩, ?_⟩ | refine CallK_pure (.v _) (fun w hR => L1 w (h2.cast hR (by simp))) ?_ | (refine bcase_prop (fun h => ?_) (fun h => ?_) <;> try (exfalso; omega)) | (refine bcase_nprop (fun h => ?_) (fun h => ?_) <;> try (exfalso; omega)) | (refine bcase_intro (fun h => ?_) (fun h => ?_) <;> (try simp only [Bool.not_eq_true', Bool.not_eq_false', decide_eq_true_eq, decide_eq_false_iff_not, Bool.not_eq_true, Bool.not_eq_false, Decidable.not_not] at h)) | refine And.intro (by first | omega | exact rfl | assumption | exact ⟨rfl, rfl, rfl, rfl, rfl⟩ | exact ⟨rfl, rfl, rfl, rfl⟩ | exact ⟨rfl, by omega⟩ | exact oneAll_of rfl | exact ⟨rfl, oneAll_of rfl⟩ | exact Ref.refl _ | exact Thin.ref (.skip (Thin.refl _)) | exact Thin.ref (.skip (.skip (Thin.refl _))) | exact n3 | exact ⟨rfl, Nat.le_of_ble_eq_true rfl⟩ | ((try unfold maxLen); (try simp only [List.length_nil, List.length_cons, List.length_append]); omega) | (refine ⟨rfl, ?_⟩; (try simp only [List.length_nil, List.length_cons, List.length_append]); omega)) ?_ | intro _)); (all_goals (conv => whnf))
          all_goals first | exact ⟨endOld rfl rfl⟩ | (exfalso; omega)
        · obtain ⟨t, htn⟩ : ∃ t : Nat, m.t = t := ⟨m.t.toNat, by omega⟩
          rw [htn, Int.toNat_natCast]
          have hdiv : (1152921504606846976 : Int) / ((tm E x).len : Int) = ((1152921504606846976 / (tm E x).len : Nat) : Int) := by rw [Int.natCast_ediv]; rfl
          have hiff : t ≤ 1152921504606846976 / (tm E x).len ↔ (tm E x).len * t ≤ LM := by
            rw [Nat.le_div_iff_mul_le (by omega), Nat.mul_comm]
          have cA := calls_rAdd (a1 := a1) (c1 := c1) (a2 := a2) (c2 := c2) E (by omega) (powR x t) ((tm E x).len * t) (by rw [len_pow]; rfl)
          have hmul : ((tm E x).len : Int) * (t : Int) = (((tm E x).len * t : Nat) : Int) := by simp
          have htb := hm.t
          generalize (tm E x).len = ln at *
          generalize ln * t = p at *
          unfold LM at *
          generalize 1152921504606846976 / ln = dd at *
          by_cases hlong : 1152921504606846976 < p
          · rw [if_pos (.inr (.inr hlong))]
            (repeat' ((conv => whnf); first | rw [hdiv] | rw [htn] | rw [Int.toNat_natCast] | rw [Nat.mul_one] | (first | refine CallK_pure (.v _) (fun w hR => p1 w) ?_ | refine QCall_pure (.v _) (fun w hR => p1 w) ?_) | (first | refine CallK_pure (.v _) (fun w hR => p2 w) ?_ | refine QCall_pure (.v _) (fun w hR => p2 w) ?_) | (first | refine CallK_pure (.v _) (fun w hR => p3 w) ?_ | refine QCall_pure (.v _) (fun w hR => p3 w) ?_) | refine ⟨_, rd1, ?_⟩ | refine ⟨_, rd2, ?_⟩ | refine ⟨.v _, ⟨rfl, trivial⟩, ?_⟩ | refine CallK_pure (.v _) (fun w hR => L1 w (h2.cast hR (by simp))) ?_ | (refine bcase_prop (fun h => ?_) (fun h => ?_) <;> try (exfalso; omega)) | (refine bcase_nprop (fun h => ?_) (fun h => ?_) <;> try (exfalso; omega)) | (refine bcase_intro (fun h => ?_) (fun h => ?_) <;> (try simp only [Bool.not_eq_true', Bool.not_eq_false', decide_eq_true_eq, decide_eq_false_iff_not, Bool.not_eq_true, Bool.not_eq_false, Decidable.not_not] at h)) | refine And.intro (by first | omega | exact rfl | assumption | exact ⟨rfl, rfl, rfl, rfl, rfl⟩ | exact ⟨rfl, rfl, rfl, rfl⟩ | exact ⟨rfl, by omega⟩ | exact oneAll_of rfl | exact ⟨rfl, oneAll_of rfl⟩ | exact Ref.refl _ | exact Thin.ref (.skip (Thin.refl _)) | exact Thin.ref (.skip (.skip (Thin.refl _))) | exact n3 | exact ⟨by omega, by omega, by omega⟩ | exact ⟨rfl, Nat.le_of_ble_eq_true rfl⟩ | ((try unfold maxLen); (try simp only [List.length_nil, List.length_cons, List.length_append]); omega) | (refine ⟨rfl, ?_⟩; (try simp only [List.length_nil, List.length_cons, List.length_append]); omega)) ?_ | intro _)); (all_goals (conv => whnf))
            all_goals first | exact ⟨endOld rfl rfl⟩ | (exfalso; omega)
          · rw [if_neg (by omega)]
            by_cases ht1 : (t : Int) = 1
            · rw [if_pos ht1]
              (repeat' ((conv => whnf); first | rw [hdiv] | rw [htn] | rw [Int.toNat_natCast] | rw [Nat.mul_one] | (first | refine CallK_pure (.v _) (fun w hR => p1 w) ?_ | refine QCall_pure (.v _) (fun w hR => p1 w) ?_) | (first | refine CallK_pure (.v _) (fun w hR => p2 w) ?_ | refine QCall_pure (.v _) (fun w hR => p2 w) ?_) | (first | refine CallK_pure (.v _) (fun w hR => p3 w) ?_ | refine QCall_pure (.v _) (fun w hR => p3 w) ?_) | refine ⟨_, rd1, ?_⟩ | refine ⟨_, rd2, ?_⟩ | refine ⟨.v _, ⟨rfl, trivial⟩, ?_⟩ | refine CallK_pure (.v _) (fun w hR => L1 w (h2.cast hR (by simp))) ?_ | (refine bcase_prop (fun h => ?_) (fun h => ?_) <;> try (exfalso; omega)) | (refine bcase_nprop (fun h => ?_) (fun h => ?_) <;> try (exfalso; omega)) | (refine bcase_intro (fun h => ?_) (fun h => ?_) <;> (try simp only [Bool.not_eq_true', Bool.not_eq_false', decide_eq_true_eq, decide_eq_false_iff_not, Bool.not_eq_true, Bool.not_eq_false, Decidable.not_not] at h)) | refine And.intro (by first | omega | exact rfl | assumption | exact ⟨rfl, rfl, rfl, rfl, rfl⟩ | exact ⟨rfl, rfl, rfl, rfl⟩ | exact ⟨rfl, by omega⟩ | exact oneAll_of rfl | exact ⟨rfl, oneAll_of rfl⟩ | exact Ref.refl _ | exact Thin.ref (.skip (Thin.refl _)) | exact Thin.ref (.skip (.skip (Thin.refl _))) | exact n3 | exact ⟨by omega, by omega, by omega⟩ | exact ⟨rfl, Nat.le_of_ble_eq_true rfl⟩ | ((try unfold maxLen); (try simp only [List.length_nil, List.length_cons, List.length_append]); omega) | (refine ⟨rfl, ?_⟩; (try simp only [List.length_nil, List.length_cons, List.length_append]); omega)) ?_ | intro _)); (all_goals (conv => whnf))
              all_goals first | exact ⟨endOld rfl rfl⟩ | (exfalso; omega)
            · rw [if_neg ht1]
              (repeat' ((conv => whnf); first | rw [hdiv] | rw [hmul] | rw [htn] | rw [Int.toNat_natCast] | rw [Nat.mul_one] | (first | refine CallK_pure (.v _) (fun w hR => p1 w) ?_ | refine QCall_pure (.v _) (fun w hR => p1 w) ?_) | (first | refine CallK_pure (.v _) (fun w hR => p2 w) ?_ | refine QCall_pure (.v _) (fun w hR => p2 w) ?_) | (first | refine CallK_pure (.v _) (fun w hR => p3 w) ?_ | refine QCall_pure (.v _) (fun w hR => p3 w) ?_) | refine ⟨_, rd1, ?_⟩ | refine ⟨_, rd2, ?_⟩ | refine ⟨.v _, ⟨rfl, trivial⟩, ?_⟩ | refine CallK_pure (.v _) (fun w hR => L1 w (h2.cast hR (by simp))) ?_ | ((refine CallK_new (fun w hR => cA w (h1.cast hR (by simp)) (h2.cast hR (by simp))) ?_; rintro _ _ (⟨hq, rfl, rfl⟩ | ⟨a1', c1', a2', c2', rfl, rfl⟩)) <;> refine ⟨.v _, rfl, ?_⟩) | (refine bcase_prop (fun h => ?_) (fun h => ?_) <;> try (exfalso; omega)) | (refine bcase_nprop (fun h => ?_) (fun h => ?_) <;> try (exfalso; omega)) | (refine bcase_intro (fun h => ?_) (fun h => ?_) <;> (try simp only [Bool.not_eq_true', Bool.not_eq_false', decide_eq_true_eq, decide_eq_false_iff_not, Bool.not_eq_true, Bool.not_eq_false, Decidable.not_not] at h)) | refine And.intro (by first | omega | exact rfl | assumption | exact ⟨rfl, rfl, rfl, rfl, rfl⟩ | exact ⟨rfl, rfl, rfl, rfl⟩ | exact ⟨rfl, by omega⟩ | exact oneAll_of rfl | exact ⟨rfl, oneAll_of rfl⟩ | exact Ref.refl _ | exact Thin.ref (.skip (Thin.refl _)) | exact Thin.ref (.skip (.skip (Thin.refl _))) | exact n3 | exact ⟨by omega, by omega, by omega⟩ | exact ⟨rfl, Nat.le_of_ble_eq_true rfl⟩ | ((try unfold maxLen); (try simp only [List.length_nil, List.length_cons, List.length_append]); omega) | (refine ⟨rfl, ?_⟩; (try simp only [List.length_nil, List.length_cons, List.length_append]); omega)) ?_ | intro _)); (all_goals (conv => whnf))
              all_goals first | (exfalso; omega) | exact ⟨endOld hq rfl⟩ | exact ⟨endNew 801 802 rfl rfl rfl rfl rfl rfl rfl rfl⟩
    · rw [if_neg k3]
      by_cases hx : x = 0
      · rw [if_pos hx]
        (repeat' ((conv => whnf); first | rw [Int.toNat_natCast] | rw [Nat.mul_one] | (first | refine CallK_pure (.v _) (fun w hR => p1 w) ?_ | refine QCall_pure (.v _) (fun w hR => p1 w) ?_) | (first | refine CallK_pure (.v _) (fun w hR => p2 w) ?_ | refine QCall_pure (.v _) (fun w hR => p2 w) ?_) | (first | refine CallK_pure (.v _) (fun w hR => p3 w) ?_ | refine QCall_pure (.v _) (fun w hR => p3 w) ?_) | refine ⟨_, rd1, ?_⟩ | refine ⟨_, rd2, ?_⟩ | refine ⟨.v _, ⟨rfl, trivial⟩, ?_⟩ | (refine bcase_prop (fun h => ?_) (fun h => ?_) <;> try (exfalso; omega)) | (refine bcase_nprop (fun h => ?_) (fun h => ?_) <;> try (exfalso; omega)) | (refine bcase_intro (fun h => ?_) (fun h => ?_) <;> (try simp only [Bool.not_eq_true', Bool.not_eq_false', decide_eq_true_eq, decide_eq_false_iff_not, Bool.not_eq_true, Bool.not_eq_false, Decidable.not_not] at h)) | refine And.intro (by first | omega | exact rfl | assumption | exact ⟨rfl, rfl, rfl, rfl, rfl⟩ | exact ⟨rfl, rfl, rfl, rfl⟩ | exact ⟨rfl, by omega⟩ | exact oneAll_of rfl | exact ⟨rfl, oneAll_of rfl⟩ | exact Ref.refl _ | exact Thin.ref (.skip (Thin.refl _)) | exact Thin.ref (.skip (.skip (Thin.refl _))) | exact n3 | exact ⟨rfl, Nat.le_of_ble_eq_true rfl⟩ | ((try unfold maxLen); (try simp only [List.length_nil, List.length_cons, List.length_append]); omega) | (refine ⟨rfl, ?_⟩; (try simp only [List.length_nil, List.length_cons, List.length_append]); omega)) ?_ | intro _)); (all_goals (conv => whnf))
        all_goals first | exact ⟨endOld rfl rfl⟩ | (exfalso; omega)
      · rw [if_neg hx]
        by_cases hy : y = 0
        · rw [if_pos hy]
          (repeat' ((conv => whnf); first | rw [Int.toNat_natCast] | rw [Nat.mul_one] | (first | refine CallK_pure (.v _) (fun w hR => p1 w) ?_ | refine QCall_pure (.v _) (fun w hR => p1 w) ?_) | (first | refine CallK_pure (.v _) (fun w hR => p2 w) ?_ | refine QCall_pure (.v _) (fun w hR => p2 w) ?_) | (first | refine CallK_pure (.v _) (fun w hR => p3 w) ?_ | refine QCall_pure (.v _) (fun w hR => p3 w) ?_) | refine ⟨_, rd1, ?_⟩ | refine ⟨_, rd2, ?_⟩ | refine ⟨.v _, ⟨rfl, trivial⟩, ?_⟩ | (refine bcase_prop (fun h => ?_) (fun h => ?_) <;> try (exfalso; omega)) | (refine bcase_nprop (fun h => ?_) (fun h => ?_) <;> try (exfalso; omega)) | (refine bcase_intro (fun h => ?_) (fun h => ?_) <;> (try simp only [Bool.not_eq_true', Bool.not_eq_false', decide_eq_true_eq, decide_eq_false_iff_not, Bool.not_eq_true, Bool.not_eq_false, Decidable.not_not] at h)) | refine And.intro (by first | omega | exact rfl | assumption | exact ⟨rfl, rfl, rfl, rfl, rfl⟩ | exact ⟨rfl, rfl, rfl, rfl⟩ | exact ⟨rfl, by omega⟩ | exact oneAll_of rfl | exact ⟨rfl, oneAll_of rfl⟩ | exact Ref.refl _ | exact Thin.ref (.skip (Thin.refl _)) | exact Thin.ref (.skip (.skip (Thin.refl _))) | exact n3 | exact ⟨rfl, Nat.le_of_ble_eq_true rfl⟩ | ((try unfold maxLen); (try simp only [List.length_nil, List.length_cons, List.length_append]); omega) | (refine ⟨rfl, ?_⟩; (try simp only [List.length_nil, List.length_cons, List.length_append]); omega)) ?_ | intro _)); (all_goals (conv => whnf))
          all_goals first | exact ⟨endOld rfl rfl⟩ | (exfalso; omega)
        · rw [if_neg hy]
          have cA := calls_rAdd (a1 := a1) (c1 := c1) (a2 := a2) (c2 := c2) E (by omega) (pairR x y) ((tm E x).len + (tm E y).len) (len_pair E x y)
          generalize (tm E x).len = lx at *
          generalize (tm E y).len = ly at *
          unfold LM at *
          by_cases hlong : 1152921504606846976 < lx + ly
          · rw [if_pos hlong]
            (repeat' ((conv => whnf); first | rw [Int.toNat_natCast] | rw [Nat.mul_one] | (first | refine CallK_pure (.v _) (fun w hR => p1 w) ?_ | refine QCall_pure (.v _) (fun w hR => p1 w) ?_) | (first | refine CallK_pure (.v _) (fun w hR => p2 w) ?_ | refine QCall_pure (.v _) (fun w hR => p2 w) ?_) | (first | refine CallK_pure (.v _) (fun w hR => p3 w) ?_ | refine QCall_pure (.v _) (fun w hR => p3 w) ?_) | refine ⟨_, rd1, ?_⟩ | refine ⟨_, rd2, ?_⟩ | refine ⟨.v _, ⟨rfl, trivial⟩, ?_⟩ | (refine QCall_pure (.v _) (fun w hR => L1 w (h2.cast hR (by simp))) ?_) | (refine QCall_pure (.v _) (fun w hR => L2 w (h2.cast hR (by simp))) ?_) | (refine bcase_prop (fun h => ?_) (fun h => ?_) <;> try (exfalso; omega)) | (refine bcase_nprop (fun h => ?_) (fun h => ?_) <;> try (exfalso; omega)) | (refine bcase_intro (fun h => ?_) (fun h => ?_) <;> (try simp only [Bool.not_eq_true', Bool.not_eq_false', decide_eq_true_eq, decide_eq_false_iff_not, Bool.not_eq_true, Bool.not_eq_false, Decidable.not_not] at h)) | refine And.intro (by first | omega | exact rfl | assumption | exact ⟨rfl, rfl, rfl, rfl, rfl⟩ | exact ⟨rfl, rfl, rfl, rfl⟩ | exact ⟨rfl, by omega⟩ | exact oneAll_of rfl | exact ⟨rfl, oneAll_of rfl⟩ | exact Ref.refl _ | exact Thin.ref (.skip (Thin.refl _)) | exact Thin.ref (.skip (.skip (Thin.refl _))) | exact n3 | exact ⟨rfl, Nat.le_of_ble_eq_true rfl⟩ | ((try unfold maxLen); (try simp only [List.length_nil, List.length_cons, List.length_append]); omega) | (refine ⟨rfl, ?_⟩; (try simp only [List.length_nil, List.length_cons, List.length_append]); omega)) ?_ | intro _)); (all_goals (conv => whnf))
            all_goals first | exact ⟨endOld rfl rfl⟩ | (exfalso; omega)
          · rw [if_neg hlong]
            have hadd : (lx : Int) + (ly : Int) = ((lx + ly : Nat) : Int) := by omega
            (repeat' ((conv => whnf); first | rw [hadd] | rw [Int.toNat_natCast] | rw [Nat.mul_one] | (first | refine CallK_pure (.v _) (fun w hR => p1 w) ?_ | refine QCall_pure (.v _) (fun w hR => p1 w) ?_) | (first | refine CallK_pure (.v _) (fun w hR => p2 w) ?_ | refine QCall_pure (.v _) (fun w hR => p2 w) ?_) | (first | refine CallK_pure (.v _) (fun w hR => p3 w) ?_ | refine QCall_pure (.v _) (fun w hR => p3 w) ?_) | refine ⟨_, rd1, ?_⟩ | refine ⟨_, rd2, ?_⟩ | refine ⟨.v _, ⟨rfl, trivial⟩, ?_⟩ | (refine QCall_pure (.v _) (fun w hR => L1 w (h2.cast hR (by simp))) ?_) | (refine QCall_pure (.v _) (fun w hR => L2 w (h2.cast hR (by simp))) ?_) | ((refine CallK_new (fun w hR => cA w (h1.cast hR (by simp)) (h2.cast hR (by simp))) ?_; rintro _ _ (⟨hq, rfl, rfl⟩ | ⟨a1', c1', a2', c2', rfl, rfl⟩)) <;> refine ⟨.v _, rfl, ?_⟩) | (refine bcase_prop (fun h => ?_) (fun h => ?_) <;> try (exfalso; omega)) | (refine bcase_nprop (fun h => ?_) (fun h => ?_) <;> try (exfalso; omega)) | (refine bcase_intro (fun h => ?_) (fun h => ?_) <;> (try simp only [Bool.not_eq_true', Bool.not_eq_false', decide_eq_true_eq, decide_eq_false_iff_not, Bool.not_eq_true, Bool.not_eq_false, Decidable.not_not] at h)) | refine And.intro (by first | omega | exact rfl | assumption | exact ⟨rfl, rfl, rfl, rfl, rfl⟩ | exact ⟨rfl, rfl, rfl, rfl⟩ | exact ⟨rfl, by omega⟩ | exact oneAll_of rfl | exact ⟨rfl, oneAll_of rfl⟩ | exact Ref.refl _ | exact Thin.ref (.skip (Thin.refl _)) | exact Thin.ref (.skip (.skip (Thin.refl _))) | exact n3 | exact ⟨rfl, Nat.le_of_ble_eq_true rfl⟩ | ((try unfold maxLen); (try simp only [List.length_nil, List.length_cons, List.length_append]); omega) | (refine ⟨rfl, ?_⟩; (try simp only [List.length_nil, List.length_cons, List.length_append]); omega)) ?_ | intro _)); (all_goals (conv => whnf))
            all_goals first | (exfalso; omega) | exact ⟨endOld hq rfl⟩ | exact ⟨endNew 801 802 rfl rfl rfl rfl rfl rfl rfl rfl⟩
end Go.Proofs.Ytohlphngnhcbfaa
/- Lists of makes: the whole list, by the reference and in a store. -/
namespace Go.Proofs.Ytohlphngnhcbfaa
open Go.EG
attribute [local irreducible] CallK QCall Go.Calls
set_option linter.unusedSimpArgs false
set_option linter.unusedVariables false
set_option maxRecDepth 20000
set_option maxHeartbeats 4000000

/-! ### Plain -/

theorem buildF_prefix : ∀ (ms : List Rul) (E : List Entr) (res : List Int), ∃ rest, (buildF E res ms).2 = res ++ rest
  | [], E, res => ⟨[], by simp [buildF]⟩
  | m :: ms, E, res => by
    obtain ⟨rest, h⟩ := buildF_prefix ms (oneF E m res).1 (res ++ [(oneF E m res).2])
    exact ⟨(oneF E m res).2 :: rest, by rw [buildF, h]; simp⟩
/-- What a list's first makes have made. -/
structure BSt (g : List Rul) (i : Nat) (E : List Entr) (res : List Int) : Prop where
  bld : Bld E res
  len : res.length = i + 1
  room : E.length ≤ i
  all : buildF [] [0] g = buildF E res (g.drop i)
theorem BSt.start (g : List Rul) : BSt g 0 [] [0] := ⟨Bld.start, rfl, Nat.le_refl _, rfl⟩
theorem BSt.next {g : List Rul} {i : Nat} {E : List Entr} {res : List Int} (h : BSt g i E res) (hi : i < g.length) (hl : g.length ≤ 40) (hm : MakB (g.getD i rul0)) : BSt g (i + 1) (oneF E (g.getD i rul0) res).1 (res ++ [(oneF E (g.getD i rul0) res).2]) := by
  have hr := h.room
  obtain ⟨_, _, h3, h4, _⟩ := one_ok (m := g.getD i rul0) h.bld hm.l (by omega)
  refine ⟨h3, by simp [h.len], by omega, ?_⟩
  rw [h.all, drop_cons (d := rul0) hi, buildF]
theorem BSt.end_ {g : List Rul} {i : Nat} {E : List Entr} {res : List Int} (h : BSt g i E res) (hi : ¬ i < g.length) : buildF [] [0] g = (E, res) := by
  rw [h.all, List.drop_eq_nil_of_le (by omega), buildF]
theorem BSt.want {g : List Rul} {i : Nat} {E : List Entr} {res : List Int} (h : BSt g i E res) (hi : i < g.length) : (buildF [] [0] g).2.getD (i + 1) 0 = (oneF E (g.getD i rul0) res).2 := by
  rw [h.all, drop_cons (d := rul0) hi, buildF]
  obtain ⟨rest, hrest⟩ := buildF_prefix (g.drop (i + 1)) (oneF E (g.getD i rul0) res).1 (res ++ [(oneF E (g.getD i rul0) res).2])
  rw [hrest, List.getD_eq_getElem?_getD, List.getElem?_append_left (by simp [h.len]), List.getElem?_append_right (by rw [h.len]; exact Nat.le_refl _), h.len]
  simp
theorem bst_all {g : List Rul} (hg : MIn g) (hl : g.length ≤ 40) : BSt g g.length (buildF [] [0] g).1 (buildF [] [0] g).2 := by
  have key : ∀ k, k ≤ g.length → ∃ E res, BSt g k E res := by
    intro k
    induction k with
    | zero => exact fun _ => ⟨_, _, BSt.start g⟩
    | succ k ih =>
      intro hk
      obtain ⟨E, res, h⟩ := ih (by omega)
      exact ⟨_, _, h.next (by omega) hl (hg.ok k (by omega))⟩
  obtain ⟨E, res, h⟩ := key g.length (Nat.le_refl _)
  have := h.end_ (by omega)
  rw [this]
  exact h

/-! ### The reference's list -/

structure BldG where
  i : Nat
  E : List Entr
  res : List Int
  a1 : Option Addr
  c1 : Nat
  a2 : Option Addr
  c2 : Nat
  a3 : Option Addr
  c3 : Nat
def bldQ (g : List Rul) (v : Value) (L1 : List Ent) : Prop :=
  ∃ a1 c1 a2 c2 a3 c3, v = .tuple #[stV (buildF [] [0] g).1.length a1 c1 a2 c2, .slice a3 (g.length + 1) c3] ∧
    L1 = [.own 801 a1 (buildF [] [0] g).1.length c1 ty_api_Rule 5 (ruE (buildF [] [0] g).1), .own 802 a2 (buildF [] [0] g).1.length c2 ty_int 1 (leE (buildF [] [0] g).1), .own 803 a3 (g.length + 1) c3 ty_api_ID 1 (ints .i64 (buildF [] [0] g).2)]
theorem calls_rBuild (g : List Rul) (hg : MIn g) (hl : g.length ≤ 40) (a : Option Addr) (c : Nat) (w : World) (hin : In w [] a (rulsC g)) :
    Calls Try.prog fn_evergreenref12_Build #[.slice a g.length c] w fun e w' => ∃ v L1, e = .returned v ∧ R w [] L1 w' ∧ bldQ g v L1 := by
  refine new_call [.v (.slice a g.length c)] ok_evergreenref12_Build (by simp) ?_
  have hne : ∀ i, i < g.length → a ≠ none := fun i hi => hin.ne' (k := i * 5) (by rw [rulsC_length]; omega)
  have hrd := fun {L : List Ent} (i : Nat) (hi : i < g.length) => In.rdn (L := L) (vs := ruC (g.getD i rul0)) (k := i * 5) hin (Nat.succ_pos _) (rulsC_at hi)
  (repeat' ((conv => whnf); first | (refine bcase_prop (fun h => ?_) (fun h => ?_) <;> try (exfalso; omega)) | (refine bcase_nprop (fun h => ?_) (fun h => ?_) <;> try (exfalso; omega)) | (refine bcase_intro (fun h => ?_) (fun h => ?_) <;> (try simp only [Bool.not_eq_true', Bool.not_eq_false', decide_eq_true_eq, decide_eq_false_iff_not, Bool.not_eq_true, Bool.not_eq_false, Decidable.not_not] at h)) | refine And.intro (by first | omega | exact rfl | assumption | exact ⟨rfl, rfl, rfl, rfl, rfl⟩ | exact ⟨rfl, rfl, rfl, rfl⟩ | exact ⟨rfl, by omega⟩ | exact oneAll_of rfl | exact ⟨rfl, oneAll_of rfl⟩ | exact Ref.refl _ | exact Thin.ref (.skip (Thin.refl _)) | exact Thin.ref (.skip (.skip (Thin.refl _))) | exact ⟨rfl, Nat.le_of_ble_eq_true rfl⟩ | ((try unfold maxLen); (try simp only [List.length_nil, List.length_cons, List.length_append]); omega) | (refine ⟨rfl, ?_⟩; (try simp only [List.length_nil, List.length_cons, List.length_append]); omega)) ?_ | intro _)); (all_goals (conv => whnf))
  rename_i b2 b4 b10
  refine VC_loop BldG (fun x => [(0, .v (.slice a g.length c)), (2, .ptr 2 b2 0), (4, .ptr 4 b4 0), (5, .sl 803 x.a3 x.res.length x.c3), (6, .v (.int .i64 x.i))])
    (fun x => [.own 801 x.a1 x.E.length x.c1 ty_api_Rule 5 (ruE x.E), .own 802 x.a2 x.E.length x.c2 ty_int 1 (leE x.E), .own 803 x.a3 x.res.length x.c3 ty_api_ID 1 (ints .i64 x.res), .box 4 b4 [.slice x.a1 x.E.length x.c1, .slice x.a2 x.E.length x.c2] ty_evergreenref12_Store, .box 2 b2 [.slice none 0 0, .slice none 0 0] ty_evergreenref12_Store])
    (fun x => x.i ≤ g.length ∧ BSt g x.i x.E x.res) (fun x => g.length - x.i) ⟨0, [], [0], none, 0, none, 0, some ⟨b10, 0, none⟩, 1⟩ ⟨Nat.zero_le _, BSt.start g⟩ (by (repeat ((conv => whnf); refine And.intro (by first | exact rfl | exact vint_eq (by omega) | exact vint_eq (by (dsimp only; omega)) | exact vsl_eq (by omega) | exact vsl_eq (by first | (dsimp only; omega) | (simp; done) | (simp; omega))) ?_)); exact trivial) ((Ref.ownNil 802 ty_int 1).trans ((Ref.ownNil 801 ty_api_Rule 5).trans (Thin.ref (by (repeat (first | exact Thin.nil _ | exact Thin.refl _ | refine Thin.keep rfl (fun _ h => h) ?_ | refine Thin.skip ?_)))))) ?_
  rintro ⟨i, E, res, a1, c1, a2, c2, a3, c3⟩ ⟨hi, hB⟩
  dsimp only at hi hB ⊢
  by_cases hlt : i < g.length
  · have hn0 := hne i hlt
    have hr := fun {L : List Ent} => hrd (L := L) i hlt
    have hmk := hg.ok i hlt
    have hnx := hB.next hlt hl hmk
    have hroom := hB.room
    have hrl := hB.len
    have cO := fun w h1 h2 h3 => calls_rOne (a1 := a1) (c1 := c1) (a2 := a2) (c2 := c2) (a3 := a3) (c3 := c3) hB.bld (by omega) (by omega) hmk w h1 h2 h3
    have hsn := ints_snoc .i64 res (oneF E (g.getD i rul0) res).2
    generalize g.getD i rul0 = m at *
    generalize oneF E m res = EE at *
    obtain ⟨E', id⟩ := EE
    dsimp only at *
    (repeat' ((conv => whnf); first | rw [hsn] | rw [Int.toNat_natCast] | refine stop_and ?_ ?_ | refine ⟨ruC m, rfl, hr, ?_⟩ | refine ⟨_, ⟨rfl, trivial⟩, ?_⟩ | ((refine CallK_new (fun w hR => cO w (In.ownR (key := 801) hR rfl) (In.ownR (key := 802) hR rfl) (In.ownR (key := 803) hR rfl)) ?_; rintro _ _ (⟨hq, rfl, rfl⟩ | ⟨a1', c1', a2', c2', rfl, rfl⟩)) <;> refine ⟨.v _, rfl, ?_⟩) | (refine bcase_prop (fun h => ?_) (fun h => ?_) <;> try (exfalso; omega)) | (refine bcase_nprop (fun h => ?_) (fun h => ?_) <;> try (exfalso; omega)) | (refine bcase_intro (fun h => ?_) (fun h => ?_) <;> (try simp only [Bool.not_eq_true', Bool.not_eq_false', decide_eq_true_eq, decide_eq_false_iff_not, Bool.not_eq_true, Bool.not_eq_false, Decidable.not_not] at h)) | refine And.intro (by first | omega | exact rfl | assumption | exact ⟨rfl, rfl, rfl, rfl, rfl⟩ | exact ⟨rfl, rfl, rfl, rfl⟩ | exact ⟨rfl, by omega⟩ | exact oneAll_of rfl | exact ⟨rfl, oneAll_of rfl⟩ | exact Ref.refl _ | exact Thin.ref (.skip (Thin.refl _)) | exact Thin.ref (.skip (.skip (Thin.refl _))) | exact fun _ => Thin.ref (by (repeat (first | exact Thin.nil _ | exact Thin.refl _ | refine Thin.keep rfl (fun _ h => h) ?_ | refine Thin.skip ?_))) | exact Thin.ref (by (repeat (first | exact Thin.nil _ | exact Thin.refl _ | refine Thin.keep rfl (fun _ h => h) ?_ | refine Thin.skip ?_))) | exact ⟨rfl, Nat.le_of_ble_eq_true rfl⟩ | ((try unfold maxLen); (try simp only [List.length_nil, List.length_cons, List.length_append]); omega) | (refine ⟨rfl, ?_⟩; (try simp only [List.length_nil, List.length_cons, List.length_append]); omega)) ?_ | intro _)); (all_goals (conv => whnf))
    all_goals rename_i a' c'
    all_goals first
      | (subst hq; refine loop_next ⟨i + 1, E', res ++ [id], a1, c1, a2, c2, a', c'⟩ ⟨hlt, hnx⟩ (by ((try dsimp only); omega)) (by (repeat ((conv => whnf); refine And.intro (by first | exact rfl | exact vint_eq (by omega) | exact vint_eq (by (dsimp only; omega)) | exact vsl_eq (by omega) | exact vsl_eq (by first | (dsimp only; omega) | (simp; done) | (simp; omega))) ?_)); exact trivial) (Thin.ref ?_))
      | (refine loop_next ⟨i + 1, E', res ++ [id], a1', c1', a2', c2', a', c'⟩ ⟨hlt, hnx⟩ (by ((try dsimp only); omega)) (by (repeat ((conv => whnf); refine And.intro (by first | exact rfl | exact vint_eq (by omega) | exact vint_eq (by (dsimp only; omega)) | exact vsl_eq (by omega) | exact vsl_eq (by first | (dsimp only; omega) | (simp; done) | (simp; omega))) ?_)); exact trivial) (Thin.ref ?_))
    all_goals (repeat (first | exact Thin.nil _ | exact Thin.refl _ | refine Thin.keep rfl (fun _ h => h) ?_ | refine Thin.own (by simp; done) rfl ?_ | refine Thin.skip ?_))
  · have he := hB.end_ hlt
    have hrl := hB.len
    have hig : i = g.length := by omega
    subst hig
    unfold bldQ
    rw [he]
    (repeat' ((conv => whnf); first | refine ⟨_, ⟨rfl, trivial⟩, ?_⟩ | (refine bcase_prop (fun h => ?_) (fun h => ?_) <;> try (exfalso; omega)) | (refine bcase_nprop (fun h => ?_) (fun h => ?_) <;> try (exfalso; omega)) | (refine bcase_intro (fun h => ?_) (fun h => ?_) <;> (try simp only [Bool.not_eq_true', Bool.not_eq_false', decide_eq_true_eq, decide_eq_false_iff_not, Bool.not_eq_true, Bool.not_eq_false, Decidable.not_not] at h)) | refine And.intro (by first | omega | exact rfl | assumption | exact ⟨rfl, rfl, rfl, rfl, rfl⟩ | exact ⟨rfl, rfl, rfl, rfl⟩ | exact ⟨rfl, by omega⟩ | exact oneAll_of rfl | exact ⟨rfl, oneAll_of rfl⟩ | exact Ref.refl _ | exact Thin.ref (.skip (Thin.refl _)) | exact Thin.ref (.skip (.skip (Thin.refl _))) | exact ⟨rfl, Nat.le_of_ble_eq_true rfl⟩ | ((try unfold maxLen); (try simp only [List.length_nil, List.length_cons, List.length_append]); omega) | (refine ⟨rfl, ?_⟩; (try simp only [List.length_nil, List.length_cons, List.length_append]); omega)) ?_ | intro _)); (all_goals (conv => whnf))
    refine ⟨⟨_, ?_, a1, c1, a2, c2, a3, c3, ?_, rfl⟩⟩
    · refine Thin.ref (.keep rfl (fun _ h => h) (.keep rfl (fun _ h => h) (.own hrl rfl (.nil _))))
    · rw [hrl]; rfl

/-! ### The list in a store -/



structure LbG where
  i : Nat
  E : List Entr
  res : List Int
  a8 : Option Addr
  c8 : Nat
  fp : List Nat
def lbQ (b : Nat) (g : List Rul) (v : Value) (L1 : List Ent) : Prop :=
  ∃ a c fp', v = .tuple #[.slice a (g.length + 1) c, .bool true] ∧ L1 = [packE 77 fp' (fS b ⟨1000, (buildF [] [0] g).1⟩), .own 804 a (g.length + 1) c ty_api_ID 1 (ints .i64 (buildF [] [0] g).2)]
theorem mx0 (t : Int) : (if (0 : Int) > t then 0 else t) = max t 0 := by omega
theorem calls_lBuild (b : Nat) (g : List Rul) (hg : MIn g) (hl : g.length ≤ 40) (a : Option Addr) (c key : Nat) (fp : List Nat) (w : World) (hR : StR w key fp b ⟨1000, []⟩) (hin : In w fp a (rulsC g)) :
    Calls Try.prog fn_evergreenlaw12_Build #[pS b, .slice a g.length c] w fun e w' => ∃ v L1, e = .returned v ∧ R w fp L1 w' ∧ lbQ b g v L1 := by
  refine part_call [.v (pS b), .v (.slice a g.length c)] ok_evergreenlaw12_Build (by simp) (hR.key 77) ?_
  have hne : ∀ i, i < g.length → a ≠ none := fun i hi => hin.ne' (k := i * 5) (by rw [rulsC_length]; omega)
  have hrd := fun {L : List Ent} (i : Nat) (hi : i < g.length) => In.rdn (L := L) (vs := ruC (g.getD i rul0)) (k := i * 5) hin (Nat.succ_pos _) (rulsC_at hi)
  have cB := fun w h => calls_rBuild g hg hl a c w h
  (repeat' ((conv => whnf); first | ((refine CallK_new (fun w hR => cB w (hin.cast hR (by simp))) ?_); rintro _ _ ⟨a1, c1, a2, c2, a3, c3, rfl, rfl⟩; refine ⟨.v _, rfl, ?_⟩) | (refine bcase_prop (fun h => ?_) (fun h => ?_) <;> try (exfalso; omega)) | (refine bcase_nprop (fun h => ?_) (fun h => ?_) <;> try (exfalso; omega)) | (refine bcase_intro (fun h => ?_) (fun h => ?_) <;> (try simp only [Bool.not_eq_true', Bool.not_eq_false', decide_eq_true_eq, decide_eq_false_iff_not, Bool.not_eq_true, Bool.not_eq_false, Decidable.not_not] at h)) | refine And.intro (by first | omega | exact rfl | assumption | exact ⟨rfl, rfl, rfl, rfl, rfl⟩ | exact ⟨rfl, rfl, rfl, rfl⟩ | exact ⟨rfl, by omega⟩ | exact oneAll_of rfl | exact ⟨rfl, oneAll_of rfl⟩ | exact Ref.refl _ | exact Thin.ref (.skip (Thin.refl _)) | exact Thin.ref (.skip (.skip (Thin.refl _))) | exact ⟨rfl, Nat.le_of_ble_eq_true rfl⟩ | ((try unfold maxLen); (try simp only [List.length_nil, List.length_cons, List.length_append]); omega) | (refine ⟨rfl, ?_⟩; (try simp only [List.length_nil, List.length_cons, List.length_append]); omega)) ?_ | intro _)); (all_goals (conv => whnf))
  rename_i b6 b19
  have hwl : (buildF [] [0] g).2.length = g.length + 1 := (bst_all hg hl).len
  refine VC_loop LbG (fun x => [(0, .v (pS b)), (1, .v (.slice a g.length c)), (4, .v (.slice none 0 0)), (5, .v (.bool false)), (7, .sl 803 a3 (g.length + 1) c3), (8, .sl 804 x.a8 x.res.length x.c8), (20, .v (.slice a g.length c)), (21, .v (.int .i64 g.length)), (22, .v (.int .i64 x.i))])
    (fun x => [packE 77 x.fp (fS b ⟨1000, x.E⟩), .own 804 x.a8 x.res.length x.c8 ty_api_ID 1 (ints .i64 x.res), .own 803 a3 (g.length + 1) c3 ty_api_ID 1 (ints .i64 (buildF [] [0] g).2)])
    (fun x => x.i ≤ g.length ∧ BSt g x.i x.E x.res) (fun x => g.length - x.i) ⟨0, [], [0], some ⟨b19, 0, none⟩, 1, fp⟩ ⟨Nat.zero_le _, BSt.start g⟩ (by (repeat ((conv => whnf); refine And.intro (by first | exact rfl | exact vint_eq (by omega) | exact vint_eq (by (dsimp only; omega)) | exact vsl_eq (by omega) | exact vsl_eq (by first | (dsimp only; omega) | (simp; done) | (simp; omega))) ?_)); exact trivial) ((refPick 77 rfl).trans (Thin.ref ?_)) ?_
  · exact .keep rfl (fun _ h => h) (.keep rfl (fun _ h => h) (.skip (.skip (.skip (.keep rfl (fun _ h => h) (.nil _))))))
  rintro ⟨i, E, res, a8, c8, fpi⟩ ⟨hi, hB⟩
  dsimp only at hi hB ⊢
  by_cases hlt : i < g.length
  · have hn0 := hne i hlt
    have hr := fun {L : List Ent} => hrd (L := L) i hlt
    have hmk := hg.ok i hlt
    have hnx := hB.next hlt hl hmk
    have hroom := hB.room
    have hrl := hB.len
    have hwant := hB.want hlt
    obtain ⟨o1, o2, _, _, _⟩ := one_ok (m := g.getD i rul0) hB.bld hmk.l (by omega)
    generalize g.getD i rul0 = m at *
    have p1 := calls_Pick m.a res.length hB.bld.ne (by omega) hmk.a
    have p2 := calls_Pick m.b res.length hB.bld.ne (by omega) hmk.b
    have p3 := calls_Pick m.k 4 (by decide) (by decide) hmk.k
    have i1 := pickF_lt (n := m.a) hB.bld.ne
    have i2 := pickF_lt (n := m.b) hB.bld.ne
    have hat : ∀ j, j < res.length → (ints .i64 res)[j]? = some (.int .i64 (res.getD j 0)) := fun j hj => ints_getD hj
    have r1 := hat _ i1
    have r2 := hat _ i2
    have r3 : (ints .i64 (buildF [] [0] g).2)[i + 1]? = some (.int .i64 (oneF E m res).2) := by rw [← hwant]; exact ints_getD (by omega)
    have hsn := ints_snoc .i64 res (oneF E m res).2
    have e1 : ((i : Int) + 1).toNat = i + 1 := by omega
    have t0 := mx0 m.t
    have c2 := calls_Power b ⟨1000, E⟩ hB.bld.wf (res.getD (pickF m.a res.length) 0) (max m.t 0) (by have := hmk.t; omega)
    have c3 := calls_Pair b ⟨1000, E⟩ hB.bld.wf (res.getD (pickF m.a res.length) 0) (res.getD (pickF m.b res.length) 0)
    obtain ⟨l, hl'⟩ : ∃ l : Nat, m.l = l := ⟨m.l.toNat, by have := hmk.l; omega⟩
    have c1 := calls_Letter b ⟨1000, E⟩ l (by have := hmk.l; omega) (by dsimp only; omega)
    unfold stOne at o1 o2
    rw [hl', Int.toNat_natCast] at o1 o2
    generalize (buildF [] [0] g).2 = want at *
    generalize oneF E m res = EE at *
    obtain ⟨E', id⟩ := EE
    dsimp only at o1 o2 hnx hwant r3 hsn
    generalize pickF m.a res.length = ia at *
    generalize pickF m.b res.length = ib at *
    generalize pickF m.k 4 = kk at *
    generalize res.getD ia 0 = x at *
    generalize res.getD ib 0 = y at *
    by_cases k0 : kk = 0
    · subst k0
      rw [if_pos rfl] at o1 o2
      rw [o1] at c1
      generalize stPut ⟨1000, E⟩ (letR l) = st at *
      obtain ⟨st0, st1, st2⟩ := st
      dsimp only at o1 o2 c1
      subst o1 o2
      unfold resV at c1
      generalize errO st2 = er at *
      (repeat' ((conv => whnf); first | rw [hsn] | rw [hl'] | rw [e1] | rw [Int.toNat_natCast] | rw [Nat.mul_one] | (first | refine CallK_pure (.v _) (fun w hR => p1 w) ?_ | refine QCall_pure (.v _) (fun w hR => p1 w) ?_) | (first | refine CallK_pure (.v _) (fun w hR => p2 w) ?_ | refine QCall_pure (.v _) (fun w hR => p2 w) ?_) | (first | refine CallK_pure (.v _) (fun w hR => p3 w) ?_ | refine QCall_pure (.v _) (fun w hR => p3 w) ?_) | (refine CallK_pack (key := 77) rfl (fun w hR h0 => c1 _ _ _ h0) ?_; rintro _ _ ⟨rfl, fp', rfl⟩; refine ⟨.v _, rfl, ?_⟩) | refine ldCell r1 ?_ | refine ldCell r2 ?_ | refine ldCell r3 ?_ | refine ⟨ruC m, rfl, hr, ?_⟩ | refine ⟨_, ⟨rfl, trivial⟩, ?_⟩ | (refine bcase_prop (fun h => ?_) (fun h => ?_) <;> try (exfalso; omega)) | (refine bcase_nprop (fun h => ?_) (fun h => ?_) <;> try (exfalso; omega)) | (refine bcase_intro (fun h => ?_) (fun h => ?_) <;> (try simp only [Bool.not_eq_true', Bool.not_eq_false', decide_eq_true_eq, decide_eq_false_iff_not, Bool.not_eq_true, Bool.not_eq_false, Decidable.not_not] at h)) | refine And.intro (by first | omega | exact rfl | assumption | exact ⟨rfl, rfl, rfl, rfl, rfl⟩ | exact ⟨rfl, rfl, rfl, rfl⟩ | exact ⟨rfl, by omega⟩ | exact oneAll_of rfl | exact ⟨rfl, oneAll_of rfl⟩ | exact Ref.refl _ | exact Thin.ref (.skip (Thin.refl _)) | exact Thin.ref (.skip (.skip (Thin.refl _))) | exact ⟨rfl, Nat.le_of_ble_eq_true rfl⟩ | ((try unfold maxLen); (try simp only [List.length_nil, List.length_cons, List.length_append]); omega) | (refine ⟨rfl, ?_⟩; (try simp only [List.length_nil, List.length_cons, List.length_append]); omega)) ?_ | intro _)); (all_goals (conv => whnf))
      rename_i a' c'
      refine loop_next ⟨i + 1, E', res ++ [st1], a', c', fp'⟩ ⟨hlt, hnx⟩ (by ((try dsimp only); omega)) (by (repeat ((conv => whnf); refine And.intro (by first | exact rfl | exact vint_eq (by omega) | exact vint_eq (by (dsimp only; omega)) | exact vsl_eq (by omega) | exact vsl_eq (by first | (dsimp only; omega) | (simp; done) | (simp; omega))) ?_)); exact trivial) ((refPick 77 rfl).trans (Thin.ref ?_))
      (repeat (first | exact Thin.nil _ | exact Thin.refl _ | refine Thin.keep rfl (fun _ h => h) ?_ | refine Thin.own (by simp; done) rfl ?_ | refine Thin.skip ?_))
    · rw [if_neg k0] at o1 o2
      by_cases k3 : kk = 3
      · subst k3
        rw [if_pos rfl] at o1 o2
        rw [o1] at c2
        generalize stPower ⟨1000, E⟩ x (max m.t 0) = st at *
        obtain ⟨st0, st1, st2⟩ := st
        dsimp only at o1 o2 c2
        subst o1 o2
        unfold resV at c2
        generalize errO st2 = er at *
        (repeat' ((conv => whnf); first | rw [t0] | rw [hsn] | rw [hl'] | rw [e1] | rw [Int.toNat_natCast] | rw [Nat.mul_one] | (first | refine CallK_pure (.v _) (fun w hR => p1 w) ?_ | refine QCall_pure (.v _) (fun w hR => p1 w) ?_) | (first | refine CallK_pure (.v _) (fun w hR => p2 w) ?_ | refine QCall_pure (.v _) (fun w hR => p2 w) ?_) | (first | refine CallK_pure (.v _) (fun w hR => p3 w) ?_ | refine QCall_pure (.v _) (fun w hR => p3 w) ?_) | (refine CallK_pack (key := 77) rfl (fun w hR h0 => c2 _ _ _ h0) ?_; rintro _ _ ⟨rfl, fp', rfl⟩; refine ⟨.v _, rfl, ?_⟩) | refine ldCell r1 ?_ | refine ldCell r2 ?_ | refine ldCell r3 ?_ | refine ⟨ruC m, rfl, hr, ?_⟩ | refine ⟨_, ⟨rfl, trivial⟩, ?_⟩ | (refine bcase_prop (fun h => ?_) (fun h => ?_) <;> try (exfalso; omega)) | (refine bcase_nprop (fun h => ?_) (fun h => ?_) <;> try (exfalso; omega)) | (refine bcase_intro (fun h => ?_) (fun h => ?_) <;> (try simp only [Bool.not_eq_true', Bool.not_eq_false', decide_eq_true_eq, decide_eq_false_iff_not, Bool.not_eq_true, Bool.not_eq_false, Decidable.not_not] at h)) | refine And.intro (by first | omega | exact rfl | assumption | exact ⟨rfl, rfl, rfl, rfl, rfl⟩ | exact ⟨rfl, rfl, rfl, rfl⟩ | exact ⟨rfl, by omega⟩ | exact oneAll_of rfl | exact ⟨rfl, oneAll_of rfl⟩ | exact Ref.refl _ | exact Thin.ref (.skip (Thin.refl _)) | exact Thin.ref (.skip (.skip (Thin.refl _))) | exact ⟨rfl, Nat.le_of_ble_eq_true rfl⟩ | ((try unfold maxLen); (try simp only [List.length_nil, List.length_cons, List.length_append]); omega) | (refine ⟨rfl, ?_⟩; (try simp only [List.length_nil, List.length_cons, List.length_append]); omega)) ?_ | intro _)); (all_goals (conv => whnf))
        all_goals first | (exfalso; omega) | skip
        all_goals rename_i a' c'
        all_goals (refine loop_next ⟨i + 1, E', res ++ [st1], a', c', fp'⟩ ⟨hlt, hnx⟩ (by ((try dsimp only); omega)) (by (repeat ((conv => whnf); refine And.intro (by first | exact rfl | exact vint_eq (by omega) | exact vint_eq (by (dsimp only; omega)) | exact vsl_eq (by omega) | exact vsl_eq (by first | (dsimp only; omega) | (simp; done) | (simp; omega))) ?_)); exact trivial) ((refPick 77 rfl).trans (Thin.ref ?_)))
        all_goals (repeat (first | exact Thin.nil _ | exact Thin.refl _ | refine Thin.keep rfl (fun _ h => h) ?_ | refine Thin.own (by simp; done) rfl ?_ | refine Thin.skip ?_))
      · rw [if_neg k3] at o1 o2
        rw [o1] at c3
        generalize stPair ⟨1000, E⟩ x y = st at *
        obtain ⟨st0, st1, st2⟩ := st
        dsimp only at o1 o2 c3
        subst o1 o2
        unfold resV at c3
        generalize errO st2 = er at *
        (repeat' ((conv => whnf); first | rw [hsn] | rw [hl'] | rw [e1] | rw [Int.toNat_natCast] | rw [Nat.mul_one] | (first | refine CallK_pure (.v _) (fun w hR => p1 w) ?_ | refine QCall_pure (.v _) (fun w hR => p1 w) ?_) | (first | refine CallK_pure (.v _) (fun w hR => p2 w) ?_ | refine QCall_pure (.v _) (fun w hR => p2 w) ?_) | (first | refine CallK_pure (.v _) (fun w hR => p3 w) ?_ | refine QCall_pure (.v _) (fun w hR => p3 w) ?_) | (refine CallK_pack (key := 77) rfl (fun w hR h0 => c3 _ _ _ h0) ?_; rintro _ _ ⟨rfl, fp', rfl⟩; refine ⟨.v _, rfl, ?_⟩) | refine ldCell r1 ?_ | refine ldCell r2 ?_ | refine ldCell r3 ?_ | refine ⟨ruC m, rfl, hr, ?_⟩ | refine ⟨_, ⟨rfl, trivial⟩, ?_⟩ | (refine bcase_prop (fun h => ?_) (fun h => ?_) <;> try (exfalso; omega)) | (refine bcase_nprop (fun h => ?_) (fun h => ?_) <;> try (exfalso; omega)) | (refine bcase_intro (fun h => ?_) (fun h => ?_) <;> (try simp only [Bool.not_eq_true', Bool.not_eq_false', decide_eq_true_eq, decide_eq_false_iff_not, Bool.not_eq_true, Bool.not_eq_false, Decidable.not_not] at h)) | refine And.intro (by first | omega | exact rfl | assumption | exact ⟨rfl, rfl, rfl, rfl, rfl⟩ | exact ⟨rfl, rfl, rfl, rfl⟩ | exact ⟨rfl, by omega⟩ | exact oneAll_of rfl | exact ⟨rfl, oneAll_of rfl⟩ | exact Ref.refl _ | exact Thin.ref (.skip (Thin.refl _)) | exact Thin.ref (.skip (.skip (Thin.refl _))) | exact ⟨rfl, Nat.le_of_ble_eq_true rfl⟩ | ((try unfold maxLen); (try simp only [List.length_nil, List.length_cons, List.length_append]); omega) | (refine ⟨rfl, ?_⟩; (try simp only [List.length_nil, List.length_cons, List.length_append]); omega)) ?_ | intro _)); (all_goals (conv => whnf))
        all_goals first | (exfalso; omega) | skip
        all_goals rename_i a' c'
        all_goals (refine loop_next ⟨i + 1, E', res ++ [st1], a', c', fp'⟩ ⟨hlt, hnx⟩ (by ((try dsimp only); omega)) (by (repeat ((conv => whnf); refine And.intro (by first | exact rfl | exact vint_eq (by omega) | exact vint_eq (by (dsimp only; omega)) | exact vsl_eq (by omega) | exact vsl_eq (by first | (dsimp only; omega) | (simp; done) | (simp; omega))) ?_)); exact trivial) ((refPick 77 rfl).trans (Thin.ref ?_)))
        all_goals (repeat (first | exact Thin.nil _ | exact Thin.refl _ | refine Thin.keep rfl (fun _ h => h) ?_ | refine Thin.own (by simp; done) rfl ?_ | refine Thin.skip ?_))
  · have he := hB.end_ hlt
    have hrl := hB.len
    have hig : i = g.length := by omega
    subst hig
    unfold lbQ
    rw [he]
    (repeat' ((conv => whnf); first | refine ⟨_, ⟨rfl, trivial⟩, ?_⟩ | (refine bcase_prop (fun h => ?_) (fun h => ?_) <;> try (exfalso; omega)) | (refine bcase_nprop (fun h => ?_) (fun h => ?_) <;> try (exfalso; omega)) | (refine bcase_intro (fun h => ?_) (fun h => ?_) <;> (try simp only [Bool.not_eq_true', Bool.not_eq_false', decide_eq_true_eq, decide_eq_false_iff_not, Bool.not_eq_true, Bool.not_eq_false, Decidable.not_not] at h)) | refine And.intro (by first | omega | exact rfl | assumption | exact ⟨rfl, rfl, rfl, rfl, rfl⟩ | exact ⟨rfl, rfl, rfl, rfl⟩ | exact ⟨rfl, by omega⟩ | exact oneAll_of rfl | exact ⟨rfl, oneAll_of rfl⟩ | exact Ref.refl _ | exact Thin.ref (.skip (Thin.refl _)) | exact Thin.ref (.skip (.skip (Thin.refl _))) | exact ⟨rfl, Nat.le_of_ble_eq_true rfl⟩ | ((try unfold maxLen); (try simp only [List.length_nil, List.length_cons, List.length_append]); omega) | (refine ⟨rfl, ?_⟩; (try simp only [List.length_nil, List.length_cons, List.length_append]); omega)) ?_ | intro _)); (all_goals (conv => whnf))
    refine ⟨⟨_, (refPick 77 rfl).trans (Thin.ref ?_), a8, c8, fpi, ?_, rfl⟩⟩
    · exact .keep rfl (fun _ h => h) (.own hrl rfl (.nil _))
    · rw [hrl]
/-- A cell of a row of one's own, read behind an address. -/
theorem rdO {w0 : World} {fp0 : List Nat} {L : List Ent} (key : Nat) {a : Option Addr} {n c T sz i : Nat} {xs : List Value} {v : Value} (h : ownAt key L = some ⟨a, n, c, T, sz, xs⟩) (hv : xs[i]? = some v) : Rd w0 fp0 L (.el a i) [v] := by
  refine Rd.own h (Nat.succ_pos _) ?_
  obtain ⟨hi, hv⟩ := List.getElem?_eq_some_iff.1 hv
  rw [List.drop_eq_getElem_cons hi, hv]; rfl
theorem calls_lBuildN (b : Nat) (g : List Rul) (hg : MIn g) (hl : g.length ≤ 40) (a : Option Addr) (c key : Nat) (fp : List Nat) (w : World) (hR : StR w key fp b ⟨1000, []⟩) (hin : In w fp a (rulsC g)) :
    Calls Try.prog fn_evergreenlaw12_Build #[pS b, .slice a g.length c] w fun e w' => ∃ v L1, e = .returned v ∧ R w fp L1 w' ∧ ∃ a c fp', a ≠ none ∧ v = .tuple #[.slice a (g.length + 1) c, .bool true] ∧ L1 = [packE 77 fp' (fS b ⟨1000, (buildF [] [0] g).1⟩), .own 804 a (g.length + 1) c ty_api_ID 1 (ints .i64 (buildF [] [0] g).2)] :=
  (calls_lBuild b g hg hl a c key fp w hR hin).mono fun e w' ⟨v, L1, he, hR', a, c, fp', hv, hL⟩ => by
    subst hL
    exact ⟨v, _, he, hR', a, c, fp', own_ne hR'.tail (key := 804) rfl (Nat.succ_pos _), hv, rfl⟩
end Go.Proofs.Ytohlphngnhcbfaa
/- A store with the rules of a list, and one of the results. -/
namespace Go.Proofs.Ytohlphngnhcbfaa
open Go.EG
attribute [local irreducible] CallK QCall Go.Calls
set_option linter.unusedSimpArgs false
set_option linter.unusedVariables false
set_option maxRecDepth 20000
set_option maxHeartbeats 4000000

theorem inCast1 {w0 w : World} {fp0 fp1 : List Nat} {k1 : Nat} {ok1 : World → Prop} {Lr : List Ent} {a : Option Addr} {xs : List Value} (h : In w0 fp0 a xs) (hR : R w0 fp0 (.abs k1 fp1 ok1 :: Lr) w) : In w fp1 a xs :=
  h.cast hR (fun b hb => by rw [fps_cons]; exact List.mem_append_left _ hb)
def gS (g : List Rul) : Sto := ⟨1000, (buildF [] [0] g).1⟩
abbrev gE (g : List Rul) : List Entr := (gS g).E
def gId (g : List Rul) (pick : Int) : Int := (buildF [] [0] g).2.getD (pickF pick (g.length + 1)) 0
theorem gS_wf {g : List Rul} (hg : MIn g) (hl : g.length ≤ 40) : WF (gS g) := (bst_all hg hl).bld.wf
theorem gId_known {g : List Rul} (hg : MIn g) (hl : g.length ≤ 40) (pick : Int) : known (gS g) (gId g pick) := by
  have h := bst_all hg hl
  have := h.bld.known (pickF pick (g.length + 1)) (by rw [h.len]; exact pickF_lt (by omega))
  exact this
theorem gE_len {g : List Rul} (hg : MIn g) (hl : g.length ≤ 40) : (gE g).length ≤ 40 := Nat.le_trans (bst_all hg hl).room hl
def begQ (g : List Rul) (pick : Int) (v : Value) (L1 : List Ent) : Prop :=
  ∃ b a1 c1 a2 c2 fp, v = .tuple #[pS b, stV (gE g).length a1 c1 a2 c2, .int .i64 (gId g pick), .bool true] ∧ L1 = [packE 77 fp (fS b (gS g)), .own 801 a1 (gE g).length c1 ty_api_Rule 5 (ruE (gE g)), .own 802 a2 (gE g).length c2 ty_int 1 (leE (gE g))]

theorem calls_begun16 (g : List Rul) (hg : MIn g) (hl : g.length ≤ 40) (pick : Int) (hp : -9223372036854775808 ≤ pick ∧ pick ≤ 9223372036854775807) (a : Option Addr) (c : Nat) (w : World) (hin : In w [] a (rulsC g)) :
    Calls Try.prog fn_evergreenlaw16_begun #[.slice a g.length c, .int .i64 pick] w fun e w' => ∃ v L1, e = .returned v ∧ R w [] L1 w' ∧ begQ g pick v L1 := by
  refine new_call [.v (.slice a g.length c), .v (.int .i64 pick)] ok_evergreenlaw16_begun (by simp) ?_
  have c1 := fun w => calls_New 1000 77 w
  rw [show clipS 1000 = 1000 from rfl] at c1
  have c2 := fun b key fp w hR hin => calls_lBuildN b g hg hl a c key fp w hR hin
  have c3 := fun w h => calls_rBuild g hg hl a c w h
  have p1 := calls_Pick pick (g.length + 1) (by omega) (by omega) hp
  have hres := (bst_all hg hl).len
  have i1 := pickF_lt (n := pick) (many := g.length + 1) (by omega)
  have r1 : (ints .i64 (buildF [] [0] g).2)[pickF pick (g.length + 1)]? = some (.int .i64 (gId g pick)) := ints_getD (by omega)
  (repeat' ((conv => whnf); first | (refine CallK_new (fun w hR => c1 w) ?_; rintro _ _ ⟨bn, fpn, rfl, rfl⟩; refine ⟨.v _, rfl, ?_⟩) | rw [Int.toNat_natCast] | rw [Nat.mul_one] | (first | refine CallK_pure (.v _) (fun w hR => p1 w) ?_ | refine QCall_pure (.v _) (fun w hR => p1 w) ?_) | refine ⟨_, rdO 804 rfl r1, ?_⟩ | (refine CallK_pack (key := 77) rfl (fun w hR h0 => c2 _ _ _ _ h0 (inCast1 hin hR)) ?_; rintro _ _ ⟨a5, c5, fp5, hn5, rfl, rfl⟩; refine ⟨.v _, rfl, ?_⟩) | ((refine CallK_new (fun w hR => c3 w (hin.cast hR (by simp))) ?_); rintro _ _ ⟨a1, c1, a2, c2, a3, c3, rfl, rfl⟩; refine ⟨.v _, rfl, ?_⟩) | refine ⟨_, ⟨rfl, trivial⟩, ?_⟩ | refine VC_drop 5 ?_ | (refine bcase_prop (fun h => ?_) (fun h => ?_) <;> try (exfalso; omega)) | (refine bcase_nprop (fun h => ?_) (fun h => ?_) <;> try (exfalso; omega)) | (refine bcase_intro (fun h => ?_) (fun h => ?_) <;> (try simp only [Bool.not_eq_true', Bool.not_eq_false', decide_eq_true_eq, decide_eq_false_iff_not, Bool.not_eq_true, Bool.not_eq_false, Decidable.not_not] at h)) | refine And.intro (by first | omega | exact rfl | assumption | exact ⟨rfl, rfl, rfl, rfl, rfl⟩ | exact ⟨rfl, rfl, rfl, rfl⟩ | exact ⟨rfl, by omega⟩ | exact oneAll_of rfl | exact ⟨rfl, oneAll_of rfl⟩ | exact Ref.refl _ | exact Thin.ref (.skip (Thin.refl _)) | exact Thin.ref (.skip (.skip (Thin.refl _))) | exact hn5 | exact Thin.ref (by (repeat (first | exact Thin.nil _ | exact Thin.refl _ | refine Thin.keep rfl (fun _ h => h) ?_ | refine Thin.skip ?_))) | exact ⟨rfl, Nat.le_of_ble_eq_true rfl⟩ | ((try unfold maxLen); (try simp only [List.length_nil, List.length_cons, List.length_append]); omega) | (refine ⟨rfl, ?_⟩; (try simp only [List.length_nil, List.length_cons, List.length_append]); omega)) ?_ | intro _)); (all_goals (conv => whnf))
  all_goals (refine ⟨⟨_, (refPick 77 rfl).trans (Thin.ref ?_), _, a1, c1, a2, c2, fp5, rfl, rfl⟩⟩)
  all_goals exact .keep rfl (fun _ h => h) (.skip (.keep rfl (fun _ h => h) (.keep rfl (fun _ h => h) (.nil _))))
theorem calls_begun19 (g : List Rul) (hg : MIn g) (hl : g.length ≤ 40) (pick : Int) (hp : -9223372036854775808 ≤ pick ∧ pick ≤ 9223372036854775807) (a : Option Addr) (c : Nat) (w : World) (hin : In w [] a (rulsC g)) :
    Calls Try.prog fn_evergreenlaw19_begun #[.slice a g.length c, .int .i64 pick] w fun e w' => ∃ v L1, e = .returned v ∧ R w [] L1 w' ∧ begQ g pick v L1 := by
  refine new_call [.v (.slice a g.length c), .v (.int .i64 pick)] ok_evergreenlaw19_begun (by simp) ?_
  have c1 := fun w => calls_New 1000 77 w
  rw [show clipS 1000 = 1000 from rfl] at c1
  have c2 := fun b key fp w hR hin => calls_lBuildN b g hg hl a c key fp w hR hin
  have c3 := fun w h => calls_rBuild g hg hl a c w h
  have p1 := calls_Pick pick (g.length + 1) (by omega) (by omega) hp
  have hres := (bst_all hg hl).len
  have i1 := pickF_lt (n := pick) (many := g.length + 1) (by omega)
  have r1 : (ints .i64 (buildF [] [0] g).2)[pickF pick (g.length + 1)]? = some (.int .i64 (gId g pick)) := ints_getD (by omega)
  (repeat' ((conv => whnf); first | (refine CallK_new (fun w hR => c1 w) ?_; rintro _ _ ⟨bn, fpn, rfl, rfl⟩; refine ⟨.v _, rfl, ?_⟩) | rw [Int.toNat_natCast] | rw [Nat.mul_one] | (first | refine CallK_pure (.v _) (fun w hR => p1 w) ?_ | refine QCall_pure (.v _) (fun w hR => p1 w) ?_) | refine ⟨_, rdO 804 rfl r1, ?_⟩ | (refine CallK_pack (key := 77) rfl (fun w hR h0 => c2 _ _ _ _ h0 (inCast1 hin hR)) ?_; rintro _ _ ⟨a5, c5, fp5, hn5, rfl, rfl⟩; refine ⟨.v _, rfl, ?_⟩) | ((refine CallK_new (fun w hR => c3 w (hin.cast hR (by simp))) ?_); rintro _ _ ⟨a1, c1, a2, c2, a3, c3, rfl, rfl⟩; refine ⟨.v _, rfl, ?_⟩) | refine ⟨_, ⟨rfl, trivial⟩, ?_⟩ | refine VC_drop 5 ?_ | (refine bcase_prop (fun h => ?_) (fun h => ?_) <;> try (exfalso; omega)) | (refine bcase_nprop (fun h => ?_) (fun h => ?_) <;> try (exfalso; omega)) | (refine bcase_intro (fun h => ?_) (fun h => ?_) <;> (try simp only [Bool.not_eq_true', Bool.not_eq_false', decide_eq_true_eq, decide_eq_false_iff_not, Bool.not_eq_true, Bool.not_eq_false, Decidable.not_not] at h)) | refine And.intro (by first | omega | exact rfl | assumption | exact ⟨rfl, rfl, rfl, rfl, rfl⟩ | exact ⟨rfl, rfl, rfl, rfl⟩ | exact ⟨rfl, by omega⟩ | exact oneAll_of rfl | exact ⟨rfl, oneAll_of rfl⟩ | exact Ref.refl _ | exact Thin.ref (.skip (Thin.refl _)) | exact Thin.ref (.skip (.skip (Thin.refl _))) | exact hn5 | exact Thin.ref (by (repeat (first | exact Thin.nil _ | exact Thin.refl _ | refine Thin.keep rfl (fun _ h => h) ?_ | refine Thin.skip ?_))) | exact ⟨rfl, Nat.le_of_ble_eq_true rfl⟩ | ((try unfold maxLen); (try simp only [List.length_nil, List.length_cons, List.length_append]); omega) | (refine ⟨rfl, ?_⟩; (try simp only [List.length_nil, List.length_cons, List.length_append]); omega)) ?_ | intro _)); (all_goals (conv => whnf))
  all_goals (refine ⟨⟨_, (refPick 77 rfl).trans (Thin.ref ?_), _, a1, c1, a2, c2, fp5, rfl, rfl⟩⟩)
  all_goals exact .keep rfl (fun _ h => h) (.skip (.keep rfl (fun _ h => h) (.keep rfl (fun _ h => h) (.nil _))))
end Go.Proofs.Ytohlphngnhcbfaa
/- A slice of makes that came in. No condition. -/
namespace Go.Proofs.Ytohlphngnhcbfaa
open Go.EG
set_option linter.unusedVariables false

theorem mak_of {vs : List Value} (h : RecOk [.i64, .u8, .i64, .i64, .i64] vs) : ∃ r : Rul, vs = ruC r ∧ MakB r := by
  match vs, h with
  | [.int k0 n0, .int k1 n1, .int k2 n2, .int k3 n3, .int k4 n4], h =>
    obtain ⟨⟨rfl, w0⟩, ⟨rfl, w1⟩, ⟨rfl, w2⟩, ⟨rfl, w3⟩, ⟨rfl, w4⟩, _⟩ := h
    have h0 := wf_i64 w0
    have h1 := wf_u8 w1
    have h2 := wf_i64 w2
    have h3 := wf_i64 w3
    have h4 := wf_i64 w4
    exact ⟨⟨n0, n1, n2, n3, n4⟩, rfl, ⟨h0, ⟨h1.1, by have := h1.2; show n1 < 256; omega⟩, h2, h3, h4⟩⟩
theorem maks_of : ∀ {rows : List (List Value)}, (∀ vs ∈ rows, RecOk [.i64, .u8, .i64, .i64, .i64] vs) →
    ∃ g : List Rul, rows.flatten = rulsC g ∧ g.length = rows.length ∧ ∀ i, i < g.length → MakB (g.getD i rul0)
  | [], _ => ⟨[], rfl, rfl, fun i h => absurd h (Nat.not_lt_zero i)⟩
  | vs :: rows, h => by
    obtain ⟨r, rfl, h1⟩ := mak_of (h vs List.mem_cons_self)
    obtain ⟨g, e1, e2, e3⟩ := maks_of fun vs hv => h vs (List.mem_cons_of_mem _ hv)
    refine ⟨r :: g, ?_, by simp [e2], fun i hi => ?_⟩
    · rw [List.flatten_cons, e1]; simp [rulsC]
    · cases i with
      | zero => exact h1
      | succ i => exact e3 i (by simpa using hi)
end Go.Proofs.Ytohlphngnhcbfaa
/- The way to a letter: the program. -/
namespace Go.Proofs.Ytohlphngnhcbfaa
open Go.EG
attribute [local irreducible] CallK QCall Go.Calls
set_option linter.unusedSimpArgs false
set_option linter.unusedVariables false
set_option maxRecDepth 20000
set_option maxHeartbeats 2000000

/-- What Path hands back. -/
def pthQ (key b : Nat) (S : Sto) (P : List Int) (v : Value) (L1 : List Ent) : Prop :=
  ∃ a c fp', v = .tuple #[.slice a P.length c, .nilIface] ∧ L1 = [packE key fp' (fS b S), .own 805 a P.length c ty_api_ID 1 (ints .i64 P)]
structure PthG where
  id : Int
  i : Nat
  acc : List Int
  a : Option Addr
  c : Nat
  fp : List Nat
theorem calls_Path (b : Nat) (S : Sto) (hw : WF S) (n i : Int) (hk : known S n) (h0 : 0 ≤ i) (hi : i < (tm S.E n).len) (key : Nat) (fp : List Nat) (w : World) (hR : StR w key fp b S) :
    Calls Try.prog fn_access_Path #[pS b, .int .i64 n, .int .i64 i] w fun e w' => ∃ v L1, e = .returned v ∧ R w fp L1 w' ∧ pthQ key b S (pathL S.E n i.toNat) v L1 := by
  refine part_call [.v (pS b), .v (.int .i64 n), .v (.int .i64 i)] ok_access_Path (by simp) (hR.key 77) ?_
  have hsm := hw.small
  have c0 := calls_SWeight b S n hsm
  rw [wtRes_ok hk] at c0
  have hi' : 0 ≤ i ∧ i < ((tm S.E n).txt.length : Nat) := ⟨h0, hi⟩
  have hn1 : 1 ≤ n := by
    have := hk.1
    by_cases h0 : n = 0
    · subst h0; rw [tm_zero] at hi; simp [Tm.len, Tm.txt] at hi; omega
    · omega
  generalize hP : pathL S.E n i.toNat = P at *
  (repeat' ((conv => whnf); first | (refine CallK_pack (key := 77) rfl (fun w hR h0 => c0 _ _ _ h0) ?_; rintro _ _ ⟨rfl, fp', rfl⟩; refine ⟨.v _, rfl, ?_⟩) | (refine bcase_prop (fun h => ?_) (fun h => ?_) <;> try (exfalso; omega)) | (refine bcase_nprop (fun h => ?_) (fun h => ?_) <;> try (exfalso; omega)) | (refine bcase_intro (fun h => ?_) (fun h => ?_) <;> (try simp only [Bool.not_eq_true', Bool.not_eq_false', decide_eq_true_eq, decide_eq_false_iff_not, Bool.not_eq_true, Bool.not_eq_false, Decidable.not_not] at h)) | refine And.intro (by first | omega | exact rfl | assumption | exact ⟨rfl, rfl, rfl, rfl, rfl⟩ | exact ⟨rfl, rfl, rfl, rfl⟩ | exact ⟨rfl, by omega⟩ | exact oneAll_of rfl | exact ⟨rfl, oneAll_of rfl⟩ | exact Ref.refl _ | exact Thin.ref (.skip (Thin.refl _)) | exact Thin.ref (.skip (.skip (Thin.refl _))) | exact ⟨rfl, Nat.le_of_ble_eq_true rfl⟩ | ((try unfold maxLen); (try simp only [List.length_nil, List.length_cons, List.length_append]); omega) | (refine ⟨rfl, ?_⟩; (try simp only [List.length_nil, List.length_cons, List.length_append]); omega)) ?_ | intro _)); (all_goals (conv => whnf))
  refine VC_loop PthG (fun x => [(0, .v (pS b)), (1, .v (.int .i64 x.id)), (2, .v (.int .i64 x.i)), (10, .sl 805 x.a x.acc.length x.c)]) (fun x => [packE 77 x.fp (fS b S), .own 805 x.a x.acc.length x.c ty_api_ID 1 (ints .i64 x.acc)])
    (fun x => 1 ≤ x.id ∧ x.id ≤ S.E.length ∧ x.i < (tm S.E x.id).len ∧ x.acc ++ pathL S.E x.id x.i = P ∧ x.acc.length + x.id ≤ n) (fun x => x.id.toNat) ⟨n, i.toNat, [], none, 0, fp'⟩ ⟨hn1, hk.2, by dsimp only; omega, by simpa using hP, by simp⟩ (by (repeat ((conv => whnf); refine And.intro (by first | exact rfl | exact vint_eq (by omega) | exact vint_eq (by (dsimp only; omega)) | exact vsl_eq (by omega) | exact vsl_eq (by first | (dsimp only; omega) | (simp; done) | (simp; omega))) ?_)); exact trivial) ((Ref.ownNil 805 ty_api_ID 1).trans ((refPick 77 rfl).trans (Thin.ref (by (repeat (first | exact Thin.nil _ | exact Thin.refl _ | refine Thin.keep rfl (fun _ h => h) ?_ | refine Thin.skip ?_)))))) ?_
  rintro ⟨m, j, acc, a, c, fpx⟩ ⟨h1, h2, h3, h4, h5⟩
  dsimp only at h1 h2 h3 h4 h5 ⊢
  have c1 := calls_Rule b S m hsm
  rw [ruleV_ok h1 h2] at c1
  have hlm := hw.le h2
  have hsn := ints_snoc .i64 acc m
  have hnn := hk.2
  rcases hw.below h1 h2 with ⟨hk1, ht⟩ | ⟨hk1, ht, a1, a2, b1, b2⟩ | ⟨hk1, ht, a1, a2, t2⟩
  · rw [pathL_let hk1] at h4
    subst h4
    (repeat' ((conv => whnf); first | rw [hsn] | (refine CallK_pack (key := 77) rfl (fun w hR h0 => c1 _ _ _ h0) ?_; rintro _ _ ⟨rfl, fp', rfl⟩; refine ⟨.v _, rfl, ?_⟩) | refine ⟨_, ⟨rfl, trivial⟩, ?_⟩ | (refine bcase_prop (fun h => ?_) (fun h => ?_) <;> try (exfalso; omega)) | (refine bcase_nprop (fun h => ?_) (fun h => ?_) <;> try (exfalso; omega)) | (refine bcase_intro (fun h => ?_) (fun h => ?_) <;> (try simp only [Bool.not_eq_true', Bool.not_eq_false', decide_eq_true_eq, decide_eq_false_iff_not, Bool.not_eq_true, Bool.not_eq_false, Decidable.not_not] at h)) | refine And.intro (by first | omega | exact rfl | assumption | exact ⟨rfl, rfl, rfl, rfl, rfl⟩ | exact ⟨rfl, rfl, rfl, rfl⟩ | exact ⟨rfl, by omega⟩ | exact oneAll_of rfl | exact ⟨rfl, oneAll_of rfl⟩ | exact Ref.refl _ | exact Thin.ref (.skip (Thin.refl _)) | exact Thin.ref (.skip (.skip (Thin.refl _))) | exact ⟨by unfold maxLen; omega, by omega⟩ | exact ⟨rfl, Nat.le_of_ble_eq_true rfl⟩ | ((try unfold maxLen); (try simp only [List.length_nil, List.length_cons, List.length_append]); omega) | (refine ⟨rfl, ?_⟩; (try simp only [List.length_nil, List.length_cons, List.length_append]); omega)) ?_ | intro _)); (all_goals (conv => whnf))
    all_goals first | (exfalso; omega) | skip
    rename_i a' c' b11
    exact ⟨⟨_, (refPick 77 rfl).trans (Thin.ref (Thin.packE (.skip (.skip (.own (by simp) rfl (.nil _)))))), a', c', _, by simp, rfl⟩⟩
  · have c2 := calls_SWeight b S (atE S.E m).r.a hsm
    rw [wtRes_ok ⟨by omega, by omega⟩] at c2
    have hp := hw.pos1 a1 (by omega)
    have hla := hw.le (n := (atE S.E m).r.a) (by omega)
    have c3 := calls_below (atE S.E m).r (tm S.E (atE S.E m).r.a).len j hp hla (by unfold LM at *; omega)
    rw [if_neg (by omega)] at c3
    rw [ht, Tm.len_pr] at h3
    by_cases hlt : j < (tm S.E (atE S.E m).r.a).len
    · rw [if_pos hlt] at c3
      rw [pathL_left hk1 a1 a2 hlt] at h4
      unfold Tm.len at c3 hlt
      (repeat' ((conv => whnf); first | rw [hsn] | (refine CallK_pack (key := 77) rfl (fun w hR h0 => c1 _ _ _ h0) ?_; rintro _ _ ⟨rfl, fp', rfl⟩; refine ⟨.v _, rfl, ?_⟩) | (refine CallK_pack (key := 77) rfl (fun w hR h0 => c2 _ _ _ h0) ?_; rintro _ _ ⟨rfl, fp', rfl⟩; refine ⟨.v _, rfl, ?_⟩) | (first | refine CallK_pure (.v _) (fun w hR => c3 w) ?_ | refine QCall_pure (.v _) (fun w hR => c3 w) ?_) | refine ⟨_, ⟨rfl, trivial⟩, ?_⟩ | (refine bcase_prop (fun h => ?_) (fun h => ?_) <;> try (exfalso; omega)) | (refine bcase_nprop (fun h => ?_) (fun h => ?_) <;> try (exfalso; omega)) | (refine bcase_intro (fun h => ?_) (fun h => ?_) <;> (try simp only [Bool.not_eq_true', Bool.not_eq_false', decide_eq_true_eq, decide_eq_false_iff_not, Bool.not_eq_true, Bool.not_eq_false, Decidable.not_not] at h)) | refine And.intro (by first | omega | exact rfl | assumption | exact ⟨rfl, rfl, rfl, rfl, rfl⟩ | exact ⟨rfl, rfl, rfl, rfl⟩ | exact ⟨rfl, by omega⟩ | exact oneAll_of rfl | exact ⟨rfl, oneAll_of rfl⟩ | exact Ref.refl _ | exact Thin.ref (.skip (Thin.refl _)) | exact Thin.ref (.skip (.skip (Thin.refl _))) | exact ⟨by unfold maxLen; omega, by omega⟩ | exact ⟨rfl, Nat.le_of_ble_eq_true rfl⟩ | ((try unfold maxLen); (try simp only [List.length_nil, List.length_cons, List.length_append]); omega) | (refine ⟨rfl, ?_⟩; (try simp only [List.length_nil, List.length_cons, List.length_append]); omega)) ?_ | intro _)); (all_goals (conv => whnf))
      rename_i a' c' fq b11 b13
      refine loop_next ⟨(atE S.E m).r.a, j, acc ++ [m], a', c', fp'⟩ ⟨a1, by dsimp only; omega, hlt, by simpa using h4, by simp only [List.length_append, List.length_cons, List.length_nil]; omega⟩ (by ((try dsimp only); omega)) (by (repeat ((conv => whnf); refine And.intro (by first | exact rfl | exact vint_eq (by omega) | exact vint_eq (by (dsimp only; omega)) | exact vsl_eq (by omega) | exact vsl_eq (by first | (dsimp only; omega) | (simp; done) | (simp; omega))) ?_)); exact trivial) ((refPick 77 rfl).trans (Thin.ref ?_))
      exact .keep rfl (fun _ h => h) (.skip (.skip (.skip (.own (by simp) rfl (.nil _)))))
    · rw [if_neg hlt] at c3
      rw [pathL_right hk1 b1 b2 hlt] at h4
      have h6 : j - (tm S.E (atE S.E m).r.a).len < (tm S.E (atE S.E m).r.b).len := by omega
      unfold Tm.len at c3
      (repeat' ((conv => whnf); first | rw [hsn] | (refine CallK_pack (key := 77) rfl (fun w hR h0 => c1 _ _ _ h0) ?_; rintro _ _ ⟨rfl, fp', rfl⟩; refine ⟨.v _, rfl, ?_⟩) | (refine CallK_pack (key := 77) rfl (fun w hR h0 => c2 _ _ _ h0) ?_; rintro _ _ ⟨rfl, fp', rfl⟩; refine ⟨.v _, rfl, ?_⟩) | (first | refine CallK_pure (.v _) (fun w hR => c3 w) ?_ | refine QCall_pure (.v _) (fun w hR => c3 w) ?_) | refine ⟨_, ⟨rfl, trivial⟩, ?_⟩ | (refine bcase_prop (fun h => ?_) (fun h => ?_) <;> try (exfalso; omega)) | (refine bcase_nprop (fun h => ?_) (fun h => ?_) <;> try (exfalso; omega)) | (refine bcase_intro (fun h => ?_) (fun h => ?_) <;> (try simp only [Bool.not_eq_true', Bool.not_eq_false', decide_eq_true_eq, decide_eq_false_iff_not, Bool.not_eq_true, Bool.not_eq_false, Decidable.not_not] at h)) | refine And.intro (by first | omega | exact rfl | assumption | exact ⟨rfl, rfl, rfl, rfl, rfl⟩ | exact ⟨rfl, rfl, rfl, rfl⟩ | exact ⟨rfl, by omega⟩ | exact oneAll_of rfl | exact ⟨rfl, oneAll_of rfl⟩ | exact Ref.refl _ | exact Thin.ref (.skip (Thin.refl _)) | exact Thin.ref (.skip (.skip (Thin.refl _))) | exact ⟨by unfold maxLen; omega, by omega⟩ | exact ⟨rfl, Nat.le_of_ble_eq_true rfl⟩ | ((try unfold maxLen); (try simp only [List.length_nil, List.length_cons, List.length_append]); omega) | (refine ⟨rfl, ?_⟩; (try simp only [List.length_nil, List.length_cons, List.length_append]); omega)) ?_ | intro _)); (all_goals (conv => whnf))
      rename_i a' c' fq b11 b13
      refine loop_next ⟨(atE S.E m).r.b, j - (tm S.E (atE S.E m).r.a).len, acc ++ [m], a', c', fp'⟩ ⟨b1, by dsimp only; omega, h6, by simpa using h4, by simp only [List.length_append, List.length_cons, List.length_nil]; omega⟩ (by ((try dsimp only); omega)) (by (repeat ((conv => whnf); refine And.intro (by first | exact rfl | exact vint_eq (by omega) | exact vint_eq (by (dsimp only; omega)) | exact vsl_eq (by omega) | exact vsl_eq (by first | (dsimp only; omega) | (simp; done) | (simp; omega))) ?_)); exact trivial) ((refPick 77 rfl).trans (Thin.ref ?_))
      exact .keep rfl (fun _ h => h) (.skip (.skip (.skip (.own (by simp) rfl (.nil _)))))
  · have c2 := calls_SWeight b S (atE S.E m).r.a hsm
    rw [wtRes_ok ⟨by omega, by omega⟩] at c2
    have hp := hw.pos1 a1 (by omega)
    have hla := hw.le (n := (atE S.E m).r.a) (by omega)
    have c3 := calls_below (atE S.E m).r (tm S.E (atE S.E m).r.a).len j hp hla (by unfold LM at *; omega)
    rw [if_pos hk1] at c3
    rw [ht, Tm.len_pw] at h3
    rw [pathL_pow hk1 a1 a2] at h4
    have h6 := Nat.mod_lt j (show 0 < (tm S.E (atE S.E m).r.a).len by omega)
    unfold Tm.len at c3
    (repeat' ((conv => whnf); first | rw [hsn] | (refine CallK_pack (key := 77) rfl (fun w hR h0 => c1 _ _ _ h0) ?_; rintro _ _ ⟨rfl, fp', rfl⟩; refine ⟨.v _, rfl, ?_⟩) | (refine CallK_pack (key := 77) rfl (fun w hR h0 => c2 _ _ _ h0) ?_; rintro _ _ ⟨rfl, fp', rfl⟩; refine ⟨.v _, rfl, ?_⟩) | (first | refine CallK_pure (.v _) (fun w hR => c3 w) ?_ | refine QCall_pure (.v _) (fun w hR => c3 w) ?_) | refine ⟨_, ⟨rfl, trivial⟩, ?_⟩ | (refine bcase_prop (fun h => ?_) (fun h => ?_) <;> try (exfalso; omega)) | (refine bcase_nprop (fun h => ?_) (fun h => ?_) <;> try (exfalso; omega)) | (refine bcase_intro (fun h => ?_) (fun h => ?_) <;> (try simp only [Bool.not_eq_true', Bool.not_eq_false', decide_eq_true_eq, decide_eq_false_iff_not, Bool.not_eq_true, Bool.not_eq_false, Decidable.not_not] at h)) | refine And.intro (by first | omega | exact rfl | assumption | exact ⟨rfl, rfl, rfl, rfl, rfl⟩ | exact ⟨rfl, rfl, rfl, rfl⟩ | exact ⟨rfl, by omega⟩ | exact oneAll_of rfl | exact ⟨rfl, oneAll_of rfl⟩ | exact Ref.refl _ | exact Thin.ref (.skip (Thin.refl _)) | exact Thin.ref (.skip (.skip (Thin.refl _))) | exact ⟨by unfold maxLen; omega, by omega⟩ | exact ⟨rfl, Nat.le_of_ble_eq_true rfl⟩ | ((try unfold maxLen); (try simp only [List.length_nil, List.length_cons, List.length_append]); omega) | (refine ⟨rfl, ?_⟩; (try simp only [List.length_nil, List.length_cons, List.length_append]); omega)) ?_ | intro _)); (all_goals (conv => whnf))
    rename_i a' c' fq b11 b13
    refine loop_next ⟨(atE S.E m).r.a, j % (tm S.E (atE S.E m).r.a).len, acc ++ [m], a', c', fp'⟩ ⟨a1, by dsimp only; omega, h6, by simpa using h4, by simp only [List.length_append, List.length_cons, List.length_nil]; omega⟩ (by ((try dsimp only); omega)) (by (repeat ((conv => whnf); refine And.intro (by first | exact rfl | exact vint_eq (by omega) | exact vint_eq (by (dsimp only; omega)) | exact vsl_eq (by omega) | exact vsl_eq (by first | (dsimp only; omega) | (simp; done) | (simp; omega))) ?_)); exact trivial) ((refPick 77 rfl).trans (Thin.ref ?_))
    exact .keep rfl (fun _ h => h) (.skip (.skip (.skip (.own (by simp) rfl (.nil _)))))
end Go.Proofs.Ytohlphngnhcbfaa
