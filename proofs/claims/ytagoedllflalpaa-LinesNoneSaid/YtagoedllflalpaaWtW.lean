/- The weight of a range: the program. -/
import Derived.Test.YtagoedllflalpaaPartW
namespace Go.Proofs.Ytagoedllflalpaa
open Go.EG
attribute [local irreducible] CallK QCall Go.Calls
set_option linter.unusedSimpArgs false
set_option linter.unusedVariables false
set_option maxRecDepth 20000
set_option maxHeartbeats 2000000

theorem Ref.unpackU {w0 : World} {fp0 : List Nat} {L : List Ent} {key : Nat} {fp : List Nat} {f : Unit → List Ent} : Ref w0 fp0 (packE key fp f :: L) (f () ++ L) := fun w hR => by
  obtain ⟨x, _, h⟩ := hR.unpack
  exact h
section
attribute [local semireducible] CallK
theorem CallK_pre {P : Program} {w0 : World} {fp0 : List Nat} {L L' : List Ent} {f : FuncId} {args : List Value} {k : SV → List Ent → Prop} (href : Ref w0 fp0 L L') (h : CallK P w0 fp0 f args L' k) : CallK P w0 fp0 f args L k := fun w hR => h w (href w hR)
end
theorem Ref.pick {w0 : World} {fp0 : List Nat} {L Lr : List Ent} {e : Ent} (key : Nat) (h : pickE key L = some (e, Lr)) : Ref w0 fp0 L (e :: Lr) := Ref.perm (pickE_perm h)

theorem calls_join (s t : List Nat) (h : s.length + t.length ≤ LM) (w : World) : Calls Try.prog fn_access_join #[wtV s, wtV t] w fun e w' => e = .returned (wtV (s ++ t)) ∧ Ext w w' := by
  refine pure_call [.v (wtV s), .v (wtV t)] w ok_access_join (by simp) ?_
  have c4 := calls_dJoin s t
  have e1 := lines_append s t
  have e2 := head_append s t
  have e3 := tail_append s t
  have b1 := fit_lines s
  have b2 := fit_lines t
  have z1 : linesN s = 0 → headN s = s.length ∧ tailN s = s.length := fun h => ⟨head_zero h, tail_zero h⟩
  have z2 : linesN t = 0 → headN t = t.length ∧ tailN t = t.length := fun h => ⟨head_zero h, tail_zero h⟩
  have l1 : linesN s ≤ s.length := List.count_le_length
  have l2 : linesN t ≤ t.length := List.count_le_length
  unfold LM at h
  unfold wtV at *
  unfold digV at c4
  rw [List.length_append, e1, e2, e3]
  generalize valN (s ++ t) = v at *
  generalize scaleN (s ++ t) = sc at *
  clear e1 e2 e3
  generalize s.length = n at *
  generalize t.length = n' at *
  generalize linesN s = l at *
  generalize linesN t = l' at *
  generalize headN s = hd at *
  generalize headN t = hd' at *
  generalize tailN s = tl at *
  generalize tailN t = tl' at *
  (repeat' ((conv => whnf); first | (first | refine CallK_pure (.v _) (fun w hR => c4 w) ?_ | refine QCall_pure (.v _) (fun w hR => c4 w) ?_) | (refine bcase_prop (fun h => ?_) (fun h => ?_) <;> try (exfalso; omega)) | (refine bcase_nprop (fun h => ?_) (fun h => ?_) <;> try (exfalso; omega)) | (refine bcase_intro (fun h => ?_) (fun h => ?_) <;> (try simp only [Bool.not_eq_true', Bool.not_eq_false', decide_eq_true_eq, decide_eq_false_iff_not, Bool.not_eq_true, Bool.not_eq_false, Decidable.not_not] at h)) | refine And.intro (by first | omega | exact rfl | assumption | exact ⟨rfl, rfl, rfl, rfl, rfl⟩ | exact ⟨rfl, rfl, rfl, rfl⟩ | exact ⟨rfl, by omega⟩ | exact oneAll_of rfl | exact ⟨rfl, oneAll_of rfl⟩ | exact Ref.refl _ | exact Thin.ref (.skip (Thin.refl _)) | exact Thin.ref (.skip (.skip (Thin.refl _))) | exact ⟨rfl, Nat.le_of_ble_eq_true rfl⟩ | ((try unfold maxLen); (try simp only [List.length_nil, List.length_cons, List.length_append]); omega) | (refine ⟨rfl, ?_⟩; (try simp only [List.length_nil, List.length_cons, List.length_append]); omega)) ?_ | intro _)); (all_goals (conv => whnf))
  all_goals (refine ⟨?_⟩)
  all_goals (try rw [if_pos (by omega : l = 0)]) 
  all_goals (try rw [if_neg (by omega : ¬ l = 0)])
  all_goals (try rw [if_pos (by omega : l' = 0)])
  all_goals (try rw [if_neg (by omega : ¬ l' = 0)])
  all_goals exact rfl

abbrev wtC (t : List Nat) : List Value := [.int .i64 t.length, .int .i64 (linesN t), .int .i64 (headN t), .int .i64 (tailN t), .int .u64 (valN t), .int .u64 (scaleN t)]
/-- What the sum's visitor writes: the boxes of the store's pointer and of the sum. -/
def fW (b bs bw : Nat) (acc : List Nat) : Unit → List Ent := fun _ => [.box 4 bs [pS b] ty_P_intern_Store, .box 13 bw (wtC acc) ty_api_Weight]
theorem visW (b : Nat) (S : Sto) (hw : WF S) (bs bw N : Nat) (hN : N ≤ LM) : VisOk S b N fn_access_Weight_1 [pS bs, pS bw] (fW b bs bw) := by
  intro acc x k h1 h2 h3 h4 fp1 fp2 w hR
  replace hR := (Ref.unpackU w hR : R _ _ ([.box 4 bs [pS b] ty_P_intern_Store, .box 13 bw (wtC acc) ty_api_Weight] ++ _) w)
  refine part_call [.v (.int .i64 x), .v (.int .i64 k), .ptr 4 bs 0, .ptr 13 bw 0] ok_access_Weight_1 (by simp) hR ?_
  have hsm := hw.small
  have c1 := calls_SWeight b S x hsm
  rw [wtRes_ok ⟨by omega, h2⟩] at c1
  have hl := hw.le h2
  rw [List.length_append, rep_length] at h4
  have hkl : k ≤ k * (tm S.E x).txt.length ∨ (tm S.E x).txt.length = 0 := by
    rcases Nat.eq_zero_or_pos (tm S.E x).txt.length with h | h
    · exact .inr h
    · exact .inl (Nat.le_mul_of_pos_right k h)
  have hpos := hw.pos1 h1 h2
  by_cases hk : k = 1
  · subst hk
    have c3 := calls_join acc (tm S.E x).txt (by omega)
    rw [rep_one]
    (repeat' ((conv => whnf); first | refine ⟨.v _, ⟨rfl, trivial⟩, ?_⟩ | (refine CallK_pack (key := 77) rfl (fun w hR h0 => c1 _ _ _ h0) ?_; rintro _ _ ⟨rfl, fp', rfl⟩; refine ⟨.v _, rfl, ?_⟩) | (first | refine CallK_pure (.v _) (fun w hR => c3 w) ?_ | refine QCall_pure (.v _) (fun w hR => c3 w) ?_) | (refine bcase_prop (fun h => ?_) (fun h => ?_) <;> try (exfalso; omega)) | (refine bcase_nprop (fun h => ?_) (fun h => ?_) <;> try (exfalso; omega)) | (refine bcase_intro (fun h => ?_) (fun h => ?_) <;> (try simp only [Bool.not_eq_true', Bool.not_eq_false', decide_eq_true_eq, decide_eq_false_iff_not, Bool.not_eq_true, Bool.not_eq_false, Decidable.not_not] at h)) | refine And.intro (by first | omega | exact rfl | assumption | exact ⟨rfl, rfl, rfl, rfl, rfl⟩ | exact ⟨rfl, rfl, rfl, rfl⟩ | exact ⟨rfl, by omega⟩ | exact oneAll_of rfl | exact ⟨rfl, oneAll_of rfl⟩ | exact Ref.refl _ | exact Thin.ref (.skip (Thin.refl _)) | exact Thin.ref (.skip (.skip (Thin.refl _))) | exact ⟨rfl, Nat.le_of_ble_eq_true rfl⟩ | ((try unfold maxLen); (try simp only [List.length_nil, List.length_cons, List.length_append]); omega) | (refine ⟨rfl, ?_⟩; (try simp only [List.length_nil, List.length_cons, List.length_append]); omega)) ?_ | intro _)); (all_goals (conv => whnf))
    refine ⟨[packE 90 (fps (fW b bs bw (acc ++ (tm S.E x).txt) ())) (fW b bs bw (acc ++ (tm S.E x).txt)), packE 77 fp' (fS b S)], ?_, rfl, _, _, rfl⟩
    exact (Thin.ref (.skip (.keep rfl (fun _ h => h) (.keep rfl (fun _ h => h) (.keep rfl (fun _ h => h) (.nil _))))) : Ref _ _ _ [packE 77 fp' (fS b S), .box 4 bs [pS b] ty_P_intern_Store, .box 13 bw (wtC (acc ++ (tm S.E x).txt)) ty_api_Weight]).trans ((Ref.perm (.trans (.swap _ _ _) (.cons _ (.swap _ _ _)))).trans (Ref.packs (f := fW b bs bw (acc ++ (tm S.E x).txt)) () (Thin.refl _)))
  · have hk2 : k ≤ LM := by
      rcases hkl with h | h
      · omega
      · unfold Tm.len at hpos; omega
    have c2 := calls_wRepeat (tm S.E x).txt k (by unfold LM at hk2; omega) (by rw [Nat.mul_comm]; omega) hl
    have c3 := calls_join acc (rep k (tm S.E x).txt) (by rw [rep_length]; omega)
    unfold LM at hk2
    (repeat' ((conv => whnf); first | refine ⟨.v _, ⟨rfl, trivial⟩, ?_⟩ | (refine CallK_pack (key := 77) rfl (fun w hR h0 => c1 _ _ _ h0) ?_; rintro _ _ ⟨rfl, fp', rfl⟩; refine ⟨.v _, rfl, ?_⟩) | (first | refine CallK_pure (.v _) (fun w hR => c2 w) ?_ | refine QCall_pure (.v _) (fun w hR => c2 w) ?_) | (first | refine CallK_pure (.v _) (fun w hR => c3 w) ?_ | refine QCall_pure (.v _) (fun w hR => c3 w) ?_) | (refine bcase_prop (fun h => ?_) (fun h => ?_) <;> try (exfalso; omega)) | (refine bcase_nprop (fun h => ?_) (fun h => ?_) <;> try (exfalso; omega)) | (refine bcase_intro (fun h => ?_) (fun h => ?_) <;> (try simp only [Bool.not_eq_true', Bool.not_eq_false', decide_eq_true_eq, decide_eq_false_iff_not, Bool.not_eq_true, Bool.not_eq_false, Decidable.not_not] at h)) | refine And.intro (by first | omega | exact rfl | assumption | exact ⟨rfl, rfl, rfl, rfl, rfl⟩ | exact ⟨rfl, rfl, rfl, rfl⟩ | exact ⟨rfl, by omega⟩ | exact oneAll_of rfl | exact ⟨rfl, oneAll_of rfl⟩ | exact Ref.refl _ | exact Thin.ref (.skip (Thin.refl _)) | exact Thin.ref (.skip (.skip (Thin.refl _))) | exact ⟨rfl, Nat.le_of_ble_eq_true rfl⟩ | ((try unfold maxLen); (try simp only [List.length_nil, List.length_cons, List.length_append]); omega) | (refine ⟨rfl, ?_⟩; (try simp only [List.length_nil, List.length_cons, List.length_append]); omega)) ?_ | intro _)); (all_goals (conv => whnf))
    refine ⟨[packE 90 (fps (fW b bs bw (acc ++ rep k (tm S.E x).txt) ())) (fW b bs bw (acc ++ rep k (tm S.E x).txt)), packE 77 fp' (fS b S)], ?_, rfl, _, _, rfl⟩
    exact (Thin.ref (.skip (.keep rfl (fun _ h => h) (.keep rfl (fun _ h => h) (.keep rfl (fun _ h => h) (.nil _))))) : Ref _ _ _ [packE 77 fp' (fS b S), .box 4 bs [pS b] ty_P_intern_Store, .box 13 bw (wtC (acc ++ rep k (tm S.E x).txt)) ty_api_Weight]).trans ((Ref.perm (.trans (.swap _ _ _) (.cons _ (.swap _ _ _)))).trans (Ref.packs (f := fW b bs bw (acc ++ rep k (tm S.E x).txt)) () (Thin.refl _)))

def wgRes (S : Sto) (n i m : Int) : Value := if known S n ∧ 0 ≤ i ∧ 0 ≤ m ∧ i ≤ (tm S.E n).len ∧ m ≤ (tm S.E n).len - i then .tuple #[wtV (sub (tm S.E n).txt i.toNat m.toNat), .nilIface] else .tuple #[wt0, errV 1]
theorem calls_AWeight (b : Nat) (S : Sto) (hw : WF S) (n i m : Int) : SC fn_access_Weight #[pS b, .int .i64 n, .int .i64 i, .int .i64 m] b S S (wgRes S n i m) := by
  intro key fp w hR
  refine part_call [.v (pS b), .v (.int .i64 n), .v (.int .i64 i), .v (.int .i64 m)] ok_access_Weight (by simp) (hR.key 77) ?_
  have hsm := hw.small
  have c0 := calls_SWeight b S n hsm
  unfold wtRes at c0
  unfold wgRes
  by_cases hk : known S n
  case neg =>
    rw [if_neg hk] at c0
    rw [if_neg (fun h => hk h.1)]
    (repeat' ((conv => whnf); first | refine ⟨.v _, ⟨rfl, trivial⟩, ?_⟩ | (refine CallK_pack (key := 77) rfl (fun w hR h0 => c0 _ _ _ h0) ?_; rintro _ _ ⟨rfl, fp', rfl⟩; refine ⟨.v _, rfl, ?_⟩) | (refine bcase_prop (fun h => ?_) (fun h => ?_) <;> try (exfalso; omega)) | (refine bcase_nprop (fun h => ?_) (fun h => ?_) <;> try (exfalso; omega)) | (refine bcase_intro (fun h => ?_) (fun h => ?_) <;> (try simp only [Bool.not_eq_true', Bool.not_eq_false', decide_eq_true_eq, decide_eq_false_iff_not, Bool.not_eq_true, Bool.not_eq_false, Decidable.not_not] at h)) | refine And.intro (by first | omega | exact rfl | assumption | exact ⟨rfl, rfl, rfl, rfl, rfl⟩ | exact ⟨rfl, rfl, rfl, rfl⟩ | exact ⟨rfl, by omega⟩ | exact oneAll_of rfl | exact ⟨rfl, oneAll_of rfl⟩ | exact Ref.refl _ | exact Thin.ref (.skip (Thin.refl _)) | exact Thin.ref (.skip (.skip (Thin.refl _))) | exact ⟨rfl, Nat.le_of_ble_eq_true rfl⟩ | ((try unfold maxLen); (try simp only [List.length_nil, List.length_cons, List.length_append]); omega) | (refine ⟨rfl, ?_⟩; (try simp only [List.length_nil, List.length_cons, List.length_append]); omega)) ?_ | intro _)); (all_goals (conv => whnf))
    exact ⟨endP (by (repeat (first | exact Thin.nil _ | exact Thin.refl _ | refine Thin.keep rfl (fun _ h => h) ?_ | refine Thin.skip ?_))) rfl⟩
  rw [if_pos hk] at c0
  have hlen := hw.le hk.2
  have c1 := calls_lRange i m (tm S.E n).txt.length hlen
  unfold rangeRes at c1
  by_cases hi : 0 ≤ i ∧ 0 ≤ m ∧ i ≤ (tm S.E n).len ∧ m ≤ (tm S.E n).len - i
  case neg =>
    rw [if_neg (fun h => hi h.2)]
    have hi' : ¬ (0 ≤ i ∧ 0 ≤ m ∧ i ≤ ((tm S.E n).txt.length : Nat) ∧ m ≤ ((tm S.E n).txt.length : Nat) - i) := hi
    rw [if_neg hi'] at c1
    (repeat' ((conv => whnf); first | refine ⟨.v _, ⟨rfl, trivial⟩, ?_⟩ | (refine CallK_pack (key := 77) rfl (fun w hR h0 => c0 _ _ _ h0) ?_; rintro _ _ ⟨rfl, fp', rfl⟩; refine ⟨.v _, rfl, ?_⟩) | (first | refine CallK_pure (.v _) (fun w hR => c1 w) ?_ | refine QCall_pure (.v _) (fun w hR => c1 w) ?_) | (refine bcase_prop (fun h => ?_) (fun h => ?_) <;> try (exfalso; omega)) | (refine bcase_nprop (fun h => ?_) (fun h => ?_) <;> try (exfalso; omega)) | (refine bcase_intro (fun h => ?_) (fun h => ?_) <;> (try simp only [Bool.not_eq_true', Bool.not_eq_false', decide_eq_true_eq, decide_eq_false_iff_not, Bool.not_eq_true, Bool.not_eq_false, Decidable.not_not] at h)) | refine And.intro (by first | omega | exact rfl | assumption | exact ⟨rfl, rfl, rfl, rfl, rfl⟩ | exact ⟨rfl, rfl, rfl, rfl⟩ | exact ⟨rfl, by omega⟩ | exact oneAll_of rfl | exact ⟨rfl, oneAll_of rfl⟩ | exact Ref.refl _ | exact Thin.ref (.skip (Thin.refl _)) | exact Thin.ref (.skip (.skip (Thin.refl _))) | exact ⟨rfl, Nat.le_of_ble_eq_true rfl⟩ | ((try unfold maxLen); (try simp only [List.length_nil, List.length_cons, List.length_append]); omega) | (refine ⟨rfl, ?_⟩; (try simp only [List.length_nil, List.length_cons, List.length_append]); omega)) ?_ | intro _)); (all_goals (conv => whnf))
    exact ⟨endP (by (repeat (first | exact Thin.nil _ | exact Thin.refl _ | refine Thin.keep rfl (fun _ h => h) ?_ | refine Thin.skip ?_))) rfl⟩
  rw [if_pos ⟨hk, hi⟩]
  have hi' : 0 ≤ i ∧ 0 ≤ m ∧ i ≤ ((tm S.E n).txt.length : Nat) ∧ m ≤ ((tm S.E n).txt.length : Nat) - i := hi
  rw [if_pos hi'] at c1
  have c2 := calls_wUnit
  obtain ⟨j, rfl⟩ := Int.eq_ofNat_of_zero_le hi.1
  obtain ⟨p, rfl⟩ := Int.eq_ofNat_of_zero_le hi.2.1
  have c3 := fun bs bw => calls_parts b S hw n j p hk (by omega) fn_access_Weight_1 [pS bs, pS bw] (fW b bs bw) p (Nat.le_refl p) rfl (visW b S hw bs bw p (by unfold Tm.len LM at *; omega))
  rw [Int.toNat_natCast, Int.toNat_natCast]
  (repeat' ((conv => whnf); first | refine ⟨.v _, ⟨rfl, trivial⟩, ?_⟩ | (refine CallK_pack (key := 77) rfl (fun w hR h0 => c0 _ _ _ h0) ?_; rintro _ _ ⟨rfl, fp', rfl⟩; refine ⟨.v _, rfl, ?_⟩) | (first | refine CallK_pure (.v _) (fun w hR => c1 w) ?_ | refine QCall_pure (.v _) (fun w hR => c1 w) ?_) | (first | refine CallK_pure (.v _) (fun w hR => c2 w) ?_ | refine QCall_pure (.v _) (fun w hR => c2 w) ?_)  | (refine bcase_prop (fun h => ?_) (fun h => ?_) <;> try (exfalso; omega)) | (refine bcase_nprop (fun h => ?_) (fun h => ?_) <;> try (exfalso; omega)) | (refine bcase_intro (fun h => ?_) (fun h => ?_) <;> (try simp only [Bool.not_eq_true', Bool.not_eq_false', decide_eq_true_eq, decide_eq_false_iff_not, Bool.not_eq_true, Bool.not_eq_false, Decidable.not_not] at h)) | refine And.intro (by first | omega | exact rfl | assumption | exact ⟨rfl, rfl, rfl, rfl, rfl⟩ | exact ⟨rfl, rfl, rfl, rfl⟩ | exact ⟨rfl, by omega⟩ | exact oneAll_of rfl | exact ⟨rfl, oneAll_of rfl⟩ | exact Ref.refl _ | exact Thin.ref (.skip (Thin.refl _)) | exact Thin.ref (.skip (.skip (Thin.refl _))) | exact ⟨rfl, Nat.le_of_ble_eq_true rfl⟩ | ((try unfold maxLen); (try simp only [List.length_nil, List.length_cons, List.length_append]); omega) | (refine ⟨rfl, ?_⟩; (try simp only [List.length_nil, List.length_cons, List.length_append]); omega)) ?_ | intro _)); (all_goals (conv => whnf))
  refine CallK_pre ((Thin.ref (.keep rfl (fun _ h => h) (.skip (.keep rfl (fun _ h => h) (.keep rfl (fun _ h => h) (.keep rfl (fun _ h => h) (.nil _)))))) : Ref _ _ _ [.box 13 _ (wtC []) ty_api_Weight, packE 77 fp' (fS b S), .box 8 _ _ ty_api_Weight, .box 4 _ [pS b] ty_P_intern_Store]).trans (Ref.perm (List.perm_append_comm (l₁ := [_, _, _]) (l₂ := [_])))) ?_
  refine CallK_pre (Ref.packs (key := 90) (f := fW b _ _ []) () (.keep rfl (fun _ h => h) (.keep rfl (fun _ h => h) (Thin.refl _)))) ?_
  refine CallK_post ?_
  refine CallK_pack2 (key1 := 90) (key2 := 77) rfl rfl (fun w hR h0 => c3 _ _ _ _ _ h0) ?_
  rintro _ _ ⟨rfl, fp1', fp2', rfl⟩
  refine ⟨.v _, rfl, _, Ref.unpackU, ?_⟩
  (repeat' ((conv => whnf); first | refine ⟨.v _, ⟨rfl, trivial⟩, ?_⟩ | (refine bcase_prop (fun h => ?_) (fun h => ?_) <;> try (exfalso; omega)) | (refine bcase_nprop (fun h => ?_) (fun h => ?_) <;> try (exfalso; omega)) | (refine bcase_intro (fun h => ?_) (fun h => ?_) <;> (try simp only [Bool.not_eq_true', Bool.not_eq_false', decide_eq_true_eq, decide_eq_false_iff_not, Bool.not_eq_true, Bool.not_eq_false, Decidable.not_not] at h)) | refine And.intro (by first | omega | exact rfl | assumption | exact ⟨rfl, rfl, rfl, rfl, rfl⟩ | exact ⟨rfl, rfl, rfl, rfl⟩ | exact ⟨rfl, by omega⟩ | exact oneAll_of rfl | exact ⟨rfl, oneAll_of rfl⟩ | exact Ref.refl _ | exact Thin.ref (.skip (Thin.refl _)) | exact Thin.ref (.skip (.skip (Thin.refl _))) | exact ⟨rfl, Nat.le_of_ble_eq_true rfl⟩ | ((try unfold maxLen); (try simp only [List.length_nil, List.length_cons, List.length_append]); omega) | (refine ⟨rfl, ?_⟩; (try simp only [List.length_nil, List.length_cons, List.length_append]); omega)) ?_ | intro _)); (all_goals (conv => whnf))
  exact ⟨endP (by (repeat (first | exact Thin.nil _ | exact Thin.refl _ | refine Thin.keep rfl (fun _ h => h) ?_ | refine Thin.skip ?_))) rfl⟩
end Go.Proofs.Ytagoedllflalpaa
