/- Keys and levels of the rules of a store, by the reference. -/
import Derived.Test.YticiljgbjdcmlaaDoorSKeyF
namespace Go.Proofs.YticiljgbjdcmlaaDoor
open Go.EG
attribute [local irreducible] CallK QCall Go.Calls
set_option linter.unusedSimpArgs false
set_option linter.unusedVariables false
set_option maxRecDepth 20000
set_option maxHeartbeats 2000000

/-- The rules of a store, with an unused element 0. -/
def ruls (E : List Entr) : List Rul := rul0 :: E.map (·.r)
theorem ruls_length (E : List Entr) : (ruls E).length = E.length + 1 := by simp [ruls]
theorem ruls_at {E : List Entr} {i : Nat} (h1 : 1 ≤ i) (h2 : i ≤ E.length) : (ruls E).getD i rul0 = (atE E i).r := by
  obtain ⟨j, rfl⟩ : ∃ j, i = j + 1 := ⟨i - 1, by omega⟩
  rw [show ((j + 1 : Nat) : Int) = (j : Int) + 1 by omega, atE_succ, ruls, List.getD_cons_succ, List.getD_eq_getElem?_getD, List.getD_eq_getElem?_getD, List.getElem?_map]
  have : j < E.length := by omega
  simp [this]

abbrev kvC (x : Nat × Int) : List Value := [.int .u64 x.1, .int .i64 x.2]
def kvsC (l : List (Nat × Int)) : List Value := l.flatMap kvC
theorem kvsC_length : ∀ g : List (Nat × Int), (kvsC g).length = g.length * 2
  | [] => rfl
  | x :: g => by
    have := kvsC_length g
    simp only [kvsC, List.flatMap_cons, List.length_append, List.length_cons, List.length_nil] at this ⊢
    omega
theorem kvsC_at : ∀ {g : List (Nat × Int)} {i : Nat}, i < g.length → ((kvsC g).drop (i * 2)).take 2 = kvC (g.getD i (0, 0))
  | x :: g, 0, _ => by simp [kvsC, kvC]
  | x :: g, i + 1, h => by
    have ih := kvsC_at (g := g) (i := i) (by simpa using h)
    have e1 : kvsC (x :: g) = kvC x ++ kvsC g := by simp [kvsC]
    rw [e1, show (i + 1) * 2 = (kvC x).length + i * 2 by simp [kvC]; omega, ← List.drop_drop, List.drop_left]
    simpa using ih
theorem kvsC_snoc (g : List (Nat × Int)) (x : Nat × Int) : kvsC g ++ kvC x = kvsC (g ++ [x]) := by simp [kvsC]
def kvL (E : List Entr) (n : Nat) : List (Nat × Int) := (List.range n).map fun j : Nat => ((tm E j).key, (tm E j).level)
theorem kvL_length (E : List Entr) (n : Nat) : (kvL E n).length = n := by simp [kvL]
theorem kvL_succ (E : List Entr) (n : Nat) : kvL E (n + 1) = kvL E n ++ [((tm E n).key, (tm E n).level)] := by simp [kvL, List.range_succ]
theorem kvL_at {E : List Entr} {n i : Nat} (h : i < n) : (kvL E n).getD i (0, 0) = ((tm E i).key, (tm E i).level) := by
  simp [kvL, List.getD_eq_getElem?_getD, h]

structure KvG where
  i : Nat
  a : Option Addr
  c : Nat
theorem calls_r20Keys (S : Sto) (hw : WF S) (a : Option Addr) (c : Nat) (w : World) (hin : In w [] a (rulsC (ruls S.E))) : Calls Tryd.prog fn_evergreenref20_Keys #[.slice a (S.E.length + 1) c] w (RetS ty_evergreenref20_Key 2 (S.E.length + 1) (kvsC (kvL S.E (S.E.length + 1))) w) := by
  refine slice_call [.v (.slice a (S.E.length + 1) c)] w ok_evergreenref20_Keys (by simp) ?_
  have hsm := hw.small
  have hne : a ≠ none := hin.ne' (k := 0) (by rw [rulsC_length, ruls_length]; omega)
  (repeat' ((conv => whnf); first | (refine bcase_prop (fun h => ?_) (fun h => ?_) <;> try (exfalso; omega)) | (refine bcase_nprop (fun h => ?_) (fun h => ?_) <;> try (exfalso; omega)) | (refine bcase_intro (fun h => ?_) (fun h => ?_) <;> (try simp only [Bool.not_eq_true', Bool.not_eq_false', decide_eq_true_eq, decide_eq_false_iff_not, Bool.not_eq_true, Bool.not_eq_false, Decidable.not_not] at h)) | refine And.intro (by first | omega | exact rfl | assumption | exact ⟨rfl, rfl, rfl, rfl, rfl⟩ | exact ⟨rfl, rfl, rfl, rfl⟩ | exact ⟨rfl, by omega⟩ | exact oneAll_of rfl | exact ⟨rfl, oneAll_of rfl⟩ | exact Ref.refl _ | exact Thin.ref (.skip (Thin.refl _)) | exact Thin.ref (.skip (.skip (Thin.refl _))) | exact ⟨rfl, Nat.le_of_ble_eq_true rfl⟩ | ((try unfold maxLen); (try simp only [List.length_nil, List.length_cons, List.length_append]); omega) | (refine ⟨rfl, ?_⟩; (try simp only [List.length_nil, List.length_cons, List.length_append]); omega)) ?_ | intro _)); (all_goals (conv => whnf))
  rename_i b10
  refine VC_loop KvG (fun x => [(0, .v (.slice a (S.E.length + 1) c)), (3, .sl 500 x.a x.i x.c), (4, .v (.int .i64 x.i))]) (fun x => [.own 500 x.a x.i x.c ty_evergreenref20_Key 2 (kvsC (kvL S.E x.i))])
    (fun x => 1 ≤ x.i ∧ x.i ≤ S.E.length + 1) (fun x => S.E.length + 1 - x.i) ⟨1, some ⟨b10, 0, none⟩, 1⟩ ⟨Nat.le_refl _, by simp⟩ (by (repeat ((conv => whnf); refine And.intro (by first | exact rfl | exact vint_eq (by omega) | exact vint_eq (by (dsimp only; omega)) | exact vsl_eq (by omega) | exact vsl_eq (by first | (dsimp only; omega) | (simp; done) | (simp; omega))) ?_)); exact trivial) (Thin.ref (.own rfl rfl (.nil _))) ?_
  rintro ⟨i, a3, c3⟩ ⟨h1, h2⟩
  dsimp only at h1 h2 ⊢
  by_cases hlt : i ≤ S.E.length
  case neg =>
    have : i = S.E.length + 1 := by omega
    subst this
    (repeat' ((conv => whnf); first | (refine bcase_prop (fun h => ?_) (fun h => ?_) <;> try (exfalso; omega)) | (refine bcase_nprop (fun h => ?_) (fun h => ?_) <;> try (exfalso; omega)) | (refine bcase_intro (fun h => ?_) (fun h => ?_) <;> (try simp only [Bool.not_eq_true', Bool.not_eq_false', decide_eq_true_eq, decide_eq_false_iff_not, Bool.not_eq_true, Bool.not_eq_false, Decidable.not_not] at h)) | refine And.intro (by first | omega | exact rfl | assumption | exact ⟨rfl, rfl, rfl, rfl, rfl⟩ | exact ⟨rfl, rfl, rfl, rfl⟩ | exact ⟨rfl, by omega⟩ | exact oneAll_of rfl | exact ⟨rfl, oneAll_of rfl⟩ | exact Ref.refl _ | exact Thin.ref (.skip (Thin.refl _)) | exact Thin.ref (.skip (.skip (Thin.refl _))) | exact ⟨rfl, Nat.le_of_ble_eq_true rfl⟩ | ((try unfold maxLen); (try simp only [List.length_nil, List.length_cons, List.length_append]); omega) | (refine ⟨rfl, ?_⟩; (try simp only [List.length_nil, List.length_cons, List.length_append]); omega)) ?_ | intro _)); (all_goals (conv => whnf))
    exact ⟨a3, c3, rfl, Thin.ref (.own rfl rfl (.nil _))⟩
  · have hrul := rulsC_at (g := ruls S.E) (i := i) (by rw [ruls_length]; omega)
    rw [ruls_at h1 hlt] at hrul
    have hr1 := fun {L : List Ent} => hin.rdn (L := L) (vs := ruC (atE S.E i).r) (k := i * 5) (Nat.succ_pos _) hrul
    obtain ⟨hr, hl, htm, _, _⟩ := hw.at_ (n := i) (by omega) (by omega)
    have htim := hw.tim (n := i) (by omega) (by omega)
    have hk0 := kvL_succ S.E i
    have hsn := kvsC_snoc (kvL S.E i) ((tm S.E i).key, (tm S.E i).level)
    rw [← hk0] at hsn
    have la : 0 ≤ (atE S.E i).r.a ∧ (atE S.E i).r.a < i := by rcases hr with h | h | h <;> omega
    have lb : 0 ≤ (atE S.E i).r.b ∧ (atE S.E i).r.b < i := by rcases hr with h | h | h <;> omega
    have va := hw.lev' la.1 (by omega)
    have vb := hw.lev' lb.1 (by omega)
    have ba := (tm S.E (atE S.E i).r.a).key_lt'
    have bb := (tm S.E (atE S.E i).r.b).key_lt'
    have hinj := fun q1 q2 q3 q4 => hw.inj_iff (i := (atE S.E i).r.a) (j := (atE S.E i).r.b) q1 q2 q3 q4
    have rda := kvsC_at (g := kvL S.E i) (i := (atE S.E i).r.a.toNat) (by rw [kvL_length]; omega)
    have rdb := kvsC_at (g := kvL S.E i) (i := (atE S.E i).r.b.toNat) (by rw [kvL_length]; omega)
    rw [kvL_at (by omega), show (((atE S.E i).r.a.toNat : Nat) : Int) = (atE S.E i).r.a by omega] at rda
    rw [kvL_at (by omega), show (((atE S.E i).r.b.toNat : Nat) : Int) = (atE S.E i).r.b by omega] at rdb
    have hnx : 1 ≤ i + 1 ∧ i + 1 ≤ S.E.length + 1 := by omega
    have hmx : i + 1 ≤ maxLen ∧ (i + 1) * 16 ≤ 140737488355328 := ⟨by unfold maxLen; omega, by omega⟩
    rw [htm] at hsn
    unfold mkT at hsn
    generalize (atE S.E i).r = r at *
    simp only [okR] at hr
    generalize tm S.E r.a = ta at *
    generalize tm S.E r.b = tb at *
    rcases hr with ⟨e1, e2, e3, e4, _⟩ | ⟨e1, e2, e3, e4, e5, e6, e7⟩ | ⟨e1, e2, e3, e4, e5, e6⟩
    · rw [if_pos e1] at hsn
      have c1 := calls_rMix 1 r.l.toNat 0 (by decide) (by omega) (by decide)
      have q : r.l % 18446744073709551616 = (r.l.toNat : Int) := by omega
      have hs2 : kvsC (kvL S.E i) ++ [.int .u64 (mixN 1 r.l.toNat 0), .int .i64 0] = kvsC (kvL S.E (i + 1)) := hsn
      clear hsn
      (repeat' ((conv => whnf); first | rw [q] | rw [Int.toNat_natCast] | rw [hs2] | refine ⟨_, rfl, hr1, ?_⟩ | refine ldRow rda ?_ | refine ldRow rdb ?_ | (first | refine CallK_pure (.v _) (fun w hR => c1 w) ?_ | refine QCall_pure (.v _) (fun w hR => c1 w) ?_) | refine stop_and ?_ ?_ | (refine bcase_prop (fun h => ?_) (fun h => ?_) <;> try (exfalso; omega)) | (refine bcase_nprop (fun h => ?_) (fun h => ?_) <;> try (exfalso; omega)) | (refine bcase_intro (fun h => ?_) (fun h => ?_) <;> (try simp only [Bool.not_eq_true', Bool.not_eq_false', decide_eq_true_eq, decide_eq_false_iff_not, Bool.not_eq_true, Bool.not_eq_false, Decidable.not_not] at h)) | refine And.intro (by first | omega | exact rfl | assumption | exact ⟨rfl, rfl, rfl, rfl, rfl⟩ | exact ⟨rfl, rfl, rfl, rfl⟩ | exact ⟨rfl, by omega⟩ | exact oneAll_of rfl | exact ⟨rfl, oneAll_of rfl⟩ | exact Ref.refl _ | exact Thin.ref (.skip (Thin.refl _)) | exact Thin.ref (.skip (.skip (Thin.refl _))) | exact hne | (intro _; exact Thin.ref (by (repeat (first | exact Thin.nil _ | exact Thin.refl _ | refine Thin.keep rfl (fun _ h => h) ?_ | refine Thin.skip ?_)))) | exact ⟨rfl, Nat.le_of_ble_eq_true rfl⟩ | ((try unfold maxLen); (try simp only [List.length_nil, List.length_cons, List.length_append]); omega) | (refine ⟨rfl, ?_⟩; (try simp only [List.length_nil, List.length_cons, List.length_append]); omega)) ?_ | intro _)); (all_goals (conv => whnf))
      all_goals (rename_i a' c'; refine loop_next ⟨i + 1, a', c'⟩ hnx (by ((try dsimp only); omega)) (by (repeat ((conv => whnf); refine And.intro (by first | exact rfl | exact vint_eq (by omega) | exact vint_eq (by (dsimp only; omega)) | exact vsl_eq (by omega) | exact vsl_eq (by first | (dsimp only; omega) | (simp; done) | (simp; omega))) ?_)); exact trivial) (Thin.ref (.skip (.skip (.skip (.skip (.skip (.own rfl rfl (.nil _)))))))))
    · rw [if_neg (by omega), if_pos e1] at hsn
      have c1 := calls_rMix 2 ta.key tb.key (by decide) ba bb
      have hlv : (Tm.pr ta tb).level = if ta ≠ tb ∧ 0 ≤ ta.level ∧ 0 ≤ tb.level then afterF (max ta.level tb.level) ta.key tb.key else -1 := rfl
      have hky : (Tm.pr ta tb).key = mixN 2 ta.key tb.key := rfl
      rw [hlv, hky] at hsn
      clear hlv hky
      have hi := hinj e4 (by omega) e6 (by omega)
      have c2 := fun (h1 : 0 ≤ ta.level) (h2 : 0 ≤ tb.level) => calls_rAfter (max ta.level tb.level) ta.key tb.key (by omega) (by omega) ba bb
      generalize ta.level = va' at *
      generalize tb.level = vb' at *
      have hs1 : r.a ≠ r.b → 0 ≤ va' → 0 ≤ vb' → kvsC (kvL S.E i) ++ [.int .u64 (mixN 2 ta.key tb.key), .int .i64 (afterF (max va' vb') ta.key tb.key)] = kvsC (kvL S.E (i + 1)) := fun q1 q2 q3 => by
        rw [if_pos ⟨fun h => q1 (hi.1 h), q2, q3⟩] at hsn; exact hsn
      have hs2 : ¬ (r.a ≠ r.b ∧ 0 ≤ va' ∧ 0 ≤ vb') → kvsC (kvL S.E i) ++ [.int .u64 (mixN 2 ta.key tb.key), .int .i64 (-1)] = kvsC (kvL S.E (i + 1)) := fun q1 => by
        rw [if_neg (fun h => q1 ⟨fun h' => h.1 (hi.2 h'), h.2⟩)] at hsn; exact hsn
      clear hsn
      (repeat' ((conv => whnf); first | rw [Int.toNat_natCast] | rw [hs1 (by omega) (by omega) (by omega)] | rw [hs2 (by omega)] | refine ⟨_, rfl, hr1, ?_⟩ | refine ldRow rda ?_ | refine ldRow rdb ?_ | (first | refine CallK_pure (.v _) (fun w hR => c1 w) ?_ | refine QCall_pure (.v _) (fun w hR => c1 w) ?_) | (refine CallK_pure (.v _) (fun w hR => c2 (by omega) (by omega) w) ?_) | refine stop_and ?_ ?_ | (refine bcase_prop (fun h => ?_) (fun h => ?_) <;> try (exfalso; omega)) | (refine bcase_nprop (fun h => ?_) (fun h => ?_) <;> try (exfalso; omega)) | (refine bcase_intro (fun h => ?_) (fun h => ?_) <;> (try simp only [Bool.not_eq_true', Bool.not_eq_false', decide_eq_true_eq, decide_eq_false_iff_not, Bool.not_eq_true, Bool.not_eq_false, Decidable.not_not] at h)) | refine And.intro (by first | omega | exact rfl | assumption | exact ⟨rfl, rfl, rfl, rfl, rfl⟩ | exact ⟨rfl, rfl, rfl, rfl⟩ | exact ⟨rfl, by omega⟩ | exact oneAll_of rfl | exact ⟨rfl, oneAll_of rfl⟩ | exact Ref.refl _ | exact Thin.ref (.skip (Thin.refl _)) | exact Thin.ref (.skip (.skip (Thin.refl _))) | exact hne | (intro _; exact Thin.ref (by (repeat (first | exact Thin.nil _ | exact Thin.refl _ | refine Thin.keep rfl (fun _ h => h) ?_ | refine Thin.skip ?_)))) | exact ⟨rfl, Nat.le_of_ble_eq_true rfl⟩ | ((try unfold maxLen); (try simp only [List.length_nil, List.length_cons, List.length_append]); omega) | (refine ⟨rfl, ?_⟩; (try simp only [List.length_nil, List.length_cons, List.length_append]); omega)) ?_ | intro _)); (all_goals (conv => whnf))
      all_goals (rename_i a' c'; refine loop_next ⟨i + 1, a', c'⟩ hnx (by ((try dsimp only); omega)) (by (repeat ((conv => whnf); refine And.intro (by first | exact rfl | exact vint_eq (by omega) | exact vint_eq (by (dsimp only; omega)) | exact vsl_eq (by omega) | exact vsl_eq (by first | (dsimp only; omega) | (simp; done) | (simp; omega))) ?_)); exact trivial) (Thin.ref (.skip (.skip (.skip (.skip (.skip (.own rfl rfl (.nil _)))))))))
    · rw [if_neg (by omega), if_neg (by omega)] at hsn
      have c1 := calls_rMix 3 ta.key r.t.toNat (by decide) ba (by omega)
      have q : r.t % 18446744073709551616 = (r.t.toNat : Int) := by omega
      have hlv : (Tm.pw ta r.t.toNat).level = if 0 ≤ ta.level ∧ ta.level % 2 = 0 then ta.level + 1 else -1 := rfl
      have hky : (Tm.pw ta r.t.toNat).key = mixN 3 ta.key r.t.toNat := rfl
      rw [hlv, hky] at hsn
      clear hlv hky
      generalize ta.level = va' at *
      have hs1 : 0 ≤ va' → va' % 2 = 0 → kvsC (kvL S.E i) ++ [.int .u64 (mixN 3 ta.key r.t.toNat), .int .i64 (va' + 1)] = kvsC (kvL S.E (i + 1)) := fun q1 q2 => by
        rw [if_pos ⟨q1, q2⟩] at hsn; exact hsn
      have hs2 : ¬ (0 ≤ va' ∧ va' % 2 = 0) → kvsC (kvL S.E i) ++ [.int .u64 (mixN 3 ta.key r.t.toNat), .int .i64 (-1)] = kvsC (kvL S.E (i + 1)) := fun q1 => by
        rw [if_neg q1] at hsn; exact hsn
      clear hsn
      (repeat' ((conv => whnf); first | rw [q] | rw [Int.toNat_natCast] | rw [hs1 (by omega) (by omega)] | rw [hs2 (by omega)] | refine ⟨_, rfl, hr1, ?_⟩ | refine ldRow rda ?_ | refine ldRow rdb ?_ | (first | refine CallK_pure (.v _) (fun w hR => c1 w) ?_ | refine QCall_pure (.v _) (fun w hR => c1 w) ?_) | refine stop_and ?_ ?_ | (refine bcase_prop (fun h => ?_) (fun h => ?_) <;> try (exfalso; omega)) | (refine bcase_nprop (fun h => ?_) (fun h => ?_) <;> try (exfalso; omega)) | (refine bcase_intro (fun h => ?_) (fun h => ?_) <;> (try simp only [Bool.not_eq_true', Bool.not_eq_false', decide_eq_true_eq, decide_eq_false_iff_not, Bool.not_eq_true, Bool.not_eq_false, Decidable.not_not] at h)) | refine And.intro (by first | omega | exact rfl | assumption | exact ⟨rfl, rfl, rfl, rfl, rfl⟩ | exact ⟨rfl, rfl, rfl, rfl⟩ | exact ⟨rfl, by omega⟩ | exact oneAll_of rfl | exact ⟨rfl, oneAll_of rfl⟩ | exact Ref.refl _ | exact Thin.ref (.skip (Thin.refl _)) | exact Thin.ref (.skip (.skip (Thin.refl _))) | exact hne | (intro _; exact Thin.ref (by (repeat (first | exact Thin.nil _ | exact Thin.refl _ | refine Thin.keep rfl (fun _ h => h) ?_ | refine Thin.skip ?_)))) | exact ⟨rfl, Nat.le_of_ble_eq_true rfl⟩ | ((try unfold maxLen); (try simp only [List.length_nil, List.length_cons, List.length_append]); omega) | (refine ⟨rfl, ?_⟩; (try simp only [List.length_nil, List.length_cons, List.length_append]); omega)) ?_ | intro _)); (all_goals (conv => whnf))
      all_goals (rename_i a' c'; refine loop_next ⟨i + 1, a', c'⟩ hnx (by ((try dsimp only); omega)) (by (repeat ((conv => whnf); refine And.intro (by first | exact rfl | exact vint_eq (by omega) | exact vint_eq (by (dsimp only; omega)) | exact vsl_eq (by omega) | exact vsl_eq (by first | (dsimp only; omega) | (simp; done) | (simp; omega))) ?_)); exact trivial) (Thin.ref (.skip (.skip (.skip (.skip (.skip (.own rfl rfl (.nil _)))))))))
end Go.Proofs.YticiljgbjdcmlaaDoor
