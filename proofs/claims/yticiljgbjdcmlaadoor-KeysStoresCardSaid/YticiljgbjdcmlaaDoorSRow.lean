/- The table of keys: a row is looked up, and computed if it is not known. -/
import Derived.Test.YticiljgbjdcmlaaDoorSKeys
namespace Go.Proofs.YticiljgbjdcmlaaDoor
open Go.EG
attribute [local irreducible] CallK QCall Go.Calls
set_option linter.unusedSimpArgs false
set_option linter.unusedVariables false
set_option maxRecDepth 20000
set_option maxHeartbeats 1000000

theorem WF.tim {S : Sto} (h : WF S) {n : Int} (h1 : 1 ≤ n) (h2 : n ≤ S.E.length) : (atE S.E n).r.t ≤ 9223372036854775807 := by
  obtain ⟨hr, _, ht, hl, _⟩ := h.at_ h1 h2
  rcases hr with hr | ⟨e1, e2, e3, e4, e5, e6, e7⟩ | ⟨e1, e2, e3, e4, e5, e6⟩
  · omega
  · omega
  · rw [ht] at hl
    unfold mkT at hl
    rw [if_neg (by omega), if_neg (by omega)] at hl
    unfold Tm.len at hl
    rw [Tm.txt, len_rep] at hl
    have hp := h.pos1 e5 (by omega)
    unfold Tm.len at hp
    have : (atE S.E n).r.t.toNat ≤ LM := Nat.le_trans (Nat.le_mul_of_pos_right _ hp) hl
    unfold LM at this
    omega

/-! ### The stack -/

theorem stk_len : ∀ (st : List Int) (id : Int), 0 ≤ id → st.Pairwise (fun a b => b < a) → (∀ x ∈ st, 1 ≤ x ∧ x ≤ id) → (st.length : Int) ≤ id
  | [], id, h, _, _ => by simpa using h
  | y :: st, id, h, hp, hx => by
    obtain ⟨h1, h2⟩ := List.pairwise_cons.1 hp
    have hy := hx y List.mem_cons_self
    have := stk_len st (y - 1) (by omega) h2 (fun z hz => ⟨(hx z (List.mem_cons_of_mem _ hz)).1, by have := h1 z hz; omega⟩)
    rw [List.length_cons]; omega

structure StkI (rows : List Krow) (id : Int) (st : List Int) : Prop where
  pos : ∀ x ∈ st, 1 ≤ x ∧ x ≤ id
  unk : ∀ x ∈ st, rows.getD x.toNat row0 = row0
  dec : st.Pairwise (fun a b => b < a)
  bot : (rows.getD id.toNat row0).2.2 = true ∨ ∃ t, st = id :: t
theorem StkI.len {rows : List Krow} {id : Int} {st : List Int} (h : StkI rows id st) (h0 : 0 ≤ id) : (st.length : Int) ≤ id := stk_len st id h0 h.dec h.pos
theorem TI.known {E : List Entr} {rows : List Krow} (h : TI E rows) {i : Int} (h0 : 0 ≤ i) (hl : i < rows.length) (hk : (rows.getD i.toNat row0).2.2 = true) : rows.getD i.toNat row0 = rowT (tm E i) := by
  rcases h.2 i.toNat (by omega) with h | h
  · rw [h] at hk; cases hk
  · rw [h.2, show ((i.toNat : Nat) : Int) = i by omega]
theorem TI.unknown {E : List Entr} {rows : List Krow} (h : TI E rows) {i : Int} (h0 : 0 ≤ i) (hl : i < rows.length) (hk : (rows.getD i.toNat row0).2.2 = false) : rows.getD i.toNat row0 = row0 := by
  rcases h.2 i.toNat (by omega) with h | h
  · exact h
  · rw [h.2] at hk; cases hk
theorem StkI.push {rows : List Krow} {id : Int} {s : List Int} {x y : Int} (h : StkI rows id (s ++ [x])) (h1 : 1 ≤ y) (h2 : y < x) (hu : rows.getD y.toNat row0 = row0) : StkI rows id ((s ++ [x]) ++ [y]) := by
  have hx := h.pos x (by simp)
  refine ⟨fun z hz => ?_, fun z hz => ?_, ?_, ?_⟩
  · rcases List.mem_append.1 hz with hz | hz
    · exact h.pos z hz
    · have : z = y := by simpa using hz
      omega
  · rcases List.mem_append.1 hz with hz | hz
    · exact h.unk z hz
    · have : z = y := by simpa using hz
      rw [this]; exact hu
  · refine List.pairwise_append.2 ⟨h.dec, by simp, fun a ha b hb => ?_⟩
    have hb' : b = y := by simpa using hb
    subst hb'
    rcases List.mem_append.1 ha with ha | ha
    · have := (List.pairwise_append.1 h.dec).2.2 a ha x (by simp)
      omega
    · have : a = x := by simpa using ha
      omega
  · rcases h.bot with hb | ⟨t, ht⟩
    · exact .inl hb
    · exact .inr ⟨t ++ [y], by rw [ht]; rfl⟩
theorem StkI.pop {rows : List Krow} {id : Int} {s : List Int} {x : Int} {m : Tm} (h : StkI rows id (s ++ [x])) (hl : x.toNat < rows.length) : StkI (rows.set x.toNat (rowT m)) id s := by
  have hx := h.pos x (by simp)
  have hs := List.pairwise_append.1 h.dec
  refine ⟨fun z hz => h.pos z (List.mem_append_left _ hz), fun z hz => ?_, hs.1, ?_⟩
  · have h1 := hs.2.2 z hz x (by simp)
    have h2 := h.pos z (List.mem_append_left _ hz)
    rw [getD_set hl, if_neg (by omega)]
    exact h.unk z (List.mem_append_left _ hz)
  · by_cases hid : id = x
    · left
      subst hid
      rw [getD_set hl, if_pos rfl]; rfl
    · rcases h.bot with hb | ⟨t, ht⟩
      · left
        rw [getD_set hl, if_neg (by omega)]; exact hb
      · right
        cases s with
        | nil => simp at ht; omega
        | cons z s => simp at ht; exact ⟨s, by rw [ht.1]⟩

/-! ### The walk -/

/-- A call upon a table and its store. -/
def retT (k1 k2 bt bs : Nat) (S : Sto) (r v : Value) (L1 : List Ent) : Prop := v = r ∧ ∃ fp1 fp2, L1 = [packE k1 fp1 (fT bt bs S.E), packE k2 fp2 (fS bs S)]
def TC (f : Nat) (args : Array Value) (bt bs : Nat) (S : Sto) (r : Value) : Prop :=
  ∀ (k1 k2 : Nat) (fp1 fp2 : List Nat) (w : World), R w (fp1 ++ fp2) [packE k1 fp1 (fT bt bs S.E), packE k2 fp2 (fS bs S)] w → TabF w (fp1 ++ fp2) → Calls Tryd.prog f args w fun e w' => ∃ v L1, e = .returned v ∧ R w (fp1 ++ fp2) L1 w' ∧ retT k1 k2 bt bs S r v L1
theorem endT {k1 k2 k' bt bs : Nat} {fp' : List Nat} {S : Sto} {r v : Value} {w0 : World} {fp0 : List Nat} {L : List Ent} (x : TabG S.E) (h : Thin L (packE k' fp' (fS bs S) :: fT bt bs S.E x)) (hv : v = r) : ∃ L1, Ref w0 fp0 L L1 ∧ retT k1 k2 bt bs S r v L1 := by
  refine ⟨_, h.ref.trans ((Ref.perm (List.perm_append_comm (l₁ := [_]) (l₂ := fT bt bs S.E x))).trans (Ref.packs (key := k1) x ?_)), hv, _, fp', rfl⟩
  obtain ⟨rows, ok, a, c⟩ := x
  exact .keep rfl (fun _ h => h) (.keep rfl (fun _ h => h) (.keep rfl (fun _ h => h) (.nil _)))

theorem endT0 {k1 k2 k' bt bs : Nat} {fp' : List Nat} {S : Sto} {r v : Value} {w0 : World} {fp0 : List Nat} {L : List Ent} {x : TabG S.E} (h : Thin L (fT bt bs S.E x ++ [packE k' fp' (fS bs S)])) (hv : v = r) : ∃ L1, Ref w0 fp0 L L1 ∧ retT k1 k2 bt bs S r v L1 := by
  refine ⟨_, h.ref.trans (Ref.packs (key := k1) (Lr := [packE k2 fp' (fS bs S)]) x ?_), hv, _, fp', rfl⟩
  obtain ⟨rows, ok, a, c⟩ := x
  exact .keep rfl (fun _ h => h) (.keep rfl (fun _ h => h) (.keep rfl (fun _ h => h) (.nil _)))

def rowRes (S : Sto) (id : Int) : Value := if 1 ≤ id ∧ id ≤ S.E.length then .tuple #[.agg (krC (rowT (tm S.E id))).toArray, .nilIface] else .tuple #[.agg (krC row0).toArray, errV 1]

structure RowA (E : List Entr) where
  x : TabG E
  fp : List Nat
structure RowG (E : List Entr) where
  x : TabG E
  fp : List Nat
  st : List Int
  a6 : Option Addr
  c6 : Nat
abbrev zer3 : List Value := [.int .u64 0, .int .i64 0, .bool false]

abbrev rowE (bt b4 : Nat) (i : Int) (E : List Entr) (x : RowG E) : Env := [(0, .ptr 2000 bt 0), (1, .v (.int .i64 i)), (4, .ptr 4 b4 0), (6, .sl 500 x.a6 x.st.length x.c6)]
abbrev rowH (bt b4 bs : Nat) (S : Sto) (x : RowG S.E) : List Ent := [.own 500 x.a6 x.st.length x.c6 ty_api_ID 1 (ints .i64 x.st), packE 77 x.fp (fS bs S), .box 4 b4 zer3 ty_keys_row, .box 2000 bt [pS bs, .slice x.x.a x.x.rows.length x.x.c] ty_keys_Table, .own 2001 x.x.a x.x.rows.length x.x.c ty_keys_row 3 (krsC x.x.rows)]
def rowMu (i : Nat) (E : List Entr) (x : RowG E) : Nat := unk x.x.rows * (i + 2) + (x.st.getLastD 0).toNat
theorem ints_last {s : List Int} {x : Int} : (ints .i64 (s ++ [x]))[s.length]? = some (.int .i64 x) := by simp [ints]
theorem ints_take {s : List Int} {x : Int} : (ints .i64 (s ++ [x])).take s.length = ints .i64 s := by simp [ints]

theorem calls_row (bt bs : Nat) (S : Sto) (hw : WF S) (id : Int) : TC fn_P_keys_Table_row #[pS bt, .int .i64 id] bt bs S (rowRes S id) := by
  intro k1 k2 fp1 fp2 w hR hG
  have hR : R w (fp1 ++ fp2) [packE 78 fp1 (fT bt bs S.E), packE 77 fp2 (fS bs S)] w := (Thin.packE (Thin.packE (.nil []))).ref w hR
  obtain ⟨⟨rows, ok, a, c⟩, hfp, hR'⟩ := hR.unpack
  rw [fT_eq] at hR' hfp
  refine (calls_ir [.ptr 2000 bt 0, .v (.int .i64 id)] ok_P_keys_Table_row (by simp) hR' (K := fun v L' => ∃ L1, Ref w (fp1 ++ fp2) L' L1 ∧ retT k1 k2 bt bs S (rowRes S id) v L1) ?_).mono fun e w' ⟨v, L', he, hR2, L1, href, hq⟩ => ⟨v, L1, he, href w' hR2, hq⟩
  have hsm := hw.small
  have c1 := calls_sLen bs S
  by_cases hid : 1 ≤ id ∧ id ≤ S.E.length
  · have hres : rowRes S id = .tuple #[.agg (krC (rowT (tm S.E id))).toArray, .nilIface] := if_pos hid
    rw [hres]
    obtain ⟨i, rfl⟩ : ∃ i : Nat, id = i := ⟨id.toNat, by omega⟩
    have hz3 := fun m : Nat => krsC_zeros rows m
    (repeat' ((conv => whnf); first | (refine CallK_pack (key := 77) rfl (fun w hR h0 => c1 _ _ _ h0) ?_; rintro _ _ ⟨rfl, fp', rfl⟩; refine ⟨.v _, rfl, ?_⟩) | refine ⟨_, ⟨rfl, trivial⟩, ?_⟩ | (refine bcase_prop (fun h => ?_) (fun h => ?_) <;> try (exfalso; omega)) | (refine bcase_nprop (fun h => ?_) (fun h => ?_) <;> try (exfalso; omega)) | (refine bcase_intro (fun h => ?_) (fun h => ?_) <;> (try simp only [Bool.not_eq_true', Bool.not_eq_false', decide_eq_true_eq, decide_eq_false_iff_not, Bool.not_eq_true, Bool.not_eq_false, Decidable.not_not] at h)) | refine And.intro (by first | omega | exact rfl | assumption | exact ⟨rfl, rfl, rfl, rfl, rfl⟩ | exact ⟨rfl, rfl, rfl, rfl⟩ | exact ⟨rfl, by omega⟩ | exact oneAll_of rfl | exact ⟨rfl, oneAll_of rfl⟩ | exact Ref.refl _ | exact Thin.ref (.skip (Thin.refl _)) | exact Thin.ref (.skip (.skip (Thin.refl _))) | exact ⟨rfl, Nat.le_of_ble_eq_true rfl⟩ | ((try unfold maxLen); (try simp only [List.length_nil, List.length_cons, List.length_append]); omega) | (refine ⟨rfl, ?_⟩; (try simp only [List.length_nil, List.length_cons, List.length_append]); omega)) ?_ | intro _)); (all_goals (conv => whnf))
    rename_i b4 _
    refine VC_cut (RowA S.E) (fun x => [(0, .ptr 2000 bt 0), (1, .v (.int .i64 i)), (4, .ptr 4 b4 0)]) (fun x => [packE 77 x.fp (fS bs S), .box 4 b4 zer3 ty_keys_row, .box 2000 bt [pS bs, .slice x.x.a x.x.rows.length x.x.c] ty_keys_Table, .own 2001 x.x.a x.x.rows.length x.x.c ty_keys_row 3 (krsC x.x.rows)]) (fun x => i < x.x.rows.length) ?_ ?_
    · have hq : ((i : Int) + 1 - (rows.length : Int)).toNat = i + 1 - rows.length := by omega
      have hz := hz3 (i + 1 - rows.length)
      (repeat' ((conv => whnf); first | rw [hq] | rw [hz] | refine ⟨.sl 2001 _ _ _, ⟨rfl, rfl, rfl, rfl⟩, ?_⟩ | (refine bcase_prop (fun h => ?_) (fun h => ?_) <;> try (exfalso; omega)) | (refine bcase_nprop (fun h => ?_) (fun h => ?_) <;> try (exfalso; omega)) | (refine bcase_intro (fun h => ?_) (fun h => ?_) <;> (try simp only [Bool.not_eq_true', Bool.not_eq_false', decide_eq_true_eq, decide_eq_false_iff_not, Bool.not_eq_true, Bool.not_eq_false, Decidable.not_not] at h)) | refine And.intro (by first | omega | exact rfl | assumption | exact ⟨rfl, rfl, rfl, rfl, rfl⟩ | exact ⟨rfl, rfl, rfl, rfl⟩ | exact ⟨rfl, by omega⟩ | exact oneAll_of rfl | exact ⟨rfl, oneAll_of rfl⟩ | exact Ref.refl _ | exact Thin.ref (.skip (Thin.refl _)) | exact Thin.ref (.skip (.skip (Thin.refl _))) | exact ⟨by omega, oneAll_of rfl⟩ | exact ⟨by unfold maxLen; omega, by omega⟩ | exact ⟨rfl, Nat.le_of_ble_eq_true rfl⟩ | ((try unfold maxLen); (try simp only [List.length_nil, List.length_cons, List.length_append]); omega) | (refine ⟨rfl, ?_⟩; (try simp only [List.length_nil, List.length_cons, List.length_append]); omega)) ?_ | intro _)); (all_goals (conv => whnf))
      · rename_i a' c'
        refine cut_next ⟨⟨rows ++ List.replicate (i + 1 - rows.length) row0, ok.zeros (by omega), a', c'⟩, fp'⟩ (by simp; omega) (by (repeat ((conv => whnf); refine And.intro (by first | exact rfl | exact vint_eq (by omega) | exact vint_eq (by (dsimp only; omega)) | exact vsl_eq (by omega) | exact vsl_eq (by first | (dsimp only; omega) | (simp; done) | (simp; omega))) ?_)); exact trivial) (Thin.ref ?_)
        refine .keep rfl (fun _ h => h) (.keep rfl (fun _ h => h) (.box ?_ (.own ?_ rfl (.nil _))))
        · simp
        · simp
      · refine cut_next ⟨⟨rows, ok, a, c⟩, fp'⟩ (show i < rows.length by omega) (by (repeat ((conv => whnf); refine And.intro (by first | exact rfl | exact vint_eq (by omega) | exact vint_eq (by (dsimp only; omega)) | exact vsl_eq (by omega) | exact vsl_eq (by first | (dsimp only; omega) | (simp; done) | (simp; omega))) ?_)); exact trivial) (Thin.ref (by (repeat (first | exact Thin.nil _ | exact Thin.refl _ | refine Thin.keep rfl (fun _ h => h) ?_ | refine Thin.skip ?_))))
    · rintro ⟨⟨rows, ok, a, c⟩, fp2'⟩ hlt
      dsimp only at hlt ⊢
      have hkn : (krsC rows)[i * 3 + 2]? = some (.bool (rows.getD i row0).2.2) := krsC_known hlt
      (repeat' ((conv => whnf); first | rw [Int.toNat_natCast] | refine ⟨.sl 2001 _ _ _, ⟨rfl, rfl, rfl, rfl⟩, ?_⟩ | refine ldCell hkn ?_ | (refine bcase_prop (fun h => ?_) (fun h => ?_) <;> try (exfalso; omega)) | (refine bcase_nprop (fun h => ?_) (fun h => ?_) <;> try (exfalso; omega)) | (refine bcase_intro (fun h => ?_) (fun h => ?_) <;> (try simp only [Bool.not_eq_true', Bool.not_eq_false', decide_eq_true_eq, decide_eq_false_iff_not, Bool.not_eq_true, Bool.not_eq_false, Decidable.not_not] at h)) | refine And.intro (by first | omega | exact rfl | assumption | exact ⟨rfl, rfl, rfl, rfl, rfl⟩ | exact ⟨rfl, rfl, rfl, rfl⟩ | exact ⟨rfl, by omega⟩ | exact oneAll_of rfl | exact ⟨rfl, oneAll_of rfl⟩ | exact Ref.refl _ | exact Thin.ref (.skip (Thin.refl _)) | exact Thin.ref (.skip (.skip (Thin.refl _))) | exact ⟨rfl, Nat.le_of_ble_eq_true rfl⟩ | ((try unfold maxLen); (try simp only [List.length_nil, List.length_cons, List.length_append]); omega) | (refine ⟨rfl, ?_⟩; (try simp only [List.length_nil, List.length_cons, List.length_append]); omega)) ?_ | intro _)); (all_goals (conv => whnf))
      refine VC_cut (RowG S.E) (rowE bt b4 i S.E) (rowH bt b4 bs S) (fun x => i < x.x.rows.length ∧ StkI x.x.rows i x.st) ?_ ?_
      · (repeat' ((conv => whnf); first | rw [Int.toNat_natCast] | refine ⟨.sl 2001 _ _ _, ⟨rfl, rfl, rfl, rfl⟩, ?_⟩ | refine ldCell hkn ?_ | (refine bcase_prop (fun h => ?_) (fun h => ?_) <;> try (exfalso; omega)) | (refine bcase_nprop (fun h => ?_) (fun h => ?_) <;> try (exfalso; omega)) | (refine bcase_intro (fun h => ?_) (fun h => ?_) <;> (try simp only [Bool.not_eq_true', Bool.not_eq_false', decide_eq_true_eq, decide_eq_false_iff_not, Bool.not_eq_true, Bool.not_eq_false, Decidable.not_not] at h)) | refine And.intro (by first | omega | exact rfl | assumption | exact ⟨rfl, rfl, rfl, rfl, rfl⟩ | exact ⟨rfl, rfl, rfl, rfl⟩ | exact ⟨rfl, by omega⟩ | exact oneAll_of rfl | exact ⟨rfl, oneAll_of rfl⟩ | exact Ref.refl _ | exact Thin.ref (.skip (Thin.refl _)) | exact Thin.ref (.skip (.skip (Thin.refl _))) | exact ⟨rfl, Nat.le_of_ble_eq_true rfl⟩ | ((try unfold maxLen); (try simp only [List.length_nil, List.length_cons, List.length_append]); omega) | (refine ⟨rfl, ?_⟩; (try simp only [List.length_nil, List.length_cons, List.length_append]); omega)) ?_ | intro _)); (all_goals (conv => whnf))
        · rename_i a' c'
          refine cut_next ⟨⟨rows, ok, a, c⟩, fp2', [(i : Int)], a', c'⟩ ⟨hlt, ?_⟩ (by (repeat ((conv => whnf); refine And.intro (by first | exact rfl | exact vint_eq (by omega) | exact vint_eq (by (dsimp only; omega)) | exact vsl_eq (by omega) | exact vsl_eq (by first | (dsimp only; omega) | (simp; done) | (simp; omega))) ?_)); exact trivial) (Thin.ref ?_)
          · refine ⟨by simp; omega, by simp; exact ok.unknown (i := i) (by omega) (by omega) (by simpa using h), by simp, .inr ⟨[], rfl⟩⟩
          · exact .own rfl rfl (.skip (by (repeat (first | exact Thin.nil _ | exact Thin.refl _ | refine Thin.keep rfl (fun _ h => h) ?_ | refine Thin.skip ?_))))
        · refine cut_next ⟨⟨rows, ok, a, c⟩, fp2', [], none, 0⟩ ⟨hlt, ?_⟩ (by (repeat ((conv => whnf); refine And.intro (by first | exact rfl | exact vint_eq (by omega) | exact vint_eq (by (dsimp only; omega)) | exact vsl_eq (by omega) | exact vsl_eq (by first | (dsimp only; omega) | (simp; done) | (simp; omega))) ?_)); exact trivial) ((Thin.ref (by (repeat (first | exact Thin.nil _ | exact Thin.refl _ | refine Thin.keep rfl (fun _ h => h) ?_ | refine Thin.skip ?_)))).trans (Ref.ownNil 500 _ 1))
          exact ⟨by simp, by simp, by simp, .inl (by simpa using h)⟩
      · clear hkn
        rintro ⟨⟨rows, ok, a, c⟩, fpx, st, a6, c6⟩ ⟨hlt, hst⟩
        (repeat' ((conv => whnf); first | (refine bcase_prop (fun h => ?_) (fun h => ?_) <;> try (exfalso; omega)) | (refine bcase_nprop (fun h => ?_) (fun h => ?_) <;> try (exfalso; omega)) | (refine bcase_intro (fun h => ?_) (fun h => ?_) <;> (try simp only [Bool.not_eq_true', Bool.not_eq_false', decide_eq_true_eq, decide_eq_false_iff_not, Bool.not_eq_true, Bool.not_eq_false, Decidable.not_not] at h)) | refine And.intro (by first | omega | exact rfl | assumption | exact ⟨rfl, rfl, rfl, rfl, rfl⟩ | exact ⟨rfl, rfl, rfl, rfl⟩ | exact ⟨rfl, by omega⟩ | exact oneAll_of rfl | exact ⟨rfl, oneAll_of rfl⟩ | exact Ref.refl _ | exact Thin.ref (.skip (Thin.refl _)) | exact Thin.ref (.skip (.skip (Thin.refl _))) | exact ⟨rfl, Nat.le_of_ble_eq_true rfl⟩ | ((try unfold maxLen); (try simp only [List.length_nil, List.length_cons, List.length_append]); omega) | (refine ⟨rfl, ?_⟩; (try simp only [List.length_nil, List.length_cons, List.length_append]); omega)) ?_ | intro _)); (all_goals (conv => whnf))
        refine VC_loop (RowG S.E) (rowE bt b4 i S.E) (rowH bt b4 bs S) (fun x => i < x.x.rows.length ∧ StkI x.x.rows i x.st) (rowMu i S.E) ⟨⟨rows, ok, a, c⟩, fpx, st, a6, c6⟩ ⟨hlt, hst⟩ (by (repeat ((conv => whnf); refine And.intro (by first | exact rfl | exact vint_eq (by omega) | exact vint_eq (by (dsimp only; omega)) | exact vsl_eq (by omega) | exact vsl_eq (by first | (dsimp only; omega) | (simp; done) | (simp; omega))) ?_)); exact trivial) (Ref.refl _) ?_
        clear hlt hst
        rintro ⟨⟨rows, ok, a, c⟩, fpx, st, a6, c6⟩ ⟨hlt, hst⟩
        dsimp only [rowE, rowH] at hlt hst ⊢
        rcases List.eq_nil_or_concat st with rfl | ⟨s, x, rfl⟩
        · have hkn : (rows.getD i row0).2.2 = true := by
            rcases hst.bot with h | ⟨t, ht⟩
            · simpa using h
            · cases ht
          have hrow := krsC_at hlt
          rw [show rows.getD i row0 = rowT (tm S.E i) from ok.known (i := i) (by omega) (by omega) (by simpa using hkn)] at hrow
          (repeat' ((conv => whnf); first | rw [Int.toNat_natCast] | refine ⟨.sl 2001 _ _ _, ⟨rfl, rfl, rfl, rfl⟩, ?_⟩ | refine ldRow hrow ?_ | (refine bcase_prop (fun h => ?_) (fun h => ?_) <;> try (exfalso; omega)) | (refine bcase_nprop (fun h => ?_) (fun h => ?_) <;> try (exfalso; omega)) | (refine bcase_intro (fun h => ?_) (fun h => ?_) <;> (try simp only [Bool.not_eq_true', Bool.not_eq_false', decide_eq_true_eq, decide_eq_false_iff_not, Bool.not_eq_true, Bool.not_eq_false, Decidable.not_not] at h)) | refine And.intro (by first | omega | exact rfl | assumption | exact ⟨rfl, rfl, rfl, rfl, rfl⟩ | exact ⟨rfl, rfl, rfl, rfl⟩ | exact ⟨rfl, by omega⟩ | exact oneAll_of rfl | exact ⟨rfl, oneAll_of rfl⟩ | exact Ref.refl _ | exact Thin.ref (.skip (Thin.refl _)) | exact Thin.ref (.skip (.skip (Thin.refl _))) | exact ⟨rfl, Nat.le_of_ble_eq_true rfl⟩ | ((try unfold maxLen); (try simp only [List.length_nil, List.length_cons, List.length_append]); omega) | (refine ⟨rfl, ?_⟩; (try simp only [List.length_nil, List.length_cons, List.length_append]); omega)) ?_ | intro _)); (all_goals (conv => whnf))
          exact ⟨endT ⟨rows, ok, a, c⟩ (.skip (.keep rfl (fun _ h => h) (.skip (.keep rfl (fun _ h => h) (.keep rfl (fun _ h => h) (.nil _)))))) rfl⟩
        · rw [List.concat_eq_append] at hst ⊢
          have hx := hst.pos x (by simp)
          have hxu := hst.unk x (by simp)
          have hrl := ok.1
          have hsl := hst.len (by omega)
          have hle : (s ++ [x]).length = s.length + 1 := by simp
          obtain ⟨hr, _, _, _, _⟩ := hw.at_ (n := x) hx.1 (by omega)
          have hidx : (((s ++ [x]).length : Int) - 1).toNat = s.length := by omega
          have hlast := ints_last (s := s) (x := x)
          have htk := ints_take (s := s) (x := x)
          have c2 := calls_Rule bs S x hsm
          rw [ruleV_ok hx.1 (by omega)] at c2
          have htim := hw.tim hx.1 (by omega)
          have hset := krsC_set (g := rows) (i := x.toNat) (x := rowT (tm S.E x)) (by omega)
          have la : 0 ≤ (atE S.E x).r.a ∧ (atE S.E x).r.a < x := by rcases hr with h | h | h <;> omega
          have lb : 0 ≤ (atE S.E x).r.b ∧ (atE S.E x).r.b < x := by rcases hr with h | h | h <;> omega
          have hka : (krsC rows)[(atE S.E x).r.a.toNat * 3 + 2]? = some (.bool (rows.getD (atE S.E x).r.a.toNat row0).2.2) := krsC_known (by omega)
          have hkb : (krsC rows)[(atE S.E x).r.b.toNat * 3 + 2]? = some (.bool (rows.getD (atE S.E x).r.b.toNat row0).2.2) := krsC_known (by omega)
          have c3 := fun ka kb w h1 h2 h3 => calls_compute S hw x hx.1 (by omega) htim bt bs rows ok a c (by omega) (by omega) ka kb w h1 h2 h3
          have ta := fun h => ok.known (i := (atE S.E x).r.a) la.1 (by omega) h
          have tb := fun h => ok.known (i := (atE S.E x).r.b) lb.1 (by omega) h
          have ua := fun h => ok.unknown (i := (atE S.E x).r.a) la.1 (by omega) h
          have ub := fun h => ok.unknown (i := (atE S.E x).r.b) lb.1 (by omega) h
          have hkl : x.toNat * 3 + 3 ≤ (krsC rows).length := by rw [krsC_length]; omega
          have ok2 : TI S.E (rows.set x.toNat (rowT (tm S.E x))) := by
            have := ok.set (x := x.toNat) (by omega) (by omega)
            rwa [show ((x.toNat : Nat) : Int) = x by omega] at this
          have m1 : ∀ y : Int, 0 ≤ y → y < x → ∀ fp' a' c', rowMu i S.E ⟨⟨rows, ok, a, c⟩, fp', (s ++ [x]) ++ [y], a', c'⟩ < rowMu i S.E ⟨⟨rows, ok, a, c⟩, fpx, s ++ [x], a6, c6⟩ := fun y h0 hy fp' a' c' => by
            simp only [rowMu, List.getLastD_concat]; omega
          have m2 : ∀ fp' a' c', rowMu i S.E ⟨⟨rows.set x.toNat (rowT (tm S.E x)), ok2, a, c⟩, fp', s, a', c'⟩ < rowMu i S.E ⟨⟨rows, ok, a, c⟩, fpx, s ++ [x], a6, c6⟩ := fun fp' a' c' => by
            have hu := unk_set (rows := rows) (x := x.toNat) (m := tm S.E x) (by omega) hxu
            have hl : (s.getLastD 0).toNat ≤ i := by
              rcases List.eq_nil_or_concat s with rfl | ⟨s', y, rfl⟩
              · exact Nat.zero_le _
              · rw [List.concat_eq_append, List.getLastD_concat]
                have := hst.pos y (by simp)
                omega
            simp only [rowMu, List.getLastD_concat]
            rw [← hu, Nat.succ_mul]
            omega
          (repeat' ((conv => whnf); first | (refine CallK_pure (.v _) (fun w hR => c3 (fun h1 => ta (by first | assumption | (exfalso; omega))) (fun h1 => tb (by first | assumption | (exfalso; omega))) w (In.box (key := 2000) hR rfl) (In.ownR (key := 2001) hR rfl) (hG.cast hR (by simp))) ?_) | rw [hidx] | rw [Nat.mul_one] | rw [hset] | rw [htk] | (refine CallK_pack (key := 77) rfl (fun w hR h0 => c2 _ _ _ h0) ?_; rintro _ _ ⟨rfl, fp', rfl⟩; refine ⟨.v _, rfl, ?_⟩) | refine ⟨.sl 2001 _ _ _, ⟨rfl, rfl, rfl, rfl⟩, ?_⟩ | refine ⟨_, ⟨rfl, trivial⟩, ?_⟩ | refine ldCell hlast ?_ | refine ldCell hka ?_ | refine ldCell hkb ?_ | (refine bcase_prop (fun h => ?_) (fun h => ?_) <;> try (exfalso; omega)) | (refine bcase_nprop (fun h => ?_) (fun h => ?_) <;> try (exfalso; omega)) | (refine bcase_intro (fun h => ?_) (fun h => ?_) <;> (try simp only [Bool.not_eq_true', Bool.not_eq_false', decide_eq_true_eq, decide_eq_false_iff_not, Bool.not_eq_true, Bool.not_eq_false, Decidable.not_not] at h)) | refine And.intro (by first | omega | exact rfl | assumption | exact ⟨rfl, rfl, rfl, rfl, rfl⟩ | exact ⟨rfl, rfl, rfl, rfl⟩ | exact ⟨rfl, by omega⟩ | exact oneAll_of rfl | exact ⟨rfl, oneAll_of rfl⟩ | exact Ref.refl _ | exact Thin.ref (.skip (Thin.refl _)) | exact Thin.ref (.skip (.skip (Thin.refl _))) | exact ⟨by unfold maxLen; omega, by omega⟩ | exact ⟨rfl, hkl⟩ | exact ⟨rfl, Nat.le_of_ble_eq_true rfl⟩ | ((try unfold maxLen); (try simp only [List.length_nil, List.length_cons, List.length_append]); omega) | (refine ⟨rfl, ?_⟩; (try simp only [List.length_nil, List.length_cons, List.length_append]); omega)) ?_ | intro _)); (all_goals (conv => whnf))
          · rename_i a' c'
            refine loop_next ⟨⟨rows, ok, a, c⟩, fp', (s ++ [x]) ++ [(atE S.E x).r.a], a', c'⟩ ⟨hlt, hst.push (by omega) la.2 (ua h)⟩ (m1 _ la.1 la.2 _ _ _) (by (repeat ((conv => whnf); refine And.intro (by first | exact rfl | exact vint_eq (by omega) | exact vint_eq (by (dsimp only; omega)) | exact vsl_eq (by omega) | exact vsl_eq (by first | (dsimp only; omega) | (simp; done) | (simp; omega))) ?_)); exact trivial) ((Thin.ref (.skip (.skip (.keep rfl (fun _ h => h) (.own (by simp) ints_snoc (by (repeat (first | exact Thin.nil _ | exact Thin.refl _ | refine Thin.keep rfl (fun _ h => h) ?_ | refine Thin.skip ?_)))))))).trans (Ref.perm (.swap _ _ _)))
          all_goals first
            | (rename_i a' c'
               refine loop_next ⟨⟨rows, ok, a, c⟩, fp', (s ++ [x]) ++ [(atE S.E x).r.b], a', c'⟩ ⟨hlt, hst.push (by omega) lb.2 (ub h)⟩ (m1 _ lb.1 lb.2 _ _ _) (by (repeat ((conv => whnf); refine And.intro (by first | exact rfl | exact vint_eq (by omega) | exact vint_eq (by (dsimp only; omega)) | exact vsl_eq (by omega) | exact vsl_eq (by first | (dsimp only; omega) | (simp; done) | (simp; omega))) ?_)); exact trivial) ((Thin.ref (.skip (.skip (.keep rfl (fun _ h => h) (.own (by simp) ints_snoc (by (repeat (first | exact Thin.nil _ | exact Thin.refl _ | refine Thin.keep rfl (fun _ h => h) ?_ | refine Thin.skip ?_)))))))).trans (Ref.perm (.swap _ _ _))))
            | (refine loop_next ⟨⟨rows.set x.toNat (rowT (tm S.E x)), ok2, a, c⟩, fp', s, a6, c6⟩ ⟨by simpa using hlt, hst.pop (by omega)⟩ (m2 _ _ _) (by (repeat ((conv => whnf); refine And.intro (by first | exact rfl | exact vint_eq (by omega) | exact vint_eq (by (dsimp only; omega)) | exact vsl_eq (by omega) | exact vsl_eq (by first | (dsimp only; omega) | (simp; done) | (simp; omega))) ?_)); exact trivial) ((Thin.ref (.skip (.keep rfl (fun _ h => h) (.own rfl rfl (.keep rfl (fun _ h => h) (.box (by simp) (.own (by simp) rfl (.nil _)))))))).trans (Ref.perm (.swap _ _ _))))
  · have hres : rowRes S id = .tuple #[.agg (krC row0).toArray, errV 1] := if_neg hid
    rw [hres]
    by_cases h1 : id < 1
    · (repeat' ((conv => whnf); first | (refine CallK_pack (key := 77) rfl (fun w hR h0 => c1 _ _ _ h0) ?_; rintro _ _ ⟨rfl, fp', rfl⟩; refine ⟨.v _, rfl, ?_⟩) | refine ⟨_, ⟨rfl, trivial⟩, ?_⟩ | (refine bcase_prop (fun h => ?_) (fun h => ?_) <;> try (exfalso; omega)) | (refine bcase_nprop (fun h => ?_) (fun h => ?_) <;> try (exfalso; omega)) | (refine bcase_intro (fun h => ?_) (fun h => ?_) <;> (try simp only [Bool.not_eq_true', Bool.not_eq_false', decide_eq_true_eq, decide_eq_false_iff_not, Bool.not_eq_true, Bool.not_eq_false, Decidable.not_not] at h)) | refine And.intro (by first | omega | exact rfl | assumption | exact ⟨rfl, rfl, rfl, rfl, rfl⟩ | exact ⟨rfl, rfl, rfl, rfl⟩ | exact ⟨rfl, by omega⟩ | exact oneAll_of rfl | exact ⟨rfl, oneAll_of rfl⟩ | exact Ref.refl _ | exact Thin.ref (.skip (Thin.refl _)) | exact Thin.ref (.skip (.skip (Thin.refl _))) | exact ⟨rfl, Nat.le_of_ble_eq_true rfl⟩ | ((try unfold maxLen); (try simp only [List.length_nil, List.length_cons, List.length_append]); omega) | (refine ⟨rfl, ?_⟩; (try simp only [List.length_nil, List.length_cons, List.length_append]); omega)) ?_ | intro _)); (all_goals (conv => whnf))
      exact ⟨endT0 (k' := 77) (fp' := fp2) (x := ⟨rows, ok, a, c⟩) (.skip (Thin.refl _)) rfl⟩
    · (repeat' ((conv => whnf); first | (refine CallK_pack (key := 77) rfl (fun w hR h0 => c1 _ _ _ h0) ?_; rintro _ _ ⟨rfl, fp', rfl⟩; refine ⟨.v _, rfl, ?_⟩) | refine ⟨_, ⟨rfl, trivial⟩, ?_⟩ | (refine bcase_prop (fun h => ?_) (fun h => ?_) <;> try (exfalso; omega)) | (refine bcase_nprop (fun h => ?_) (fun h => ?_) <;> try (exfalso; omega)) | (refine bcase_intro (fun h => ?_) (fun h => ?_) <;> (try simp only [Bool.not_eq_true', Bool.not_eq_false', decide_eq_true_eq, decide_eq_false_iff_not, Bool.not_eq_true, Bool.not_eq_false, Decidable.not_not] at h)) | refine And.intro (by first | omega | exact rfl | assumption | exact ⟨rfl, rfl, rfl, rfl, rfl⟩ | exact ⟨rfl, rfl, rfl, rfl⟩ | exact ⟨rfl, by omega⟩ | exact oneAll_of rfl | exact ⟨rfl, oneAll_of rfl⟩ | exact Ref.refl _ | exact Thin.ref (.skip (Thin.refl _)) | exact Thin.ref (.skip (.skip (Thin.refl _))) | exact ⟨rfl, Nat.le_of_ble_eq_true rfl⟩ | ((try unfold maxLen); (try simp only [List.length_nil, List.length_cons, List.length_append]); omega) | (refine ⟨rfl, ?_⟩; (try simp only [List.length_nil, List.length_cons, List.length_append]); omega)) ?_ | intro _)); (all_goals (conv => whnf))
      exact ⟨endT ⟨rows, ok, a, c⟩ (.keep rfl (fun _ h => h) (.skip (Thin.refl _))) rfl⟩
end Go.Proofs.YticiljgbjdcmlaaDoor
