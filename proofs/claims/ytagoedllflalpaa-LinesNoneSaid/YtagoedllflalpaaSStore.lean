/- The store of rules: what it holds, and how it lies on the heap. -/
import Derived.Test.YtagoedllflalpaaSTm
namespace Go.Proofs.Ytagoedllflalpaa
open Go.EG
attribute [local irreducible] CallK QCall Go.Calls
set_option linter.unusedSimpArgs false
set_option linter.unusedVariables false
set_option maxRecDepth 20000

abbrev entC (x : Entr) : List Value := [.int .i64 x.r.k, .int .u8 x.r.l, .int .i64 x.r.a, .int .i64 x.r.b, .int .i64 x.r.t, .int .i64 x.m.txt.length, .int .i64 (linesN x.m.txt), .int .i64 (headN x.m.txt), .int .i64 (tailN x.m.txt), .int .u64 (valN x.m.txt), .int .u64 (scaleN x.m.txt), .int .i64 x.m.dep, .bool x.m.evn]
abbrev entV (x : Entr) : Value := .agg #[.int .i64 x.r.k, .int .u8 x.r.l, .int .i64 x.r.a, .int .i64 x.r.b, .int .i64 x.r.t, .int .i64 x.m.txt.length, .int .i64 (linesN x.m.txt), .int .i64 (headN x.m.txt), .int .i64 (tailN x.m.txt), .int .u64 (valN x.m.txt), .int .u64 (scaleN x.m.txt), .int .i64 x.m.dep, .bool x.m.evn]
def ents (E : List Entr) : List Value := E.flatMap entC
theorem ents_snoc (E : List Entr) (x : Entr) : ents E ++ entC x = ents (E ++ [x]) := by simp [ents]
theorem ents_length : ∀ E : List Entr, (ents E).length = E.length * 13
  | [] => rfl
  | x :: E => by
    have := ents_length E
    simp only [ents, List.flatMap_cons, List.length_append, List.length_cons, List.length_nil] at this ⊢
    omega
theorem ents_at : ∀ {E : List Entr} {i : Nat}, i < E.length → ((ents E).drop (i * 13)).take 13 = entC (E.getD i ent0)
  | x :: E, 0, _ => by simp [ents, entC]
  | x :: E, i + 1, h => by
    have ih := ents_at (E := E) (i := i) (by simpa using h)
    have e1 : ents (x :: E) = entC x ++ ents E := by simp [ents]
    rw [e1, show (i + 1) * 13 = (entC x).length + i * 13 by simp [entC]; omega, ← List.drop_drop, List.drop_left]
    simpa using ih

/-- The map of a list of rules. -/
def mapF : Nat → List Entr → List (Value × Value)
  | _, [] => []
  | i, x :: E => (ruV x.r, .int .i64 ((i + 1 : Nat) : Int)) :: mapF (i + 1) E
abbrev mapOf (E : List Entr) : List (Value × Value) := mapF 0 E

abbrev kkR : KK := .agg [.int .i64, .int .u8, .int .i64, .int .i64, .int .i64]
/-- How a store lies on the heap. -/
def fS (b : Nat) (S : Sto) (x : Option Addr × Nat × Nat) : List Ent :=
  [.box 1000 b [.int .i64 S.most, .slice x.1 S.E.length x.2.1, .map (some x.2.2)] ty_intern_Store, .own 1001 x.1 S.E.length x.2.1 ty_intern_entry 13 (ents S.E), .mapE 1002 x.2.2 kkR (mapOf S.E)]

theorem fS_eq (b : Nat) (S : Sto) (a : Option Addr) (c mb : Nat) : fS b S (a, c, mb) = [.box 1000 b [.int .i64 S.most, .slice a S.E.length c, .map (some mb)] ty_intern_Store, .own 1001 a S.E.length c ty_intern_entry 13 (ents S.E), .mapE 1002 mb kkR (mapOf S.E)] := rfl

/-- What is handed back, beside a store. -/
def retS (key b : Nat) (S : Sto) (r v : Value) (L1 : List Ent) : Prop := v = r ∧ ∃ fp', L1 = [packE key fp' (fS b S)]
/-- The store that a function is handed. -/
abbrev StR (w : World) (key : Nat) (fp : List Nat) (b : Nat) (S : Sto) : Prop := R w fp [packE key fp (fS b S)] w
theorem endR {key b : Nat} {S : Sto} {r v : Value} {w0 : World} {fp0 : List Nat} {L : List Ent} (a : Option Addr) (c mb : Nat) (h : Thin L (fS b S (a, c, mb))) (hv : v = r) : ∃ L1, Ref w0 fp0 L L1 ∧ retS key b S r v L1 :=
  ⟨_, Ref.pack (a, c, mb) h, hv, _, rfl⟩

theorem StR.key {w : World} {key fp b S} (h : StR w key fp b S) (k' : Nat) : StR w k' fp b S := (Thin.packE (.nil [])).ref w h
theorem endP {key k' b : Nat} {fp'' : List Nat} {S : Sto} {r v : Value} {w0 : World} {fp0 : List Nat} {L : List Ent} (h : Thin L [packE k' fp'' (fS b S)]) (hv : v = r) : ∃ L1, Ref w0 fp0 L L1 ∧ retS key b S r v L1 :=
  ⟨[packE key fp'' (fS b S)], fun w hR => (Thin.packE (.nil [])).ref w (h.ref w hR), hv, _, rfl⟩

/-- A call upon a store (at block b): the store behind it, the result. -/
def SC (f : Nat) (args : Array Value) (b : Nat) (S S' : Sto) (r : Value) : Prop :=
  ∀ (key : Nat) (fp : List Nat) (w : World), StR w key fp b S → Calls Try.prog f args w fun e w' => ∃ v L1, e = .returned v ∧ R w fp L1 w' ∧ retS key b S' r v L1
abbrev pS (b : Nat) : Value := .pointer (some ⟨b, 0, none⟩)
/-- A number and an error's number (0: none). -/
def errO : Nat → Value
  | 0 => .nilIface
  | n + 1 => errV ((n + 1 : Nat) : Int)
def resV (p : Int × Nat) : Value := .tuple #[.int .i64 p.1, errO p.2]

theorem calls_known (b : Nat) (S : Sto) (n : Int) :
    SC fn_P_intern_Store_known #[pS b, .int .i64 n] b S S (.bool (decide (0 ≤ n ∧ n ≤ S.E.length))) := by
  intro key fp w hR
  refine pack_call [.ptr 1000 b 0, .v (.int .i64 n)] ok_P_intern_Store_known (by simp) hR ?_
  rintro ⟨a, c, mb⟩ hfp hR'
  rw [fS_eq]
  (repeat' ((conv => whnf); first | refine ⟨_, ⟨rfl, trivial⟩, ?_⟩ | (refine bcase_prop (fun h => ?_) (fun h => ?_) <;> try (exfalso; omega)) | (refine bcase_nprop (fun h => ?_) (fun h => ?_) <;> try (exfalso; omega)) | (refine bcase_intro (fun h => ?_) (fun h => ?_) <;> (try simp only [Bool.not_eq_true', Bool.not_eq_false', decide_eq_true_eq, decide_eq_false_iff_not, Bool.not_eq_true, Bool.not_eq_false, Decidable.not_not] at h)) | refine And.intro (by first | omega | exact rfl | assumption | exact ⟨rfl, rfl, rfl, rfl, rfl⟩ | exact ⟨rfl, rfl, rfl, rfl⟩ | exact ⟨rfl, by omega⟩ | exact oneAll_of rfl | exact ⟨rfl, oneAll_of rfl⟩ | exact Ref.refl _ | exact Thin.ref (.skip (Thin.refl _)) | exact Thin.ref (.skip (.skip (Thin.refl _))) | exact ⟨rfl, Nat.le_of_ble_eq_true rfl⟩ | ((try unfold maxLen); (try simp only [List.length_nil, List.length_cons, List.length_append]); omega) | (refine ⟨rfl, ?_⟩; (try simp only [List.length_nil, List.length_cons, List.length_append]); omega)) ?_ | intro _)); (all_goals (conv => whnf))
  all_goals (refine ⟨endR a c mb (Thin.refl _) ?_⟩; congr 1; simp; omega)

theorem calls_sLen (b : Nat) (S : Sto) :
    SC fn_P_intern_Store_Len #[pS b] b S S (.int .i64 S.E.length) := by
  intro key fp w hR
  refine pack_call [.ptr 1000 b 0] ok_P_intern_Store_Len (by simp) hR ?_
  rintro ⟨a, c, mb⟩ hfp hR'
  rw [fS_eq]
  (repeat' ((conv => whnf); first | refine ⟨_, ⟨rfl, trivial⟩, ?_⟩ | (refine bcase_prop (fun h => ?_) (fun h => ?_) <;> try (exfalso; omega)) | (refine bcase_nprop (fun h => ?_) (fun h => ?_) <;> try (exfalso; omega)) | (refine bcase_intro (fun h => ?_) (fun h => ?_) <;> (try simp only [Bool.not_eq_true', Bool.not_eq_false', decide_eq_true_eq, decide_eq_false_iff_not, Bool.not_eq_true, Bool.not_eq_false, Decidable.not_not] at h)) | refine And.intro (by first | omega | exact rfl | assumption | exact ⟨rfl, rfl, rfl, rfl, rfl⟩ | exact ⟨rfl, rfl, rfl, rfl⟩ | exact ⟨rfl, by omega⟩ | exact oneAll_of rfl | exact ⟨rfl, oneAll_of rfl⟩ | exact Ref.refl _ | exact Thin.ref (.skip (Thin.refl _)) | exact Thin.ref (.skip (.skip (Thin.refl _))) | exact ⟨rfl, Nat.le_of_ble_eq_true rfl⟩ | ((try unfold maxLen); (try simp only [List.length_nil, List.length_cons, List.length_append]); omega) | (refine ⟨rfl, ?_⟩; (try simp only [List.length_nil, List.length_cons, List.length_append]); omega)) ?_ | intro _)); (all_goals (conv => whnf))
  all_goals (exact ⟨endR a c mb (Thin.refl _) rfl⟩)

theorem calls_at0 (b : Nat) (S : Sto) :
    SC fn_P_intern_Store_at #[pS b, .int .i64 0] b S S (entV ent0) := by
  intro key fp w hR
  refine pack_call [.ptr 1000 b 0, .v (.int .i64 0)] ok_P_intern_Store_at (by simp) hR ?_
  rintro ⟨a, c, mb⟩ hfp hR'
  rw [fS_eq]
  (repeat' ((conv => whnf); first | refine ⟨_, ⟨rfl, trivial⟩, ?_⟩ | refine CallK_pure (.v _) (fun w hR => calls_wUnit w) ?_ | (refine bcase_prop (fun h => ?_) (fun h => ?_) <;> try (exfalso; omega)) | (refine bcase_nprop (fun h => ?_) (fun h => ?_) <;> try (exfalso; omega)) | (refine bcase_intro (fun h => ?_) (fun h => ?_) <;> (try simp only [Bool.not_eq_true', Bool.not_eq_false', decide_eq_true_eq, decide_eq_false_iff_not, Bool.not_eq_true, Bool.not_eq_false, Decidable.not_not] at h)) | refine And.intro (by first | omega | exact rfl | assumption | exact ⟨rfl, rfl, rfl, rfl, rfl⟩ | exact ⟨rfl, rfl, rfl, rfl⟩ | exact ⟨rfl, by omega⟩ | exact oneAll_of rfl | exact ⟨rfl, oneAll_of rfl⟩ | exact Ref.refl _ | exact Thin.ref (.skip (Thin.refl _)) | exact Thin.ref (.skip (.skip (Thin.refl _))) | exact ⟨rfl, Nat.le_of_ble_eq_true rfl⟩ | ((try unfold maxLen); (try simp only [List.length_nil, List.length_cons, List.length_append]); omega) | (refine ⟨rfl, ?_⟩; (try simp only [List.length_nil, List.length_cons, List.length_append]); omega)) ?_ | intro _)); (all_goals (conv => whnf))
  all_goals (exact ⟨endR a c mb (.skip (Thin.refl _)) rfl⟩)

theorem calls_at (b : Nat) (S : Sto) (i : Nat) (hi : i < S.E.length) (hE : S.E.length ≤ 1048576) :
    SC fn_P_intern_Store_at #[pS b, .int .i64 ((i : Int) + 1)] b S S (entV (S.E.getD i ent0)) := by
  intro key fp w hR
  refine pack_call [.ptr 1000 b 0, .v (.int .i64 ((i : Int) + 1))] ok_P_intern_Store_at (by simp) hR ?_
  rintro ⟨a, c, mb⟩ hfp hR'
  rw [fS_eq] at hR' ⊢
  have hne := own_ne (key := 1001) hR' rfl (by omega)
  have e1 : ((i : Int) + 1 - 1).toNat = i := by omega
  have hat := ents_at hi
  (repeat' ((conv => whnf); first | refine ⟨_, ⟨rfl, trivial⟩, ?_⟩ | rw [e1] | refine ⟨entC (S.E.getD i ent0), rfl, Rd.own (key := 1001) rfl (Nat.succ_pos _) hat, ?_⟩ | (refine bcase_prop (fun h => ?_) (fun h => ?_) <;> try (exfalso; omega)) | (refine bcase_nprop (fun h => ?_) (fun h => ?_) <;> try (exfalso; omega)) | (refine bcase_intro (fun h => ?_) (fun h => ?_) <;> (try simp only [Bool.not_eq_true', Bool.not_eq_false', decide_eq_true_eq, decide_eq_false_iff_not, Bool.not_eq_true, Bool.not_eq_false, Decidable.not_not] at h)) | refine And.intro (by first | omega | exact rfl | assumption | exact ⟨rfl, rfl, rfl, rfl, rfl⟩ | exact ⟨rfl, rfl, rfl, rfl⟩ | exact ⟨rfl, by omega⟩ | exact oneAll_of rfl | exact ⟨rfl, oneAll_of rfl⟩ | exact Ref.refl _ | exact Thin.ref (.skip (Thin.refl _)) | exact Thin.ref (.skip (.skip (Thin.refl _))) | exact hne | exact ⟨rfl, Nat.le_of_ble_eq_true rfl⟩ | ((try unfold maxLen); (try simp only [List.length_nil, List.length_cons, List.length_append]); omega) | (refine ⟨rfl, ?_⟩; (try simp only [List.length_nil, List.length_cons, List.length_append]); omega)) ?_ | intro _)); (all_goals (conv => whnf))
  all_goals (exact ⟨endR a c mb (.skip (Thin.refl _)) rfl⟩)

/-! ### The map -/

theorem ruV_inj {r r' : Rul} : keyEq (ruV r) (ruV r') = true ↔ r = r' := by
  obtain ⟨k, l, a, b, t⟩ := r
  obtain ⟨k', l', a', b', t'⟩ := r'
  simp [keyEq, eqCells]
theorem keyOk_ru (r : Rul) : keyOk kkR (ruV r) := ⟨_, rfl, ⟨⟨rfl, rfl⟩, ⟨rfl, rfl⟩, ⟨rfl, rfl⟩, ⟨rfl, rfl⟩, ⟨rfl, rfl⟩, trivial⟩⟩
theorem mget_map (r : Rul) : ∀ (E : List Entr) (i : Nat), mget (mapF i E) (ruV r) = if idx r i E = 0 then none else some (.int .i64 (idx r i E))
  | [], i => rfl
  | x :: E, i => by
    simp only [mapF, mget]
    by_cases h : r = x.r
    · have hi : idx r i (x :: E) = i + 1 := if_pos h
      rw [if_pos (ruV_inj.2 h), hi, if_neg (by omega)]
    · have hi : idx r i (x :: E) = idx r (i + 1) E := if_neg h
      rw [if_neg (fun hk => h (ruV_inj.1 hk)), hi]
      exact mget_map r E (i + 1)
theorem mset_map (r : Rul) (u : Value) : ∀ (E : List Entr) (i : Nat), idx r i E = 0 → mset (mapF i E) (ruV r) u = mapF i E ++ [(ruV r, u)]
  | [], i, _ => rfl
  | x :: E, i, h => by
    simp only [idx] at h
    split at h
    · omega
    · rename_i hr
      simp only [mapF, mset, if_neg (fun hk => hr (ruV_inj.1 hk)), mset_map r u E (i + 1) h, List.cons_append]
theorem mapF_snoc (x : Entr) : ∀ (E : List Entr) (i : Nat), mapF i E ++ [(ruV x.r, .int .i64 ((i + E.length + 1 : Nat) : Int))] = mapF i (E ++ [x])
  | [], i => rfl
  | y :: E, i => by
    have ih := mapF_snoc x E (i + 1)
    rw [show i + 1 + E.length + 1 = i + (y :: E).length + 1 by rw [List.length_cons]; omega] at ih
    simp only [mapF, List.cons_append]
    rw [← ih]

/-- What find answers. -/
def findV (S : Sto) (r : Rul) : Value :=
  if idOf r S.E = 0 then (if S.most ≤ S.E.length then .tuple #[.int .i64 0, errV 3] else .tuple #[.int .i64 0, .nilIface]) else .tuple #[.int .i64 (idOf r S.E), .nilIface]
theorem calls_find (b : Nat) (S : Sto) (r : Rul) :
    SC fn_P_intern_Store_find #[pS b, ruV r] b S S (findV S r) := by
  intro key fp w hR
  refine pack_call [.ptr 1000 b 0, .v (ruV r)] ok_P_intern_Store_find (by simp) hR ?_
  rintro ⟨a, c, mb⟩ hfp hR'
  rw [fS_eq] at hR' ⊢
  have hm := mget_map r S.E 0
  have hk := keyOk_ru r
  unfold findV
  by_cases h0 : idOf r S.E = 0
  · rw [if_pos h0] at hm ⊢
    (repeat' ((conv => whnf); first | refine lk_none hm ?_ | refine ⟨.mp 1002 _, ⟨rfl, rfl⟩, ?_⟩ | refine ⟨_, ⟨rfl, trivial⟩, ?_⟩ | (refine bcase_prop (fun h => ?_) (fun h => ?_) <;> try (exfalso; omega)) | (refine bcase_nprop (fun h => ?_) (fun h => ?_) <;> try (exfalso; omega)) | (refine bcase_intro (fun h => ?_) (fun h => ?_) <;> (try simp only [Bool.not_eq_true', Bool.not_eq_false', decide_eq_true_eq, decide_eq_false_iff_not, Bool.not_eq_true, Bool.not_eq_false, Decidable.not_not] at h)) | refine And.intro (by first | omega | exact rfl | assumption | exact ⟨rfl, rfl, rfl, rfl, rfl⟩ | exact ⟨rfl, rfl, rfl, rfl⟩ | exact ⟨rfl, by omega⟩ | exact oneAll_of rfl | exact ⟨rfl, oneAll_of rfl⟩ | exact Ref.refl _ | exact Thin.ref (.skip (Thin.refl _)) | exact Thin.ref (.skip (.skip (Thin.refl _))) | exact ⟨rfl, rfl, hk⟩ | exact ⟨rfl, Nat.le_of_ble_eq_true rfl⟩ | ((try unfold maxLen); (try simp only [List.length_nil, List.length_cons, List.length_append]); omega) | (refine ⟨rfl, ?_⟩; (try simp only [List.length_nil, List.length_cons, List.length_append]); omega)) ?_ | intro _)); (all_goals (conv => whnf))
    · refine ⟨endR a c mb (.skip (Thin.refl _)) ?_⟩
      rw [if_pos (by omega)]; rfl
    · refine ⟨endR a c mb (.skip (Thin.refl _)) ?_⟩
      rw [if_neg (by omega)]
  · rw [if_neg h0] at hm ⊢
    (repeat' ((conv => whnf); first | refine lk_some hm ?_ | refine ⟨.mp 1002 _, ⟨rfl, rfl⟩, ?_⟩ | refine ⟨_, ⟨rfl, trivial⟩, ?_⟩ | (refine bcase_prop (fun h => ?_) (fun h => ?_) <;> try (exfalso; omega)) | (refine bcase_nprop (fun h => ?_) (fun h => ?_) <;> try (exfalso; omega)) | (refine bcase_intro (fun h => ?_) (fun h => ?_) <;> (try simp only [Bool.not_eq_true', Bool.not_eq_false', decide_eq_true_eq, decide_eq_false_iff_not, Bool.not_eq_true, Bool.not_eq_false, Decidable.not_not] at h)) | refine And.intro (by first | omega | exact rfl | assumption | exact ⟨rfl, rfl, rfl, rfl, rfl⟩ | exact ⟨rfl, rfl, rfl, rfl⟩ | exact ⟨rfl, by omega⟩ | exact oneAll_of rfl | exact ⟨rfl, oneAll_of rfl⟩ | exact Ref.refl _ | exact Thin.ref (.skip (Thin.refl _)) | exact Thin.ref (.skip (.skip (Thin.refl _))) | exact ⟨rfl, rfl, hk⟩ | exact ⟨rfl, Nat.le_of_ble_eq_true rfl⟩ | ((try unfold maxLen); (try simp only [List.length_nil, List.length_cons, List.length_append]); omega) | (refine ⟨rfl, ?_⟩; (try simp only [List.length_nil, List.length_cons, List.length_append]); omega)) ?_ | intro _)); (all_goals (conv => whnf))
    exact ⟨endR a c mb (.skip (Thin.refl _)) rfl⟩

theorem calls_add (b : Nat) (S : Sto) (x : Entr) (hx : idOf x.r S.E = 0) (hE : S.E.length ≤ 1048576) :
    SC fn_P_intern_Store_add #[pS b, entV x] b S (addS S x) (.int .i64 (S.E.length + 1 : Nat)) := by
  intro key fp w hR
  refine pack_call [.ptr 1000 b 0, .v (entV x)] ok_P_intern_Store_add (by simp) hR ?_
  rintro ⟨a, c, mb⟩ hfp hR'
  rw [fS_eq] at hR' ⊢
  have hm := mset_map x.r (.int .i64 ((S.E.length + 1 : Nat) : Int)) S.E 0 hx
  have hk := keyOk_ru x.r
  have hs := mapF_snoc x S.E 0
  rw [Nat.zero_add] at hs
  rw [hs] at hm
  have hsn := ents_snoc S.E x
  (repeat' ((conv => whnf); first | rw [hm] | rw [hsn] | refine ⟨.sl 1001 _ _ _, ⟨rfl, rfl, rfl, rfl⟩, ?_⟩ | refine ⟨.mp 1002 _, ⟨rfl, rfl⟩, ?_⟩ | refine ⟨_, ⟨rfl, trivial⟩, ?_⟩ | (refine bcase_prop (fun h => ?_) (fun h => ?_) <;> try (exfalso; omega)) | (refine bcase_nprop (fun h => ?_) (fun h => ?_) <;> try (exfalso; omega)) | (refine bcase_intro (fun h => ?_) (fun h => ?_) <;> (try simp only [Bool.not_eq_true', Bool.not_eq_false', decide_eq_true_eq, decide_eq_false_iff_not, Bool.not_eq_true, Bool.not_eq_false, Decidable.not_not] at h)) | refine And.intro (by first | omega | exact rfl | assumption | exact ⟨rfl, rfl, rfl, rfl, rfl⟩ | exact ⟨rfl, rfl, rfl, rfl⟩ | exact ⟨rfl, by omega⟩ | exact oneAll_of rfl | exact ⟨rfl, oneAll_of rfl⟩ | exact Ref.refl _ | exact Thin.ref (.skip (Thin.refl _)) | exact Thin.ref (.skip (.skip (Thin.refl _))) | exact ⟨rfl, rfl, hk⟩ | exact ⟨by omega, by unfold maxLen; omega⟩ | exact ⟨by unfold maxLen; omega, by omega⟩ | exact ⟨rfl, Nat.le_of_ble_eq_true rfl⟩ | ((try unfold maxLen); (try simp only [List.length_nil, List.length_cons, List.length_append]); omega) | (refine ⟨rfl, ?_⟩; (try simp only [List.length_nil, List.length_cons, List.length_append]); omega)) ?_ | intro _)); (all_goals (conv => whnf))
  rename_i b3 b12 a' c'
  have hlen : (S.E ++ [x]).length = S.E.length + 1 := by simp
  refine ⟨endR a' c' mb (.skip (.skip ?_)) rfl⟩
  rw [fS_eq]
  simp only [hlen]
  exact Thin.refl _
end Go.Proofs.Ytagoedllflalpaa
