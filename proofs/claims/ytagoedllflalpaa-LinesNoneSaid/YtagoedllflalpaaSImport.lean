/- The store's functions: a new store, rules, grammars that are added. -/
import Derived.Test.YtagoedllflalpaaSIntern
import Derived.Test.YtagoedllflalpaaSGram
import Derived.Test.YtagoedllflalpaaHeap2
namespace Go.Proofs.Ytagoedllflalpaa
open Go.EG
attribute [local irreducible] CallK QCall Go.Calls
set_option linter.unusedSimpArgs false
set_option linter.unusedVariables false
set_option maxRecDepth 20000

/-! ### Rows of rules -/

def rulsC (g : List Rul) : List Value := g.flatMap ruC

theorem rulsC_length : ∀ g : List Rul, (rulsC g).length = g.length * 5
  | [] => rfl
  | x :: g => by
    have := rulsC_length g
    simp only [rulsC, List.flatMap_cons, List.length_append, List.length_cons, List.length_nil] at this ⊢
    omega
theorem rulsC_at : ∀ {g : List Rul} {i : Nat}, i < g.length → ((rulsC g).drop (i * 5)).take 5 = ruC (g.getD i rul0)
  | x :: g, 0, _ => by simp [rulsC, ruC]
  | x :: g, i + 1, h => by
    have ih := rulsC_at (g := g) (i := i) (by simpa using h)
    have e1 : rulsC (x :: g) = ruC x ++ rulsC g := by simp [rulsC]
    rw [e1, show (i + 1) * 5 = (ruC x).length + i * 5 by simp [ruC]; omega, ← List.drop_drop, List.drop_left]
    simpa using ih
theorem rulsC_snoc (g : List Rul) (r : Rul) : rulsC g ++ ruC r = rulsC (g ++ [r]) := by simp [rulsC]

/-! ### Rule, New -/

def ruleV (S : Sto) (n : Int) : Value := if 1 ≤ n ∧ n ≤ S.E.length then .tuple #[ruV (atE S.E n).r, .nilIface] else .tuple #[ruV rul0, errV 1]
theorem ruleV_ok {S : Sto} {n : Int} (h : 1 ≤ n) (h' : n ≤ S.E.length) : ruleV S n = .tuple #[ruV (atE S.E n).r, .nilIface] := if_pos ⟨h, h'⟩
theorem ents_rule {E : List Entr} {i : Nat} (h : i < E.length) : ((ents E).drop (i * 13)).take 5 = ruC (E.getD i ent0).r := by
  have := congrArg (List.take 5) (ents_at h)
  rw [List.take_take] at this
  exact this
theorem calls_Rule (b : Nat) (S : Sto) (n : Int) (hE : S.E.length ≤ 1048576) : SC fn_P_intern_Store_Rule #[pS b, .int .i64 n] b S S (ruleV S n) := by
  intro key fp w hR
  refine part_call [.ptr 1000 b 0, .v (.int .i64 n)] ok_P_intern_Store_Rule (by simp) (hR.key 77) ?_
  by_cases hn : 1 ≤ n ∧ n ≤ S.E.length
  · rw [ruleV_ok hn.1 hn.2]
    have c1 := calls_knownT b S (n := n) ⟨by omega, by omega⟩
    obtain ⟨i, rfl⟩ : ∃ i : Nat, n = (i : Int) + 1 := ⟨n.toNat - 1, by omega⟩
    rw [atE_succ]
    have e1 : ((i : Int) + 1 - 1).toNat = i := by omega
    have hat := ents_rule (E := S.E) (i := i) (by omega)
    (repeat' ((conv => whnf); first | (refine CallK_packU (key := 77) rfl (fun w hR h0 => c1 _ _ _ h0) ?_; rintro ⟨a', c', mb'⟩ w' hRu; rw [fS_eq]; refine ⟨.v _, rfl, ?_⟩) | rw [e1] | refine ⟨ruC (S.E.getD i ent0).r, rfl, Rd.own (key := 1001) rfl (Nat.succ_pos _) hat, ?_⟩ | refine ⟨_, ⟨rfl, trivial⟩, ?_⟩ | (refine bcase_prop (fun h => ?_) (fun h => ?_) <;> try (exfalso; omega)) | (refine bcase_nprop (fun h => ?_) (fun h => ?_) <;> try (exfalso; omega)) | (refine bcase_intro (fun h => ?_) (fun h => ?_) <;> (try simp only [Bool.not_eq_true', Bool.not_eq_false', decide_eq_true_eq, decide_eq_false_iff_not, Bool.not_eq_true, Bool.not_eq_false, Decidable.not_not] at h)) | refine And.intro (by first | omega | exact rfl | assumption | exact ⟨rfl, rfl, rfl, rfl, rfl⟩ | exact ⟨rfl, rfl, rfl, rfl⟩ | exact ⟨rfl, by omega⟩ | exact oneAll_of rfl | exact ⟨rfl, oneAll_of rfl⟩ | exact Ref.refl _ | exact Thin.ref (.skip (Thin.refl _)) | exact Thin.ref (.skip (.skip (Thin.refl _))) | exact own_ne (key := 1001) hRu rfl (by omega) | exact ⟨rfl, Nat.le_of_ble_eq_true rfl⟩ | ((try unfold maxLen); (try simp only [List.length_nil, List.length_cons, List.length_append]); omega) | (refine ⟨rfl, ?_⟩; (try simp only [List.length_nil, List.length_cons, List.length_append]); omega)) ?_ | intro _)); (all_goals (conv => whnf))
    exact ⟨endR _ _ _ (by (repeat (first | exact Thin.nil _ | exact Thin.refl _ | refine Thin.keep rfl (fun _ h => h) ?_ | refine Thin.skip ?_))) rfl⟩
  · rw [show ruleV S n = .tuple #[ruV rul0, errV 1] from if_neg hn]
    by_cases h0 : n = 0
    · (repeat' ((conv => whnf); first | (refine bcase_prop (fun h => ?_) (fun h => ?_) <;> try (exfalso; omega)) | (refine bcase_nprop (fun h => ?_) (fun h => ?_) <;> try (exfalso; omega)) | (refine bcase_intro (fun h => ?_) (fun h => ?_) <;> (try simp only [Bool.not_eq_true', Bool.not_eq_false', decide_eq_true_eq, decide_eq_false_iff_not, Bool.not_eq_true, Bool.not_eq_false, Decidable.not_not] at h)) | refine And.intro (by first | omega | exact rfl | assumption | exact ⟨rfl, rfl, rfl, rfl, rfl⟩ | exact ⟨rfl, rfl, rfl, rfl⟩ | exact ⟨rfl, by omega⟩ | exact oneAll_of rfl | exact ⟨rfl, oneAll_of rfl⟩ | exact Ref.refl _ | exact Thin.ref (.skip (Thin.refl _)) | exact Thin.ref (.skip (.skip (Thin.refl _))) | exact ⟨rfl, Nat.le_of_ble_eq_true rfl⟩ | ((try unfold maxLen); (try simp only [List.length_nil, List.length_cons, List.length_append]); omega) | (refine ⟨rfl, ?_⟩; (try simp only [List.length_nil, List.length_cons, List.length_append]); omega)) ?_ | intro _)); (all_goals (conv => whnf))
      exact ⟨endP (by (repeat (first | exact Thin.nil _ | exact Thin.refl _ | refine Thin.keep rfl (fun _ h => h) ?_ | refine Thin.skip ?_))) rfl⟩
    · have c1 := calls_knownF b S (n := n) (fun h => by have := h.1; have := h.2; omega)
      (repeat' ((conv => whnf); first | (refine CallK_pack (key := 77) rfl (fun w hR h0 => c1 _ _ _ h0) ?_; rintro _ _ ⟨rfl, fp', rfl⟩; refine ⟨.v _, rfl, ?_⟩) | (refine bcase_prop (fun h => ?_) (fun h => ?_) <;> try (exfalso; omega)) | (refine bcase_nprop (fun h => ?_) (fun h => ?_) <;> try (exfalso; omega)) | (refine bcase_intro (fun h => ?_) (fun h => ?_) <;> (try simp only [Bool.not_eq_true', Bool.not_eq_false', decide_eq_true_eq, decide_eq_false_iff_not, Bool.not_eq_true, Bool.not_eq_false, Decidable.not_not] at h)) | refine And.intro (by first | omega | exact rfl | assumption | exact ⟨rfl, rfl, rfl, rfl, rfl⟩ | exact ⟨rfl, rfl, rfl, rfl⟩ | exact ⟨rfl, by omega⟩ | exact oneAll_of rfl | exact ⟨rfl, oneAll_of rfl⟩ | exact Ref.refl _ | exact Thin.ref (.skip (Thin.refl _)) | exact Thin.ref (.skip (.skip (Thin.refl _))) | exact ⟨rfl, Nat.le_of_ble_eq_true rfl⟩ | ((try unfold maxLen); (try simp only [List.length_nil, List.length_cons, List.length_append]); omega) | (refine ⟨rfl, ?_⟩; (try simp only [List.length_nil, List.length_cons, List.length_append]); omega)) ?_ | intro _)); (all_goals (conv => whnf))
      exact ⟨endP (by (repeat (first | exact Thin.nil _ | exact Thin.refl _ | refine Thin.keep rfl (fun _ h => h) ?_ | refine Thin.skip ?_))) rfl⟩
/-- A new store. -/
def newS (key : Nat) (S : Sto) (v : Value) (L1 : List Ent) : Prop := ∃ b fp', v = pS b ∧ L1 = [packE key fp' (fS b S)]
def clipS (m : Int) : Nat := (if m < 0 then 0 else if m > 1048576 then 1048576 else m).toNat
theorem calls_New (m : Int) (key : Nat) (w : World) : Calls Try.prog fn_intern_New #[.int .i64 m] w fun e w' => ∃ v L1, e = .returned v ∧ R w [] L1 w' ∧ newS key ⟨clipS m, []⟩ v L1 := by
  refine new_call [.v (.int .i64 m)] ok_intern_New (by simp) ?_
  have c1 := calls_lClip m 0 1048576
  have e1 : (if m < 0 then 0 else if m > 1048576 then 1048576 else m) = ((clipS m : Nat) : Int) := by unfold clipS; split; rfl; split <;> omega
  rw [e1] at c1
  (repeat' ((conv => whnf); first | (first | refine CallK_pure (.v _) (fun w hR => c1 w) ?_ | refine QCall_pure (.v _) (fun w hR => c1 w) ?_) | (refine bcase_prop (fun h => ?_) (fun h => ?_) <;> try (exfalso; omega)) | (refine bcase_nprop (fun h => ?_) (fun h => ?_) <;> try (exfalso; omega)) | (refine bcase_intro (fun h => ?_) (fun h => ?_) <;> (try simp only [Bool.not_eq_true', Bool.not_eq_false', decide_eq_true_eq, decide_eq_false_iff_not, Bool.not_eq_true, Bool.not_eq_false, Decidable.not_not] at h)) | refine And.intro (by first | omega | exact rfl | assumption | exact ⟨rfl, rfl, rfl, rfl, rfl⟩ | exact ⟨rfl, rfl, rfl, rfl⟩ | exact ⟨rfl, by omega⟩ | exact oneAll_of rfl | exact ⟨rfl, oneAll_of rfl⟩ | exact Ref.refl _ | exact Thin.ref (.skip (Thin.refl _)) | exact Thin.ref (.skip (.skip (Thin.refl _))) | exact ⟨rfl, Nat.le_of_ble_eq_true rfl⟩ | ((try unfold maxLen); (try simp only [List.length_nil, List.length_cons, List.length_append]); omega) | (refine ⟨rfl, ?_⟩; (try simp only [List.length_nil, List.length_cons, List.length_append]); omega)) ?_ | intro _)); (all_goals (conv => whnf))
  rename_i mb b
  exact ⟨⟨_, (Ref.ownNil 1001 ty_intern_entry 13).trans ((Ref.perm (.swap _ _ _)).trans (Ref.pack (key := key) (f := fS b ⟨clipS m, []⟩) (none, 0, mb) (by rw [fS_eq]; exact .keep rfl (fun _ h => h) (.keep rfl (fun _ h => h) (.keep rfl (fun _ h => h) (.nil _)))))), _, _, rfl, rfl⟩⟩

/-! ### put, Import -/

def okTo (to : List Int) (r : Rul) : Prop := (r.k = 2 → 0 ≤ r.a ∧ r.a < to.length ∧ 0 ≤ r.b ∧ r.b < to.length) ∧ (r.k = 3 → 0 ≤ r.a ∧ r.a < to.length)
theorem getD_app0 {to : List Int} {m i : Nat} : (to ++ List.replicate m 0).getD i 0 = to.getD i 0 := by
  rw [List.getD_eq_getElem?_getD, List.getD_eq_getElem?_getD, List.getElem?_append]
  split
  · rfl
  · rename_i h
    rw [List.getElem?_eq_none (by omega : to.length ≤ i), List.getElem?_replicate]
    split <;> rfl
theorem calls_put (b : Nat) (S : Sto) (hw : WF S) (r : Rul) (hr0 : 0 ≤ r.l) (hr : r.l < 256) (hk : r.k = 1 ∨ r.k = 2 ∨ r.k = 3) (ht : r.t ≤ 9223372036854775807) (to : List Int) (hto : okTo to r) (a : Option Addr) (c key : Nat) (fp : List Nat) (w : World) (hR : StR w key fp b S) (hin : In w fp a (ints .i64 to)) :
    Calls Try.prog fn_P_intern_Store_put #[pS b, ruV r, .slice a to.length c] w fun e w' => ∃ v L1, e = .returned v ∧ R w fp L1 w' ∧ retS key b (stRul S r to).1 (resV (stRul S r to).2) v L1 := by
  refine part_call [.v (pS b), .v (ruV r), .v (.slice a to.length c)] ok_P_intern_Store_put (by simp) (hR.key 77) ?_
  obtain ⟨l, hl⟩ : ∃ l : Nat, r.l = l := ⟨r.l.toNat, by omega⟩
  have c1 := calls_Letter b S r.l.toNat (by omega) hw.small
  rw [hl, Int.toNat_natCast] at c1
  have c2 := calls_Pair b S hw (to.getD r.a.toNat 0) (to.getD r.b.toNat 0)
  have c3 := calls_Power b S hw (to.getD r.a.toNat 0) r.t ht
  obtain ⟨h2, h3⟩ := hto
  unfold stRul
  rcases hk with hk | hk | hk
  · rw [if_pos hk, hl, Int.toNat_natCast]
    (repeat' ((conv => whnf); first | (refine CallK_pack (key := 77) rfl (fun w hR h0 => c1 _ _ _ h0) ?_; rintro _ _ ⟨rfl, fp', rfl⟩; refine ⟨.v _, rfl, ?_⟩) | rw [hl] | (refine bcase_prop (fun h => ?_) (fun h => ?_) <;> try (exfalso; omega)) | (refine bcase_nprop (fun h => ?_) (fun h => ?_) <;> try (exfalso; omega)) | (refine bcase_intro (fun h => ?_) (fun h => ?_) <;> (try simp only [Bool.not_eq_true', Bool.not_eq_false', decide_eq_true_eq, decide_eq_false_iff_not, Bool.not_eq_true, Bool.not_eq_false, Decidable.not_not] at h)) | refine And.intro (by first | omega | exact rfl | assumption | exact ⟨rfl, rfl, rfl, rfl, rfl⟩ | exact ⟨rfl, rfl, rfl, rfl⟩ | exact ⟨rfl, by omega⟩ | exact oneAll_of rfl | exact ⟨rfl, oneAll_of rfl⟩ | exact Ref.refl _ | exact Thin.ref (.skip (Thin.refl _)) | exact Thin.ref (.skip (.skip (Thin.refl _))) | exact ⟨rfl, Nat.le_of_ble_eq_true rfl⟩ | ((try unfold maxLen); (try simp only [List.length_nil, List.length_cons, List.length_append]); omega) | (refine ⟨rfl, ?_⟩; (try simp only [List.length_nil, List.length_cons, List.length_append]); omega)) ?_ | intro _)); (all_goals (conv => whnf))
    all_goals first | (exfalso; omega) | exact ⟨endP (by (repeat (first | exact Thin.nil _ | exact Thin.refl _ | refine Thin.keep rfl (fun _ h => h) ?_ | refine Thin.skip ?_))) rfl⟩
  · obtain ⟨q1, q2, q3, q4⟩ := h2 hk
    rw [if_neg (by omega), if_pos hk]
    have n1 : a ≠ none := hin.ne' (k := r.a.toNat) (by rw [ints_length]; omega)
    have rd1 := fun {L : List Ent} => rdI (L := L) hin (i := r.a.toNat) (by omega)
    have rd2 := fun {L : List Ent} => rdI (L := L) hin (i := r.b.toNat) (by omega)
    (repeat' ((conv => whnf); first | (refine CallK_pack (key := 77) rfl (fun w hR h0 => c2 _ _ _ h0) ?_; rintro _ _ ⟨rfl, fp', rfl⟩; refine ⟨.v _, rfl, ?_⟩) | rw [Nat.mul_one] | refine ⟨_, rd1, ?_⟩ | refine ⟨_, rd2, ?_⟩ | (refine bcase_prop (fun h => ?_) (fun h => ?_) <;> try (exfalso; omega)) | (refine bcase_nprop (fun h => ?_) (fun h => ?_) <;> try (exfalso; omega)) | (refine bcase_intro (fun h => ?_) (fun h => ?_) <;> (try simp only [Bool.not_eq_true', Bool.not_eq_false', decide_eq_true_eq, decide_eq_false_iff_not, Bool.not_eq_true, Bool.not_eq_false, Decidable.not_not] at h)) | refine And.intro (by first | omega | exact rfl | assumption | exact ⟨rfl, rfl, rfl, rfl, rfl⟩ | exact ⟨rfl, rfl, rfl, rfl⟩ | exact ⟨rfl, by omega⟩ | exact oneAll_of rfl | exact ⟨rfl, oneAll_of rfl⟩ | exact Ref.refl _ | exact Thin.ref (.skip (Thin.refl _)) | exact Thin.ref (.skip (.skip (Thin.refl _))) | exact ⟨rfl, Nat.le_of_ble_eq_true rfl⟩ | ((try unfold maxLen); (try simp only [List.length_nil, List.length_cons, List.length_append]); omega) | (refine ⟨rfl, ?_⟩; (try simp only [List.length_nil, List.length_cons, List.length_append]); omega)) ?_ | intro _)); (all_goals (conv => whnf))
    all_goals first | (exfalso; omega) | exact ⟨endP (by (repeat (first | exact Thin.nil _ | exact Thin.refl _ | refine Thin.keep rfl (fun _ h => h) ?_ | refine Thin.skip ?_))) rfl⟩
  · obtain ⟨q1, q2⟩ := h3 hk
    rw [if_neg (by omega), if_neg (by omega)]
    have n1 : a ≠ none := hin.ne' (k := r.a.toNat) (by rw [ints_length]; omega)
    have rd1 := fun {L : List Ent} => rdI (L := L) hin (i := r.a.toNat) (by omega)
    (repeat' ((conv => whnf); first | (refine CallK_pack (key := 77) rfl (fun w hR h0 => c3 _ _ _ h0) ?_; rintro _ _ ⟨rfl, fp', rfl⟩; refine ⟨.v _, rfl, ?_⟩) | rw [Nat.mul_one] | refine ⟨_, rd1, ?_⟩ | (refine bcase_prop (fun h => ?_) (fun h => ?_) <;> try (exfalso; omega)) | (refine bcase_nprop (fun h => ?_) (fun h => ?_) <;> try (exfalso; omega)) | (refine bcase_intro (fun h => ?_) (fun h => ?_) <;> (try simp only [Bool.not_eq_true', Bool.not_eq_false', decide_eq_true_eq, decide_eq_false_iff_not, Bool.not_eq_true, Bool.not_eq_false, Decidable.not_not] at h)) | refine And.intro (by first | omega | exact rfl | assumption | exact ⟨rfl, rfl, rfl, rfl, rfl⟩ | exact ⟨rfl, rfl, rfl, rfl⟩ | exact ⟨rfl, by omega⟩ | exact oneAll_of rfl | exact ⟨rfl, oneAll_of rfl⟩ | exact Ref.refl _ | exact Thin.ref (.skip (Thin.refl _)) | exact Thin.ref (.skip (.skip (Thin.refl _))) | exact ⟨rfl, Nat.le_of_ble_eq_true rfl⟩ | ((try unfold maxLen); (try simp only [List.length_nil, List.length_cons, List.length_append]); omega) | (refine ⟨rfl, ?_⟩; (try simp only [List.length_nil, List.length_cons, List.length_append]); omega)) ?_ | intro _)); (all_goals (conv => whnf))
    all_goals first | (exfalso; omega) | exact ⟨endP (by (repeat (first | exact Thin.nil _ | exact Thin.refl _ | refine Thin.keep rfl (fun _ h => h) ?_ | refine Thin.skip ?_))) rfl⟩

theorem splice_ints {k : IntKind} {xs : List Int} {j : Nat} {z : Int} (h : j < xs.length) : splice (ints k xs) j [.int k z] = ints k (xs.set j z) := by
  unfold splice ints
  rw [List.set_eq_take_append_cons_drop, if_pos h]
  simp
theorem set_zeros {to : List Int} {m : Nat} {z : Int} : (to ++ List.replicate (m + 1) 0).set to.length z = (to ++ [z]) ++ List.replicate m 0 := by
  rw [List.set_append_right _ _ (Nat.le_refl _), Nat.sub_self, List.replicate_succ, List.set_cons_zero]
  simp
theorem flat_zeros (m : Nat) : (List.replicate m [Value.int .i64 0]).flatten = ints .i64 (List.replicate m 0) := by
  induction m with
  | zero => rfl
  | succ m ih => rw [List.replicate_succ, List.replicate_succ, List.flatten_cons, ih]; rfl
theorem okTo_of {r : Rul} {n : Int} {to : List Int} (h : okR r n) (hl : n ≤ to.length) : okTo to r := by
  rcases h with h | ⟨h1, _, _, h4, h5, h6, h7⟩ | ⟨h1, _, _, _, h5, h6⟩
  · exact ⟨fun hk => by omega, fun hk => by omega⟩
  · exact ⟨fun _ => by omega, fun hk => by omega⟩
  · exact ⟨fun hk => by omega, fun _ => by omega⟩
theorem stRul_app0 {S : Sto} {r : Rul} {to : List Int} {m : Nat} : stRul S r (to ++ List.replicate m 0) = stRul S r to := by
  unfold stRul
  rw [getD_app0, getD_app0]

structure ImpG where
  i : Nat
  S : Sto
  to : List Int
  fp : List Nat
/-- What is known of a list of rules. -/
structure Gram (g : List Rul) : Prop where
  rul : ∀ i, i < g.length → okR (g.getD i rul0) (i + 1)
  let_ : ∀ i, i < g.length → 0 ≤ (g.getD i rul0).l ∧ (g.getD i rul0).l < 256
  tim : ∀ i, i < g.length → (g.getD i rul0).t ≤ 9223372036854775807
theorem drop_cons {α : Type} {l : List α} {i : Nat} {d : α} (h : i < l.length) : l.drop i = l.getD i d :: l.drop (i + 1) := by
  rw [List.drop_eq_getElem_cons h, List.getD_eq_getElem?_getD, List.getElem?_eq_getElem h]; rfl

theorem calls_Import (b : Nat) (S : Sto) (hw : WF S) (g : List Rul) (hg : Gram g) (S' : Sto) (to' : List Int) (himp : stImp S [0] g = some (S', to')) (hlen : g.length ≤ 1048576) (a : Option Addr) (c key : Nat) (fp : List Nat) (w : World) (hR : StR w key fp b S) (hin : In w fp a (rulsC g)) :
    Calls Try.prog fn_P_intern_Store_Import #[pS b, .slice a g.length c] w fun e w' => ∃ v L1, e = .returned v ∧ R w fp L1 w' ∧ retS key b S' (.tuple #[.int .i64 (to'.getD g.length 0), .nilIface]) v L1 := by
  refine part_call [.v (pS b), .v (.slice a g.length c)] ok_P_intern_Store_Import (by simp) (hR.key 77) ?_
  have hne : ∀ i, i < g.length → a ≠ none := fun i hi => hin.ne' (k := i * 5) (by rw [rulsC_length]; omega)
  have hrd := fun {L : List Ent} (i : Nat) (hi : i < g.length) => In.rdn (L := L) (vs := ruC (g.getD i rul0)) (k := i * 5) hin (Nat.succ_pos _) (rulsC_at hi)
  have hn1 : ((g.length : Int) + 1).toNat = g.length + 1 := by omega
  have hz := flat_zeros (g.length + 1)
  (repeat' ((conv => whnf); first | rw [hn1] | rw [hz] | (refine bcase_prop (fun h => ?_) (fun h => ?_) <;> try (exfalso; omega)) | (refine bcase_nprop (fun h => ?_) (fun h => ?_) <;> try (exfalso; omega)) | (refine bcase_intro (fun h => ?_) (fun h => ?_) <;> (try simp only [Bool.not_eq_true', Bool.not_eq_false', decide_eq_true_eq, decide_eq_false_iff_not, Bool.not_eq_true, Bool.not_eq_false, Decidable.not_not] at h)) | refine And.intro (by first | omega | exact rfl | assumption | exact ⟨rfl, rfl, rfl, rfl, rfl⟩ | exact ⟨rfl, rfl, rfl, rfl⟩ | exact ⟨rfl, by omega⟩ | exact oneAll_of rfl | exact ⟨rfl, oneAll_of rfl⟩ | exact Ref.refl _ | exact Thin.ref (.skip (Thin.refl _)) | exact Thin.ref (.skip (.skip (Thin.refl _))) | exact ⟨by omega, by omega, by omega, by unfold maxLen; omega⟩ | exact ⟨rfl, Nat.le_of_ble_eq_true rfl⟩ | ((try unfold maxLen); (try simp only [List.length_nil, List.length_cons, List.length_append]); omega) | (refine ⟨rfl, ?_⟩; (try simp only [List.length_nil, List.length_cons, List.length_append]); omega)) ?_ | intro _)); (all_goals (conv => whnf))
  refine VC_loop Nat (fun i => [(0, .v (pS b)), (1, .v (.slice a g.length c)), (17, .v (.slice a g.length c)), (18, .v (.int .i64 g.length)), (19, .v (.int .i64 i))])
    (fun _ => [packE 77 fp (fS b S)]) (fun i => i ≤ g.length) (fun i => g.length - i) 0 (Nat.zero_le _) (by (repeat ((conv => whnf); refine And.intro (by first | exact rfl | exact vint_eq (by omega) | exact vint_eq (by (dsimp only; omega)) | exact vsl_eq (by omega) | exact vsl_eq (by first | (dsimp only; omega) | (simp; done) | (simp; omega))) ?_)); exact trivial) (Ref.refl _) ?_
  intro i hi
  have hn0 := hne i
  have hrd' := fun {L : List Ent} h => hrd (L := L) i h
  have c1 := fun h => calls_rCheck (g.getD i rul0) ((i : Int) + 1) (hg.rul i h) (by omega)
  (repeat' ((conv => whnf); first | rw [Int.toNat_natCast] | rw [hn1] | rw [hz] | refine ⟨ruC (g.getD i rul0), rfl, hrd' (by omega), ?_⟩ | refine CallK_pure (.v _) (fun w hR => c1 (by omega) w) ?_ | (refine bcase_prop (fun h => ?_) (fun h => ?_) <;> try (exfalso; omega)) | (refine bcase_nprop (fun h => ?_) (fun h => ?_) <;> try (exfalso; omega)) | (refine bcase_intro (fun h => ?_) (fun h => ?_) <;> (try simp only [Bool.not_eq_true', Bool.not_eq_false', decide_eq_true_eq, decide_eq_false_iff_not, Bool.not_eq_true, Bool.not_eq_false, Decidable.not_not] at h)) | refine And.intro (by first | omega | exact rfl | assumption | exact ⟨rfl, rfl, rfl, rfl, rfl⟩ | exact ⟨rfl, rfl, rfl, rfl⟩ | exact ⟨rfl, by omega⟩ | exact oneAll_of rfl | exact ⟨rfl, oneAll_of rfl⟩ | exact Ref.refl _ | exact Thin.ref (.skip (Thin.refl _)) | exact Thin.ref (.skip (.skip (Thin.refl _))) | exact hn0 (by omega) | exact ⟨by omega, by omega, by omega, by unfold maxLen; omega⟩ | exact ⟨rfl, Nat.le_of_ble_eq_true rfl⟩ | ((try unfold maxLen); (try simp only [List.length_nil, List.length_cons, List.length_append]); omega) | (refine ⟨rfl, ?_⟩; (try simp only [List.length_nil, List.length_cons, List.length_append]); omega)) ?_ | intro _)); (all_goals (conv => whnf))
  · refine loop_next (i + 1) (show i + 1 ≤ g.length by omega) (show g.length - (i + 1) < g.length - i by omega) (by (repeat ((conv => whnf); refine And.intro (by first | exact rfl | exact vint_eq (by omega) | exact vint_eq (by (dsimp only; omega)) | exact vsl_eq (by omega) | exact vsl_eq (by first | (dsimp only; omega) | (simp; done) | (simp; omega))) ?_)); exact trivial) (Thin.ref (by (repeat (first | exact Thin.nil _ | exact Thin.refl _ | refine Thin.keep rfl (fun _ h => h) ?_ | refine Thin.skip ?_))))
  · rename_i b35
    refine VC_loop ImpG (fun x => [(0, .v (pS b)), (1, .v (.slice a g.length c)), (9, .sl 35 (some ⟨b35, 0, none⟩) (g.length + 1) (g.length + 1)), (36, .v (.slice a g.length c)), (37, .v (.int .i64 g.length)), (38, .v (.int .i64 x.i))])
      (fun x => [packE 77 x.fp (fS b x.S), .own 35 (some ⟨b35, 0, none⟩) (g.length + 1) (g.length + 1) ty_api_ID 1 (ints .i64 (x.to ++ List.replicate (g.length - x.i) 0))])
      (fun x => x.i ≤ g.length ∧ x.to.length = x.i + 1 ∧ WF x.S ∧ stImp x.S x.to (g.drop x.i) = some (S', to')) (fun x => g.length - x.i) ⟨0, S, [0], fp⟩ ⟨Nat.zero_le _, rfl, hw, himp⟩ (by (repeat ((conv => whnf); refine And.intro (by first | exact rfl | exact vint_eq (by omega) | exact vint_eq (by (dsimp only; omega)) | exact vsl_eq (by omega) | exact vsl_eq (by first | (dsimp only; omega) | (simp; done) | (simp; omega))) ?_)); exact trivial) ?_ ?_
    · refine (Ref.perm (.swap _ _ _)).trans (Thin.ref ?_)
      exact .keep rfl (fun _ h => h) (.own rfl rfl (.nil _))
    rintro ⟨i, Si, toi, fpi⟩ ⟨hi, hti, hwi, hst⟩
    dsimp only at hi hti hwi hst ⊢
    have hni : ((i : Int) + 1).toNat = i + 1 := by omega
    have hi0 := hne i
    by_cases hlt : i < g.length
    · rw [drop_cons (d := rul0) hlt] at hst
      obtain ⟨h0, hst2⟩ := stImp_cons hst
      have hrul := hg.rul i hlt
      have hlet := hg.let_ i hlt
      have htim := hg.tim i hlt
      have hw2 := (stRul_wf (to := toi) hwi hlet.2).1
      have c2 := fun key fp w h hin => calls_put b Si hwi (g.getD i rul0) hlet.1 hlet.2 (by rcases hrul with h | h | h <;> omega) htim (toi ++ List.replicate (g.length - i) 0) (okTo_of hrul (by simp; omega)) (some ⟨b35, 0, none⟩) (g.length + 1) key fp w h hin
      rw [stRul_app0] at c2
      obtain ⟨S2, id, e2⟩ : ∃ S2 id, stRul Si (g.getD i rul0) toi = (S2, id, 0) := ⟨_, _, by rw [← h0]⟩
      rw [e2] at c2 hst2 hw2
      have hll : (toi ++ List.replicate (g.length - i) (0 : Int)).length = g.length + 1 := by simp; omega
      rw [hll] at c2
      have hsp : splice (ints .i64 (toi ++ List.replicate (g.length - i) 0)) (i + 1) [.int .i64 id] = ints .i64 ((toi ++ [id]) ++ List.replicate (g.length - (i + 1)) 0) := by
        rw [splice_ints (by simp; omega), show g.length - i = g.length - (i + 1) + 1 by omega, ← hti, set_zeros]
      have hsl : i + 1 + 1 ≤ (ints .i64 (toi ++ List.replicate (g.length - i) 0)).length := by rw [ints_length]; simp; omega
      have hr1 := fun {L : List Ent} => hrd (L := L) i hlt
      (repeat' ((conv => whnf); first | rw [Int.toNat_natCast] | rw [hni] | rw [Nat.mul_one] | rw [hsp] | refine ⟨ruC (g.getD i rul0), rfl, hr1, ?_⟩ | (refine CallK_pack (key := 77) rfl (fun w hR h0 => c2 _ _ _ h0 (In.beside (key := 35) hR rfl)) ?_; rintro _ _ ⟨rfl, fp', rfl⟩; refine ⟨.v _, rfl, ?_⟩) | (refine bcase_prop (fun h => ?_) (fun h => ?_) <;> try (exfalso; omega)) | (refine bcase_nprop (fun h => ?_) (fun h => ?_) <;> try (exfalso; omega)) | (refine bcase_intro (fun h => ?_) (fun h => ?_) <;> (try simp only [Bool.not_eq_true', Bool.not_eq_false', decide_eq_true_eq, decide_eq_false_iff_not, Bool.not_eq_true, Bool.not_eq_false, Decidable.not_not] at h)) | refine And.intro (by first | omega | exact rfl | assumption | exact ⟨rfl, rfl, rfl, rfl, rfl⟩ | exact ⟨rfl, rfl, rfl, rfl⟩ | exact ⟨rfl, by omega⟩ | exact oneAll_of rfl | exact ⟨rfl, oneAll_of rfl⟩ | exact Ref.refl _ | exact Thin.ref (.skip (Thin.refl _)) | exact Thin.ref (.skip (.skip (Thin.refl _))) | exact hi0 (by omega) | exact ⟨rfl, hsl⟩ | exact ⟨rfl, Nat.le_of_ble_eq_true rfl⟩ | ((try unfold maxLen); (try simp only [List.length_nil, List.length_cons, List.length_append]); omega) | (refine ⟨rfl, ?_⟩; (try simp only [List.length_nil, List.length_cons, List.length_append]); omega)) ?_ | intro _)); (all_goals (conv => whnf))
      refine loop_next ⟨i + 1, S2, toi ++ [id], fp'⟩ ⟨hlt, by simp; omega, hw2, hst2⟩ (by ((try dsimp only); omega)) (by (repeat ((conv => whnf); refine And.intro (by first | exact rfl | exact vint_eq (by omega) | exact vint_eq (by (dsimp only; omega)) | exact vsl_eq (by omega) | exact vsl_eq (by first | (dsimp only; omega) | (simp; done) | (simp; omega))) ?_)); exact trivial) (Thin.ref (by (repeat (first | exact Thin.nil _ | exact Thin.refl _ | refine Thin.keep rfl (fun _ h => h) ?_ | refine Thin.skip ?_))))
    · have hin' : i = g.length := by omega
      subst hin'
      rw [List.drop_length] at hst
      simp only [stImp, Option.some.injEq, Prod.mk.injEq] at hst
      obtain ⟨rfl, rfl⟩ := hst
      have hk : isK (.int .i64) (ints .i64 (toi ++ List.replicate (g.length - g.length) 0)) g.length := isK_ints (by simp; omega)
      have hv : intOf (atL (ints .i64 (toi ++ List.replicate (g.length - g.length) 0)) g.length) = toi.getD g.length 0 := by
        rw [intOf_ints (by simp; omega), getD_app0]
      (repeat' ((conv => whnf); first | rw [Int.toNat_natCast] | rw [Nat.mul_one] | rw [hv] | (refine bcase_prop (fun h => ?_) (fun h => ?_) <;> try (exfalso; omega)) | (refine bcase_nprop (fun h => ?_) (fun h => ?_) <;> try (exfalso; omega)) | (refine bcase_intro (fun h => ?_) (fun h => ?_) <;> (try simp only [Bool.not_eq_true', Bool.not_eq_false', decide_eq_true_eq, decide_eq_false_iff_not, Bool.not_eq_true, Bool.not_eq_false, Decidable.not_not] at h)) | refine And.intro (by first | omega | exact rfl | assumption | exact ⟨rfl, rfl, rfl, rfl, rfl⟩ | exact ⟨rfl, rfl, rfl, rfl⟩ | exact ⟨rfl, by omega⟩ | exact oneAll_of rfl | exact ⟨rfl, oneAll_of rfl⟩ | exact Ref.refl _ | exact Thin.ref (.skip (Thin.refl _)) | exact Thin.ref (.skip (.skip (Thin.refl _))) | exact hk | exact ⟨rfl, Nat.le_of_ble_eq_true rfl⟩ | ((try unfold maxLen); (try simp only [List.length_nil, List.length_cons, List.length_append]); omega) | (refine ⟨rfl, ?_⟩; (try simp only [List.length_nil, List.length_cons, List.length_append]); omega)) ?_ | intro _)); (all_goals (conv => whnf))
      exact ⟨endP (by (repeat (first | exact Thin.nil _ | exact Thin.refl _ | refine Thin.keep rfl (fun _ h => h) ?_ | refine Thin.skip ?_))) rfl⟩
end Go.Proofs.Ytagoedllflalpaa
