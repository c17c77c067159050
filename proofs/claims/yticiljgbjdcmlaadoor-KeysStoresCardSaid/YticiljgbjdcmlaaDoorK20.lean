/- The helpers of the statements of chapter 20. -/
import Derived.Test.YticiljgbjdcmlaaDoorSRef20
import Derived.Test.YticiljgbjdcmlaaDoorSLens
namespace Go.Proofs.YticiljgbjdcmlaaDoor
open Go.EG
attribute [local irreducible] CallK QCall Go.Calls
set_option linter.unusedSimpArgs false
set_option linter.unusedVariables false
set_option maxRecDepth 20000
set_option maxHeartbeats 1000000

/-- A list of rules that came in. -/
structure GIn (g : List Rul) : Prop where
  len : g.length * 40 ≤ 140737488355328
  let_ : ∀ i, i < g.length → 0 ≤ (g.getD i rul0).l ∧ (g.getD i rul0).l < 256
  tim : ∀ i, i < g.length → (g.getD i rul0).t ≤ 9223372036854775807

def goodB (g : List Rul) : Bool := decide (chk 1 g = 0) && gLen [] g && decide (g.length ≤ 60)
theorem good_spec {g : List Rul} (h : goodB g = true) (hg : GIn g) : Gram g ∧ gLen [] g = true ∧ g.length ≤ 60 := by
  simp only [goodB, Bool.and_eq_true, decide_eq_true_eq] at h
  refine ⟨⟨fun i hi => ?_, hg.let_, hg.tim⟩, h.1.2, h.2⟩
  have := (chk_zero.1 h.1.1) i hi
  rwa [show (1 : Int) + (i : Int) = i + 1 by omega] at this
theorem good_imp {g : List Rul} (h : goodB g = true) (hg : GIn g) {S : Sto} (hw : WF S) (hroom : S.E.length + g.length ≤ S.most) :
    ∃ S' to', stImp S [0] g = some (S', to') ∧ WF S' ∧ Grow S S' ∧ Rel S' to' (gTs [] g) ∧ S'.E.length ≤ S.E.length + g.length := by
  obtain ⟨h1, h2, h3⟩ := good_spec h hg
  exact stImp_ok hw (Rel.start S) (fun i hi => by
    have := h1.rul i hi
    simpa [show ((0 : Nat) : Int) + 1 + (i : Int) = i + 1 by omega] using (show okR (g.getD i rul0) ((([] : List Tm).length : Int) + 1 + i) by simpa [Int.add_comm] using this)) h1.let_ h2 hroom

theorem calls_good (g : List Rul) (hg : GIn g) (a : Option Addr) (c : Nat) (w : World) (hin : In w [] a (rulsC g)) : Calls Tryd.prog fn_evergreenlaw20_good #[.slice a g.length c] w fun e w' => e = .returned (.bool (goodB g)) ∧ Ext w w' := by
  refine pure_call [.v (.slice a g.length c)] w ok_evergreenlaw20_good (by simp) ?_
  have c1 := fun w h => calls_Lengths g a c hg.len hg.tim w h
  unfold goodB
  by_cases h : chk 1 g = 0 ∧ gLen [] g = true
  · obtain ⟨h1, h2⟩ := h
    rw [h1, h2]
    (repeat' ((conv => whnf); first | (refine CallK_new (fun w hR => c1 w (hin.cast hR (by simp))) ?_; rintro _ _ ⟨hq, _⟩; obtain ⟨a', c', rfl, rfl⟩ := hq h1 h2; refine ⟨.v _, rfl, ?_⟩) | (refine bcase_prop (fun h => ?_) (fun h => ?_) <;> try (exfalso; omega)) | (refine bcase_nprop (fun h => ?_) (fun h => ?_) <;> try (exfalso; omega)) | (refine bcase_intro (fun h => ?_) (fun h => ?_) <;> (try simp only [Bool.not_eq_true', Bool.not_eq_false', decide_eq_true_eq, decide_eq_false_iff_not, Bool.not_eq_true, Bool.not_eq_false, Decidable.not_not] at h)) | refine And.intro (by first | omega | exact rfl | assumption | exact ⟨rfl, rfl, rfl, rfl, rfl⟩ | exact ⟨rfl, rfl, rfl, rfl⟩ | exact ⟨rfl, by omega⟩ | exact oneAll_of rfl | exact ⟨rfl, oneAll_of rfl⟩ | exact Ref.refl _ | exact Thin.ref (.skip (Thin.refl _)) | exact Thin.ref (.skip (.skip (Thin.refl _))) | exact ⟨rfl, Nat.le_of_ble_eq_true rfl⟩ | ((try unfold maxLen); (try simp only [List.length_nil, List.length_cons, List.length_append]); omega) | (refine ⟨rfl, ?_⟩; (try simp only [List.length_nil, List.length_cons, List.length_append]); omega)) ?_ | intro _)); (all_goals (conv => whnf))
    refine ⟨?_⟩
    have e : decide ((g.length : Int) ≤ 60) = decide (g.length ≤ 60) := by rw [decide_eq_decide]; omega
    show Value.bool (decide ((g.length : Int) ≤ 60)) = _
    rw [e]; rfl
  · have hb : (decide (chk 1 g = 0) && gLen [] g) = false := by
      cases h2 : gLen [] g
      · simp
      · rw [decide_eq_false (fun h1 => h ⟨h1, h2⟩)]; rfl
    rw [hb]
    (repeat' ((conv => whnf); first | (refine CallK_new (fun w hR => c1 w (hin.cast hR (by simp))) ?_; rintro _ _ ⟨_, hq⟩; obtain ⟨cd, hcd, rfl, rfl⟩ := hq h; refine ⟨.v _, rfl, ?_⟩) | (refine bcase_prop (fun h => ?_) (fun h => ?_) <;> try (exfalso; omega)) | (refine bcase_nprop (fun h => ?_) (fun h => ?_) <;> try (exfalso; omega)) | (refine bcase_intro (fun h => ?_) (fun h => ?_) <;> (try simp only [Bool.not_eq_true', Bool.not_eq_false', decide_eq_true_eq, decide_eq_false_iff_not, Bool.not_eq_true, Bool.not_eq_false, Decidable.not_not] at h)) | refine And.intro (by first | omega | exact rfl | assumption | exact ⟨rfl, rfl, rfl, rfl, rfl⟩ | exact ⟨rfl, rfl, rfl, rfl⟩ | exact ⟨rfl, by omega⟩ | exact oneAll_of rfl | exact ⟨rfl, oneAll_of rfl⟩ | exact Ref.refl _ | exact Thin.ref (.skip (Thin.refl _)) | exact Thin.ref (.skip (.skip (Thin.refl _))) | exact ⟨rfl, Nat.le_of_ble_eq_true rfl⟩ | ((try unfold maxLen); (try simp only [List.length_nil, List.length_cons, List.length_append]); omega) | (refine ⟨rfl, ?_⟩; (try simp only [List.length_nil, List.length_cons, List.length_append]); omega)) ?_ | intro _)); (all_goals (conv => whnf))
    all_goals first | (exfalso; omega) | exact ⟨rfl⟩

/-! ### The rules of a store -/

theorem ruls_take {E : List Entr} {i : Nat} (h1 : 1 ≤ i) (h2 : i ≤ E.length) : rulsC ((ruls E).take i) ++ ruC (atE E i).r = rulsC ((ruls E).take (i + 1)) := by
  rw [rulsC_snoc, ← ruls_at h1 h2]
  congr 1
  have hlt : i < (ruls E).length := by rw [ruls_length]; omega
  rw [List.take_add_one, List.getD_eq_getElem?_getD, List.getElem?_eq_getElem hlt]
  rfl
structure TabL where
  i : Nat
  a : Option Addr
  c : Nat
  fp : List Nat
def tableQ (key b : Nat) (S : Sto) (v : Value) (L1 : List Ent) : Prop := ∃ a c fp', v = .tuple #[.slice a (S.E.length + 1) c, .bool true] ∧ L1 = [packE key fp' (fS b S), .own 600 a (S.E.length + 1) c ty_api_Rule 5 (rulsC (ruls S.E))]
theorem calls_table (b : Nat) (S : Sto) (hw : WF S) (key : Nat) (fp : List Nat) (w : World) (hR : StR w key fp b S) : Calls Tryd.prog fn_evergreenlaw20_table #[pS b] w fun e w' => ∃ v L1, e = .returned v ∧ R w fp L1 w' ∧ tableQ key b S v L1 := by
  refine part_call [.v (pS b)] ok_evergreenlaw20_table (by simp) (hR.key 77) ?_
  have hsm := hw.small
  have c1 := calls_sLen b S
  (repeat' ((conv => whnf); first | (refine bcase_prop (fun h => ?_) (fun h => ?_) <;> try (exfalso; omega)) | (refine bcase_nprop (fun h => ?_) (fun h => ?_) <;> try (exfalso; omega)) | (refine bcase_intro (fun h => ?_) (fun h => ?_) <;> (try simp only [Bool.not_eq_true', Bool.not_eq_false', decide_eq_true_eq, decide_eq_false_iff_not, Bool.not_eq_true, Bool.not_eq_false, Decidable.not_not] at h)) | refine And.intro (by first | omega | exact rfl | assumption | exact ⟨rfl, rfl, rfl, rfl, rfl⟩ | exact ⟨rfl, rfl, rfl, rfl⟩ | exact ⟨rfl, by omega⟩ | exact oneAll_of rfl | exact ⟨rfl, oneAll_of rfl⟩ | exact Ref.refl _ | exact Thin.ref (.skip (Thin.refl _)) | exact Thin.ref (.skip (.skip (Thin.refl _))) | exact ⟨rfl, Nat.le_of_ble_eq_true rfl⟩ | ((try unfold maxLen); (try simp only [List.length_nil, List.length_cons, List.length_append]); omega) | (refine ⟨rfl, ?_⟩; (try simp only [List.length_nil, List.length_cons, List.length_append]); omega)) ?_ | intro _)); (all_goals (conv => whnf))
  rename_i b9
  refine VC_loop TabL (fun x => [(0, .v (pS b)), (4, .sl 500 x.a x.i x.c), (5, .v (.int .i64 x.i))]) (fun x => [packE 77 x.fp (fS b S), .own 500 x.a x.i x.c ty_api_Rule 5 (rulsC ((ruls S.E).take x.i))])
    (fun x => 1 ≤ x.i ∧ x.i ≤ S.E.length + 1) (fun x => S.E.length + 1 - x.i) ⟨1, some ⟨b9, 0, none⟩, 1, fp⟩ ⟨Nat.le_refl _, by simp⟩ (by (repeat ((conv => whnf); refine And.intro (by first | exact rfl | exact vint_eq (by omega) | exact vint_eq (by (dsimp only; omega)) | exact vsl_eq (by omega) | exact vsl_eq (by first | (dsimp only; omega) | (simp; done) | (simp; omega))) ?_)); exact trivial) ((Ref.perm (.swap _ _ _)).trans (Thin.ref (.keep rfl (fun _ h => h) (.own rfl rfl (.nil _))))) ?_
  rintro ⟨i, a, c, fp⟩ ⟨h1, h2⟩
  dsimp only at h1 h2 ⊢
  by_cases hlt : i ≤ S.E.length
  case neg =>
    have hi : i = S.E.length + 1 := by omega
    subst hi
    have hall : (ruls S.E).take (S.E.length + 1) = ruls S.E := by rw [← ruls_length, List.take_length]
    rw [hall]
    (repeat' ((conv => whnf); first | (refine CallK_pack (key := 77) rfl (fun w hR h0 => c1 _ _ _ h0) ?_; rintro _ _ ⟨rfl, fp', rfl⟩; refine ⟨.v _, rfl, ?_⟩) | (refine bcase_prop (fun h => ?_) (fun h => ?_) <;> try (exfalso; omega)) | (refine bcase_nprop (fun h => ?_) (fun h => ?_) <;> try (exfalso; omega)) | (refine bcase_intro (fun h => ?_) (fun h => ?_) <;> (try simp only [Bool.not_eq_true', Bool.not_eq_false', decide_eq_true_eq, decide_eq_false_iff_not, Bool.not_eq_true, Bool.not_eq_false, Decidable.not_not] at h)) | refine And.intro (by first | omega | exact rfl | assumption | exact ⟨rfl, rfl, rfl, rfl, rfl⟩ | exact ⟨rfl, rfl, rfl, rfl⟩ | exact ⟨rfl, by omega⟩ | exact oneAll_of rfl | exact ⟨rfl, oneAll_of rfl⟩ | exact Ref.refl _ | exact Thin.ref (.skip (Thin.refl _)) | exact Thin.ref (.skip (.skip (Thin.refl _))) | exact ⟨rfl, Nat.le_of_ble_eq_true rfl⟩ | ((try unfold maxLen); (try simp only [List.length_nil, List.length_cons, List.length_append]); omega) | (refine ⟨rfl, ?_⟩; (try simp only [List.length_nil, List.length_cons, List.length_append]); omega)) ?_ | intro _)); (all_goals (conv => whnf))
    exact ⟨⟨[packE key fp' (fS b S), .own 600 a (S.E.length + 1) c ty_api_Rule 5 (rulsC (ruls S.E))], Thin.ref (.keep rfl (fun _ h => h) (.own rfl rfl (.nil _))), a, c, fp', rfl, rfl⟩⟩
  · have c2 := calls_Rule b S i hsm
    rw [ruleV_ok (by omega) (by omega)] at c2
    obtain ⟨hr, _, _, _, _⟩ := hw.at_ (n := i) (by omega) (by omega)
    have la : 0 ≤ (atE S.E i).r.a ∧ (atE S.E i).r.a < i := by rcases hr with h | h | h <;> omega
    have lb : 0 ≤ (atE S.E i).r.b ∧ (atE S.E i).r.b < i := by rcases hr with h | h | h <;> omega
    have hsn := ruls_take (E := S.E) h1 hlt
    have hnx : 1 ≤ i + 1 ∧ i + 1 ≤ S.E.length + 1 := by omega
    have hmx : i + 1 ≤ maxLen ∧ (i + 1) * 40 ≤ 140737488355328 := ⟨by unfold maxLen; omega, by omega⟩
    (repeat' ((conv => whnf); first | (refine CallK_pack (key := 77) rfl (fun w hR h0 => c1 _ _ _ h0) ?_; rintro _ _ ⟨rfl, fp', rfl⟩; refine ⟨.v _, rfl, ?_⟩) | (refine CallK_pack (key := 77) rfl (fun w hR h0 => c2 _ _ _ h0) ?_; rintro _ _ ⟨rfl, fp', rfl⟩; refine ⟨.v _, rfl, ?_⟩) | rw [hsn] | (refine bcase_prop (fun h => ?_) (fun h => ?_) <;> try (exfalso; omega)) | (refine bcase_nprop (fun h => ?_) (fun h => ?_) <;> try (exfalso; omega)) | (refine bcase_intro (fun h => ?_) (fun h => ?_) <;> (try simp only [Bool.not_eq_true', Bool.not_eq_false', decide_eq_true_eq, decide_eq_false_iff_not, Bool.not_eq_true, Bool.not_eq_false, Decidable.not_not] at h)) | refine And.intro (by first | omega | exact rfl | assumption | exact ⟨rfl, rfl, rfl, rfl, rfl⟩ | exact ⟨rfl, rfl, rfl, rfl⟩ | exact ⟨rfl, by omega⟩ | exact oneAll_of rfl | exact ⟨rfl, oneAll_of rfl⟩ | exact Ref.refl _ | exact Thin.ref (.skip (Thin.refl _)) | exact Thin.ref (.skip (.skip (Thin.refl _))) | exact ⟨rfl, Nat.le_of_ble_eq_true rfl⟩ | ((try unfold maxLen); (try simp only [List.length_nil, List.length_cons, List.length_append]); omega) | (refine ⟨rfl, ?_⟩; (try simp only [List.length_nil, List.length_cons, List.length_append]); omega)) ?_ | intro _)); (all_goals (conv => whnf))
    rename_i a' c'
    refine loop_next ⟨i + 1, a', c', fp'⟩ hnx (by ((try dsimp only); omega)) (by (repeat ((conv => whnf); refine And.intro (by first | exact rfl | exact vint_eq (by omega) | exact vint_eq (by (dsimp only; omega)) | exact vsl_eq (by omega) | exact vsl_eq (by first | (dsimp only; omega) | (simp; done) | (simp; omega))) ?_)); exact trivial) (Thin.ref (.skip (.skip (.keep rfl (fun _ h => h) (.own rfl rfl (.nil _))))))

/-! ### is, fails -/

theorem calls_is (bt bs : Nat) (S : Sto) (hw : WF S) (id : Int) (h1 : 1 ≤ id) (h2 : id ≤ S.E.length) : TC fn_evergreenlaw20_is #[pS bt, .int .i64 id, .agg (kvC ((tm S.E id).key, (tm S.E id).level)).toArray] bt bs S (.bool true) := by
  intro k1 k2 fp1 fp2 w hR hG
  have hR : R w (fp1 ++ fp2) [packE 78 fp1 (fT bt bs S.E), packE 77 fp2 (fS bs S)] w := (Thin.packE (Thin.packE (.nil []))).ref w hR
  refine part_call [.v (pS bt), .v (.int .i64 id), .v (.agg (kvC ((tm S.E id).key, (tm S.E id).level)).toArray)] ok_evergreenlaw20_is (by simp) hR ?_
  have c1 := calls_Key bt bs S hw id
  have c2 := calls_Level bt bs S hw id
  have c3 := calls_Is 4 4 (by decide)
  unfold keyRes at c1
  unfold levRes at c2
  rw [if_pos ⟨h1, h2⟩] at c1 c2
  generalize tm S.E id = m at *
  by_cases h0 : m.level < 0
  · rw [if_pos h0] at c2
    (repeat' ((conv => whnf); first | (refine CallK_pack2 (key1 := 78) (key2 := 77) rfl rfl (fun w hR h0 => c1 _ _ _ _ _ h0 (hG.cast2 hR)) ?_; rintro _ _ ⟨rfl, fp1', fp2', rfl⟩; refine ⟨.v _, rfl, ?_⟩) | (refine CallK_pack2 (key1 := 78) (key2 := 77) rfl rfl (fun w hR h0 => c2 _ _ _ _ _ h0 (hG.cast2 hR)) ?_; rintro _ _ ⟨rfl, fp1', fp2', rfl⟩; refine ⟨.v _, rfl, ?_⟩) | (first | refine CallK_pure (.v _) (fun w hR => c3 w) ?_ | refine QCall_pure (.v _) (fun w hR => c3 w) ?_) | (refine bcase_prop (fun h => ?_) (fun h => ?_) <;> try (exfalso; omega)) | (refine bcase_nprop (fun h => ?_) (fun h => ?_) <;> try (exfalso; omega)) | (refine bcase_intro (fun h => ?_) (fun h => ?_) <;> (try simp only [Bool.not_eq_true', Bool.not_eq_false', decide_eq_true_eq, decide_eq_false_iff_not, Bool.not_eq_true, Bool.not_eq_false, Decidable.not_not] at h)) | refine And.intro (by first | omega | exact rfl | assumption | exact ⟨rfl, rfl, rfl, rfl, rfl⟩ | exact ⟨rfl, rfl, rfl, rfl⟩ | exact ⟨rfl, by omega⟩ | exact oneAll_of rfl | exact ⟨rfl, oneAll_of rfl⟩ | exact Ref.refl _ | exact Thin.ref (.skip (Thin.refl _)) | exact Thin.ref (.skip (.skip (Thin.refl _))) | exact ⟨rfl, Nat.le_of_ble_eq_true rfl⟩ | ((try unfold maxLen); (try simp only [List.length_nil, List.length_cons, List.length_append]); omega) | (refine ⟨rfl, ?_⟩; (try simp only [List.length_nil, List.length_cons, List.length_append]); omega)) ?_ | intro _)); (all_goals (conv => whnf))
    all_goals first | (exfalso; omega) | exact ⟨endQ (.keep rfl (fun _ h => h) (.keep rfl (fun _ h => h) (.nil _))) rfl⟩
  · rw [if_neg h0] at c2
    (repeat' ((conv => whnf); first | (refine CallK_pack2 (key1 := 78) (key2 := 77) rfl rfl (fun w hR h0 => c1 _ _ _ _ _ h0 (hG.cast2 hR)) ?_; rintro _ _ ⟨rfl, fp1', fp2', rfl⟩; refine ⟨.v _, rfl, ?_⟩) | (refine CallK_pack2 (key1 := 78) (key2 := 77) rfl rfl (fun w hR h0 => c2 _ _ _ _ _ h0 (hG.cast2 hR)) ?_; rintro _ _ ⟨rfl, fp1', fp2', rfl⟩; refine ⟨.v _, rfl, ?_⟩) | (refine bcase_prop (fun h => ?_) (fun h => ?_) <;> try (exfalso; omega)) | (refine bcase_nprop (fun h => ?_) (fun h => ?_) <;> try (exfalso; omega)) | (refine bcase_intro (fun h => ?_) (fun h => ?_) <;> (try simp only [Bool.not_eq_true', Bool.not_eq_false', decide_eq_true_eq, decide_eq_false_iff_not, Bool.not_eq_true, Bool.not_eq_false, Decidable.not_not] at h)) | refine And.intro (by first | omega | exact rfl | assumption | exact ⟨rfl, rfl, rfl, rfl, rfl⟩ | exact ⟨rfl, rfl, rfl, rfl⟩ | exact ⟨rfl, by omega⟩ | exact oneAll_of rfl | exact ⟨rfl, oneAll_of rfl⟩ | exact Ref.refl _ | exact Thin.ref (.skip (Thin.refl _)) | exact Thin.ref (.skip (.skip (Thin.refl _))) | exact ⟨rfl, Nat.le_of_ble_eq_true rfl⟩ | ((try unfold maxLen); (try simp only [List.length_nil, List.length_cons, List.length_append]); omega) | (refine ⟨rfl, ?_⟩; (try simp only [List.length_nil, List.length_cons, List.length_append]); omega)) ?_ | intro _)); (all_goals (conv => whnf))
    all_goals first | (exfalso; omega) | exact ⟨endQ (.keep rfl (fun _ h => h) (.keep rfl (fun _ h => h) (.nil _))) (by simp)⟩
end Go.Proofs.YticiljgbjdcmlaaDoor
