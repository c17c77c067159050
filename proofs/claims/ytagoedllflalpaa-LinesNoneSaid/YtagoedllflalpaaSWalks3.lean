/- Rules: their references, whether they are valid. -/
import Derived.Test.YtagoedllflalpaaSWalks2
namespace Go.Proofs.Ytagoedllflalpaa
open Go.EG
attribute [local irreducible] CallK QCall Go.Calls
set_option linter.unusedSimpArgs false
set_option linter.unusedVariables false
set_option maxRecDepth 20000

structure Rul where
  k : Int
  l : Int
  a : Int
  b : Int
  t : Int
deriving DecidableEq
abbrev ruC (r : Rul) : List Value := [.int .i64 r.k, .int .u8 r.l, .int .i64 r.a, .int .i64 r.b, .int .i64 r.t]
abbrev ruV (r : Rul) : Value := .agg #[.int .i64 r.k, .int .u8 r.l, .int .i64 r.a, .int .i64 r.b, .int .i64 r.t]

/-- A rule that is valid as rule number n. -/
def okR (r : Rul) (n : Int) : Prop :=
  (r.k = 1 ∧ r.a = 0 ∧ r.b = 0 ∧ r.t = 0 ∧ 1 ≤ n) ∨ (r.k = 2 ∧ r.l = 0 ∧ r.t = 0 ∧ 1 ≤ r.a ∧ r.a < n ∧ 1 ≤ r.b ∧ r.b < n) ∨ (r.k = 3 ∧ r.l = 0 ∧ r.b = 0 ∧ 2 ≤ r.t ∧ 1 ≤ r.a ∧ r.a < n)
instance (r : Rul) (n : Int) : Decidable (okR r n) := by unfold okR; exact inferInstance

def refsL (r : Rul) : List Int := if r.k = 2 then [r.a, r.b] else if r.k = 3 then [r.a] else []
theorem calls_Refs (r : Rul) (w : World) : Calls Try.prog fn_rule_Refs #[ruV r] w (RetS ty_api_ID 1 (refsL r).length (ints .i64 (refsL r)) w) := by
  refine slice_call [.v (ruV r)] w ok_rule_Refs (by simp) ?_
  have e2 : r.k = 2 → refsL r = [r.a, r.b] := fun h => if_pos h
  have e3 : r.k = 3 → refsL r = [r.a] := fun h => by rw [refsL, if_neg (by omega), if_pos h]
  have e0 : r.k ≠ 2 → r.k ≠ 3 → refsL r = [] := fun h h' => by rw [refsL, if_neg h, if_neg h']
  (repeat' ((conv => whnf); first | (refine bcase_prop (fun h => ?_) (fun h => ?_) <;> try (exfalso; omega)) | (refine bcase_nprop (fun h => ?_) (fun h => ?_) <;> try (exfalso; omega)) | (refine bcase_intro (fun h => ?_) (fun h => ?_) <;> (try simp only [Bool.not_eq_true', Bool.not_eq_false', decide_eq_true_eq, decide_eq_false_iff_not, Bool.not_eq_true, Bool.not_eq_false, Decidable.not_not] at h)) | refine And.intro (by first | omega | exact rfl | assumption | exact ⟨rfl, rfl, rfl, rfl, rfl⟩ | exact ⟨rfl, rfl, rfl, rfl⟩ | exact ⟨rfl, by omega⟩ | exact oneAll_of rfl | exact ⟨rfl, oneAll_of rfl⟩ | exact Ref.refl _ | exact Thin.ref (.skip (Thin.refl _)) | exact Thin.ref (.skip (.skip (Thin.refl _))) | exact ⟨rfl, Nat.le_of_ble_eq_true rfl⟩ | ((try unfold maxLen); (try simp only [List.length_nil, List.length_cons, List.length_append]); omega) | (refine ⟨rfl, ?_⟩; (try simp only [List.length_nil, List.length_cons, List.length_append]); omega)) ?_ | intro _)); (all_goals (conv => whnf))
  · refine ⟨?_⟩
    rw [e2 (by omega)]
    exact ⟨_, _, rfl, Thin.ref (.keep rfl (fun _ h => h) (.nil _))⟩
  · refine ⟨?_⟩
    rw [e3 (by omega)]
    exact ⟨_, _, rfl, Thin.ref (.keep rfl (fun _ h => h) (.nil _))⟩
  · refine ⟨?_⟩
    rw [e0 (by omega) (by omega)]
    exact ⟨none, 0, rfl, fun w' h => (h.sub (List.nil_sublist _)).ownNil 0 ty_api_ID 1⟩

theorem okR_refs {r : Rul} {n : Int} (h : okR r n) : ∀ i : Nat, i < (refsL r).length → 1 ≤ (refsL r).getD i 0 ∧ (refsL r).getD i 0 < n := by
  intro i hi
  rcases h with ⟨h1, _⟩ | ⟨h1, _, _, h2, h3, h4, h5⟩ | ⟨h1, _, _, _, h2, h3⟩
  · rw [refsL, if_neg (by omega), if_neg (by omega)] at hi; simp at hi
  · rw [refsL, if_pos h1] at hi ⊢
    match i, hi with
    | 0, _ => exact ⟨h2, h3⟩
    | 1, _ => exact ⟨h4, h5⟩
  · rw [refsL, if_neg (by omega), if_pos h1] at hi ⊢
    match i, hi with
    | 0, _ => exact ⟨h2, h3⟩
theorem okR_n {r : Rul} {n : Int} (h : okR r n) : 1 ≤ n := by
  rcases h with h | h | h <;> omega
theorem refsL_len (r : Rul) : (refsL r).length ≤ 2 := by
  unfold refsL
  split
  · exact Nat.le_refl 2
  · split <;> simp

theorem calls_place (r : Rul) (n : Int) (h : okR r n) (hn : n ≤ 9223372036854775807) (w : World) : Calls Try.prog fn_rule_place #[ruV r, .int .i64 n] w fun e w' => e = .returned .nilIface ∧ Ext w w' := by
  refine pure_call [.v (ruV r), .v (.int .i64 n)] w ok_rule_place (by simp) ?_
  have c1 := calls_Refs r
  have hr := okR_refs h
  have h1 := okR_n h
  have hl := refsL_len r
  generalize hzs : refsL r = zs at *
  (repeat' ((conv => whnf); first | refine CallK_slice 900 (fun w hR => c1 w) ?_ | (refine bcase_prop (fun h => ?_) (fun h => ?_) <;> try (exfalso; omega)) | (refine bcase_nprop (fun h => ?_) (fun h => ?_) <;> try (exfalso; omega)) | (refine bcase_intro (fun h => ?_) (fun h => ?_) <;> (try simp only [Bool.not_eq_true', Bool.not_eq_false', decide_eq_true_eq, decide_eq_false_iff_not, Bool.not_eq_true, Bool.not_eq_false, Decidable.not_not] at h)) | refine And.intro (by first | omega | exact rfl | assumption | exact ⟨rfl, rfl, rfl, rfl, rfl⟩ | exact ⟨rfl, rfl, rfl, rfl⟩ | exact ⟨rfl, by omega⟩ | exact oneAll_of rfl | exact ⟨rfl, oneAll_of rfl⟩ | exact Ref.refl _ | exact Thin.ref (.skip (Thin.refl _)) | exact Thin.ref (.skip (.skip (Thin.refl _))) | exact ⟨rfl, Nat.le_of_ble_eq_true rfl⟩ | ((try unfold maxLen); (try simp only [List.length_nil, List.length_cons, List.length_append]); omega) | (refine ⟨rfl, ?_⟩; (try simp only [List.length_nil, List.length_cons, List.length_append]); omega)) ?_ | intro _)); (all_goals (conv => whnf))
  rename_i b2 a c
  refine VC_loop Nat (fun i => [(1, .v (.int .i64 n)), (11, .sl 900 a zs.length c), (12, .v (.int .i64 zs.length)), (13, .v (.int .i64 i))])
    (fun _ => [.own 900 a zs.length c ty_api_ID 1 (ints .i64 zs)]) (fun i => i ≤ zs.length) (fun i => zs.length - i) 0 (Nat.zero_le _) (by (repeat ((conv => whnf); refine And.intro (by first | exact rfl | exact vint_eq (by omega) | exact vint_eq (by (dsimp only; omega)) | exact vsl_eq (by omega) | exact vsl_eq (by first | (dsimp only; omega) | (simp; done) | (simp; omega))) ?_)); exact trivial) (Thin.ref (.own rfl rfl (.nil _))) ?_
  intro i hi
  have hr' := hr i
  (repeat' ((conv => whnf); first | rw [Int.toNat_natCast] | rw [Nat.mul_one] | rw [intOf_ints (by omega)] | (refine bcase_prop (fun h => ?_) (fun h => ?_) <;> try (exfalso; omega)) | (refine bcase_nprop (fun h => ?_) (fun h => ?_) <;> try (exfalso; omega)) | (refine bcase_intro (fun h => ?_) (fun h => ?_) <;> (try simp only [Bool.not_eq_true', Bool.not_eq_false', decide_eq_true_eq, decide_eq_false_iff_not, Bool.not_eq_true, Bool.not_eq_false, Decidable.not_not] at h)) | refine And.intro (by first | omega | exact rfl | assumption | exact ⟨rfl, rfl, rfl, rfl, rfl⟩ | exact ⟨rfl, rfl, rfl, rfl⟩ | exact ⟨rfl, by omega⟩ | exact oneAll_of rfl | exact ⟨rfl, oneAll_of rfl⟩ | exact Ref.refl _ | exact Thin.ref (.skip (Thin.refl _)) | exact Thin.ref (.skip (.skip (Thin.refl _))) | exact ⟨rfl, by omega⟩ | exact isK_ints (by omega) | exact ⟨rfl, Nat.le_of_ble_eq_true rfl⟩ | ((try unfold maxLen); (try simp only [List.length_nil, List.length_cons, List.length_append]); omega) | (refine ⟨rfl, ?_⟩; (try simp only [List.length_nil, List.length_cons, List.length_append]); omega)) ?_ | intro _)); (all_goals (conv => whnf))
  · refine loop_next (i + 1) (show i + 1 ≤ zs.length by omega) (show zs.length - (i + 1) < zs.length - i by omega) (by (repeat ((conv => whnf); refine And.intro (by first | exact rfl | exact vint_eq (by omega) | exact vint_eq (by (dsimp only; omega)) | exact vsl_eq (by omega) | exact vsl_eq (by first | (dsimp only; omega) | (simp; done) | (simp; omega))) ?_)); exact trivial) (Ref.refl _)
  · exact ⟨rfl⟩

theorem calls_rCheck (r : Rul) (n : Int) (h : okR r n) (hn : n ≤ 9223372036854775807) (w : World) : Calls Try.prog fn_rule_Check #[ruV r, .int .i64 n] w fun e w' => e = .returned .nilIface ∧ Ext w w' := by
  refine pure_call [.v (ruV r), .v (.int .i64 n)] w ok_rule_Check (by simp) ?_
  have c1 := calls_place r n h hn
  unfold okR at h
  (repeat' ((conv => whnf); first | refine CallK_pure (.v _) (fun w hR => c1 w) ?_ | (refine bcase_prop (fun h => ?_) (fun h => ?_) <;> try (exfalso; omega)) | (refine bcase_nprop (fun h => ?_) (fun h => ?_) <;> try (exfalso; omega)) | (refine bcase_intro (fun h => ?_) (fun h => ?_) <;> (try simp only [Bool.not_eq_true', Bool.not_eq_false', decide_eq_true_eq, decide_eq_false_iff_not, Bool.not_eq_true, Bool.not_eq_false, Decidable.not_not] at h)) | refine And.intro (by first | omega | exact rfl | assumption | exact ⟨rfl, rfl, rfl, rfl, rfl⟩ | exact ⟨rfl, rfl, rfl, rfl⟩ | exact ⟨rfl, by omega⟩ | exact oneAll_of rfl | exact ⟨rfl, oneAll_of rfl⟩ | exact Ref.refl _ | exact Thin.ref (.skip (Thin.refl _)) | exact Thin.ref (.skip (.skip (Thin.refl _))) | exact ⟨rfl, Nat.le_of_ble_eq_true rfl⟩ | ((try unfold maxLen); (try simp only [List.length_nil, List.length_cons, List.length_append]); omega) | (refine ⟨rfl, ?_⟩; (try simp only [List.length_nil, List.length_cons, List.length_append]); omega)) ?_ | intro _)); (all_goals (conv => whnf))
  all_goals exact ⟨rfl⟩
end Go.Proofs.Ytagoedllflalpaa
