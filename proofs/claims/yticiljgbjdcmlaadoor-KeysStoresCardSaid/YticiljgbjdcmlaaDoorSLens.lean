/- The lengths of a grammar's texts, by the reference. -/
import Derived.Test.YticiljgbjdcmlaaDoorSRef
namespace Go.Proofs.YticiljgbjdcmlaaDoor
open Go.EG
attribute [local irreducible] CallK QCall Go.Calls
set_option linter.unusedSimpArgs false
set_option linter.unusedVariables false
set_option maxRecDepth 20000
set_option maxHeartbeats 1000000

def lensI (ms : List Tm) : List Int := ms.map fun m => (m.len : Int)
theorem lensI_length (ms : List Tm) : (lensI ms).length = ms.length := by simp [lensI]
theorem lensI_at {ms : List Tm} {n : Int} (h1 : 1 ≤ n) (h2 : n ≤ ms.length) : (ints .i64 (lensI ms))[(n - 1).toNat]? = some (.int .i64 ((mAt ms n).len : Int)) := by
  have hlt : (n - 1).toNat < ms.length := by omega
  unfold mAt lensI ints
  rw [if_neg (by omega), show n.toNat - 1 = (n - 1).toNat by omega, List.getD_eq_getElem?_getD, List.getElem?_map, List.getElem?_map, List.getElem?_eq_getElem hlt]
  rfl
theorem lensI_snoc (ms : List Tm) (m : Tm) : ints .i64 (lensI ms) ++ [.int .i64 (m.len : Int)] = ints .i64 (lensI (ms ++ [m])) := by simp [lensI, ints]
theorem rulsC_cell {g : List Rul} {i j : Nat} (h : i < g.length) (hj : j < 5) : (rulsC g)[i * 5 + j]? = (ruC (g.getD i rul0))[j]? := by
  have := congrArg (fun l => l[j]?) (rulsC_at h)
  rw [← this]
  simp [List.getElem?_take, hj]
theorem mAt_le {ms : List Tm} (h : ∀ m ∈ ms, m.len ≤ LM) (n : Int) : (mAt ms n).len ≤ LM := by
  unfold mAt
  split
  · exact Nat.zero_le _
  · rw [List.getD_eq_getElem?_getD]
    cases he : ms[n.toNat - 1]? with
    | none => exact Nat.zero_le _
    | some m => exact h m (List.mem_of_getElem? he)

/-- What the reference's lengths hand back. -/
def lensQ (g : List Rul) (v : Value) (L1 : List Ent) : Prop :=
  (chk 1 g = 0 → gLen [] g = true → ∃ a c, v = .tuple #[.slice a g.length c, .int .i64 0] ∧ L1 = [.own 0 a g.length c ty_int 1 (ints .i64 (lensI (gTs [] g)))]) ∧
  (¬ (chk 1 g = 0 ∧ gLen [] g = true) → ∃ cd : Int, cd ≠ 0 ∧ v = .tuple #[.slice none 0 0, .int .i64 cd] ∧ L1 = [])

structure LenG where
  i : Nat
  ms : List Tm
  a : Option Addr
  c : Nat
theorem calls_Lengths (g : List Rul) (a : Option Addr) (c : Nat) (hl : g.length * 40 ≤ 140737488355328) (htim : ∀ i, i < g.length → (g.getD i rul0).t ≤ 9223372036854775807) (w : World) (hin : In w [] a (rulsC g)) :
    Calls Tryd.prog fn_evergreenref11_Lengths #[.slice a g.length c] w fun e w' => ∃ v L1, e = .returned v ∧ R w [] L1 w' ∧ lensQ g v L1 := by
  refine new_call [.v (.slice a g.length c)] ok_evergreenref11_Lengths (by simp) ?_
  have hne : ∀ i, i < g.length → a ≠ none := fun i hi => hin.ne' (k := i * 5) (by rw [rulsC_length]; omega)
  have c0 := fun w h => calls_r11Check g a c (by omega) w h
  by_cases hz : chk 1 g = 0
  case neg =>
    (repeat' ((conv => whnf); first | refine CallK_pure (.v _) (fun w hR => c0 w (hin.cast hR (by simp))) ?_ | (refine bcase_prop (fun h => ?_) (fun h => ?_) <;> try (exfalso; omega)) | (refine bcase_nprop (fun h => ?_) (fun h => ?_) <;> try (exfalso; omega)) | (refine bcase_intro (fun h => ?_) (fun h => ?_) <;> (try simp only [Bool.not_eq_true', Bool.not_eq_false', decide_eq_true_eq, decide_eq_false_iff_not, Bool.not_eq_true, Bool.not_eq_false, Decidable.not_not] at h)) | refine And.intro (by first | omega | exact rfl | assumption | exact ⟨rfl, rfl, rfl, rfl, rfl⟩ | exact ⟨rfl, rfl, rfl, rfl⟩ | exact ⟨rfl, by omega⟩ | exact oneAll_of rfl | exact ⟨rfl, oneAll_of rfl⟩ | exact Ref.refl _ | exact Thin.ref (.skip (Thin.refl _)) | exact Thin.ref (.skip (.skip (Thin.refl _))) | exact ⟨rfl, Nat.le_of_ble_eq_true rfl⟩ | ((try unfold maxLen); (try simp only [List.length_nil, List.length_cons, List.length_append]); omega) | (refine ⟨rfl, ?_⟩; (try simp only [List.length_nil, List.length_cons, List.length_append]); omega)) ?_ | intro _)); (all_goals (conv => whnf))
    · exact ⟨⟨[], Thin.ref (.nil _), fun h => absurd h hz, fun _ => ⟨_, hz, rfl, rfl⟩⟩⟩
  rw [hz] at c0
  have hok := chk_zero.1 hz
  (repeat' ((conv => whnf); first | refine CallK_pure (.v _) (fun w hR => c0 w (hin.cast hR (by simp))) ?_ | (refine bcase_prop (fun h => ?_) (fun h => ?_) <;> try (exfalso; omega)) | (refine bcase_nprop (fun h => ?_) (fun h => ?_) <;> try (exfalso; omega)) | (refine bcase_intro (fun h => ?_) (fun h => ?_) <;> (try simp only [Bool.not_eq_true', Bool.not_eq_false', decide_eq_true_eq, decide_eq_false_iff_not, Bool.not_eq_true, Bool.not_eq_false, Decidable.not_not] at h)) | refine And.intro (by first | omega | exact rfl | assumption | exact ⟨rfl, rfl, rfl, rfl, rfl⟩ | exact ⟨rfl, rfl, rfl, rfl⟩ | exact ⟨rfl, by omega⟩ | exact oneAll_of rfl | exact ⟨rfl, oneAll_of rfl⟩ | exact Ref.refl _ | exact Thin.ref (.skip (Thin.refl _)) | exact Thin.ref (.skip (.skip (Thin.refl _))) | exact ⟨rfl, Nat.le_of_ble_eq_true rfl⟩ | ((try unfold maxLen); (try simp only [List.length_nil, List.length_cons, List.length_append]); omega) | (refine ⟨rfl, ?_⟩; (try simp only [List.length_nil, List.length_cons, List.length_append]); omega)) ?_ | intro _)); (all_goals (conv => whnf))
  refine VC_loop LenG (fun x => [(0, .v (.slice a g.length c)), (5, .sl 500 x.a x.ms.length x.c), (6, .v (.int .i64 x.i))]) (fun x => [.own 500 x.a x.ms.length x.c ty_int 1 (ints .i64 (lensI x.ms))])
    (fun x => x.i ≤ g.length ∧ x.ms.length = x.i ∧ (∀ m ∈ x.ms, m.len ≤ LM) ∧ gTs [] g = gTs x.ms (g.drop x.i) ∧ gLen [] g = gLen x.ms (g.drop x.i)) (fun x => g.length - x.i) ⟨0, [], none, 0⟩ ⟨Nat.zero_le _, rfl, by simp, rfl, rfl⟩ (by (repeat ((conv => whnf); refine And.intro (by first | exact rfl | exact vint_eq (by omega) | exact vint_eq (by (dsimp only; omega)) | exact vsl_eq (by omega) | exact vsl_eq (by first | (dsimp only; omega) | (simp; done) | (simp; omega))) ?_)); exact trivial) (Ref.ownNil 500 _ 1) ?_
  rintro ⟨i, ms, a5, c5⟩ ⟨hi, hms, hle, hgt, hgl⟩
  dsimp only at hi hms hle hgt hgl ⊢
  have hi0 := hne i
  by_cases hlt : i < g.length
  case neg =>
    rw [show g.drop i = [] from List.drop_eq_nil_of_le (by omega)] at hgt hgl
    simp only [gTs, gLen] at hgt hgl
    (repeat' ((conv => whnf); first | (refine bcase_prop (fun h => ?_) (fun h => ?_) <;> try (exfalso; omega)) | (refine bcase_nprop (fun h => ?_) (fun h => ?_) <;> try (exfalso; omega)) | (refine bcase_intro (fun h => ?_) (fun h => ?_) <;> (try simp only [Bool.not_eq_true', Bool.not_eq_false', decide_eq_true_eq, decide_eq_false_iff_not, Bool.not_eq_true, Bool.not_eq_false, Decidable.not_not] at h)) | refine And.intro (by first | omega | exact rfl | assumption | exact ⟨rfl, rfl, rfl, rfl, rfl⟩ | exact ⟨rfl, rfl, rfl, rfl⟩ | exact ⟨rfl, by omega⟩ | exact oneAll_of rfl | exact ⟨rfl, oneAll_of rfl⟩ | exact Ref.refl _ | exact Thin.ref (.skip (Thin.refl _)) | exact Thin.ref (.skip (.skip (Thin.refl _))) | exact ⟨rfl, Nat.le_of_ble_eq_true rfl⟩ | ((try unfold maxLen); (try simp only [List.length_nil, List.length_cons, List.length_append]); omega) | (refine ⟨rfl, ?_⟩; (try simp only [List.length_nil, List.length_cons, List.length_append]); omega)) ?_ | intro _)); (all_goals (conv => whnf))
    have hml : ms.length = g.length := by omega
    refine ⟨⟨[.own 0 a5 ms.length c5 ty_int 1 (ints .i64 (lensI ms))], Thin.ref (.own rfl rfl (.nil _)), fun _ _ => ⟨a5, c5, ?_, ?_⟩, fun h => absurd ⟨hz, hgl⟩ h⟩⟩
    all_goals first | (rw [hgt, hml]; done) | (rw [hml]; done) | rfl
  · rw [drop_cons (d := rul0) hlt] at hgt hgl
    simp only [gTs, gLen] at hgt hgl
    have hr := hok i hlt
    rw [show (1 : Int) + (i : Int) = i + 1 by omega] at hr
    have ht := htim i hlt
    have rd0 := fun {L : List Ent} => hin.rd (L := L) (k := i * 5) (rulsC_cell (j := 0) hlt (by decide))
    have rd2 := fun {L : List Ent} => hin.rd (L := L) (k := i * 5 + 2) (rulsC_cell (j := 2) hlt (by decide))
    have rd3 := fun {L : List Ent} => hin.rd (L := L) (k := i * 5 + 3) (rulsC_cell (j := 3) hlt (by decide))
    have rd4 := fun {L : List Ent} => hin.rd (L := L) (k := i * 5 + 4) (rulsC_cell (j := 4) hlt (by decide))
    generalize g.getD i rul0 = r at *
    have hlA := mAt_le hle r.a
    have hlB := mAt_le hle r.b
    have hmx : ms.length + 1 ≤ maxLen ∧ (ms.length + 1) * 8 ≤ 140737488355328 := ⟨by unfold maxLen; omega, by omega⟩
    have hbad : ¬ (gT ms r).len ≤ LM → ¬ (chk 1 g = 0 ∧ gLen [] g = true) := fun h h' => by
      rw [hgl, decide_eq_false h] at h'
      exact absurd h'.2 (by simp)
    have hnext : (gT ms r).len ≤ LM → ∀ a c, (fun x : LenG => x.i ≤ g.length ∧ x.ms.length = x.i ∧ (∀ m ∈ x.ms, m.len ≤ LM) ∧ gTs [] g = gTs x.ms (g.drop x.i) ∧ gLen [] g = gLen x.ms (g.drop x.i)) ⟨i + 1, ms ++ [gT ms r], a, c⟩ := fun h a c => by
      refine ⟨hlt, by simp; exact hms, fun m hm => ?_, hgt, ?_⟩
      · rcases List.mem_append.1 hm with hm | hm
        · exact hle m hm
        · have : m = gT ms r := by simpa using hm
          rw [this]; exact h
      · rw [hgl, decide_eq_true h, Bool.true_and]
    have hsn := lensI_snoc ms (gT ms r)
    rcases hr with ⟨e1, e2, e3, e4, _⟩ | ⟨e1, e2, e3, e4, e5, e6, e7⟩ | ⟨e1, e2, e3, e4, e5, e6⟩
    · have hT : gT ms r = .lt r.l.toNat := if_pos e1
      have h1 : ((gT ms r).len : Int) = 1 := by rw [hT]; rfl
      rw [h1] at hsn
      (repeat' ((conv => whnf); first | rw [Int.toNat_natCast] | rw [hsn] | refine ⟨_, rd0, ?_⟩ | (refine bcase_prop (fun h => ?_) (fun h => ?_) <;> try (exfalso; omega)) | (refine bcase_nprop (fun h => ?_) (fun h => ?_) <;> try (exfalso; omega)) | (refine bcase_intro (fun h => ?_) (fun h => ?_) <;> (try simp only [Bool.not_eq_true', Bool.not_eq_false', decide_eq_true_eq, decide_eq_false_iff_not, Bool.not_eq_true, Bool.not_eq_false, Decidable.not_not] at h)) | refine And.intro (by first | omega | exact rfl | assumption | exact ⟨rfl, rfl, rfl, rfl, rfl⟩ | exact ⟨rfl, rfl, rfl, rfl⟩ | exact ⟨rfl, by omega⟩ | exact oneAll_of rfl | exact ⟨rfl, oneAll_of rfl⟩ | exact Ref.refl _ | exact Thin.ref (.skip (Thin.refl _)) | exact Thin.ref (.skip (.skip (Thin.refl _))) | exact hi0 (by omega) | exact ⟨rfl, Nat.le_of_ble_eq_true rfl⟩ | ((try unfold maxLen); (try simp only [List.length_nil, List.length_cons, List.length_append]); omega) | (refine ⟨rfl, ?_⟩; (try simp only [List.length_nil, List.length_cons, List.length_append]); omega)) ?_ | intro _)); (all_goals (conv => whnf))
      rename_i a' c'
      refine loop_next ⟨i + 1, ms ++ [gT ms r], a', c'⟩ (hnext (by rw [hT]; exact (by decide : 1 ≤ LM)) _ _) (by ((try dsimp only); omega)) (by (repeat ((conv => whnf); refine And.intro (by first | exact rfl | exact vint_eq (by omega) | exact vint_eq (by (dsimp only; omega)) | exact vsl_eq (by omega) | exact vsl_eq (by first | (dsimp only; omega) | (simp; done) | (simp; omega))) ?_)); exact trivial) (Thin.ref (.skip (.own (by simp) rfl (.nil _))))
    · have hT : gT ms r = .pr (mAt ms r.a) (mAt ms r.b) := by rw [gT, if_neg (by omega), if_pos e1]
      have hTl : (gT ms r).len = (mAt ms r.a).len + (mAt ms r.b).len := by rw [hT]; unfold Tm.len; rw [Tm.txt, List.length_append]
      have la := lensI_at (ms := ms) (n := r.a) e4 (by omega)
      have lb := lensI_at (ms := ms) (n := r.b) e6 (by omega)
      have c1 := calls_r1Add (mAt ms r.a).len (mAt ms r.b).len hlA hlB
      unfold radd at c1
      rw [← hTl] at c1
      by_cases hfit : (gT ms r).len ≤ LM
      · rw [if_pos hfit] at c1
        (repeat' ((conv => whnf); first | rw [Int.toNat_natCast] | rw [Nat.mul_one] | rw [hsn] | refine ⟨_, rd0, ?_⟩ | refine ⟨_, rd2, ?_⟩ | refine ⟨_, rd3, ?_⟩ | refine ldCell la ?_ | refine ldCell lb ?_ | (first | refine CallK_pure (.v _) (fun w hR => c1 w) ?_ | refine QCall_pure (.v _) (fun w hR => c1 w) ?_) | (refine bcase_prop (fun h => ?_) (fun h => ?_) <;> try (exfalso; omega)) | (refine bcase_nprop (fun h => ?_) (fun h => ?_) <;> try (exfalso; omega)) | (refine bcase_intro (fun h => ?_) (fun h => ?_) <;> (try simp only [Bool.not_eq_true', Bool.not_eq_false', decide_eq_true_eq, decide_eq_false_iff_not, Bool.not_eq_true, Bool.not_eq_false, Decidable.not_not] at h)) | refine And.intro (by first | omega | exact rfl | assumption | exact ⟨rfl, rfl, rfl, rfl, rfl⟩ | exact ⟨rfl, rfl, rfl, rfl⟩ | exact ⟨rfl, by omega⟩ | exact oneAll_of rfl | exact ⟨rfl, oneAll_of rfl⟩ | exact Ref.refl _ | exact Thin.ref (.skip (Thin.refl _)) | exact Thin.ref (.skip (.skip (Thin.refl _))) | exact hi0 (by omega) | exact ⟨rfl, Nat.le_of_ble_eq_true rfl⟩ | ((try unfold maxLen); (try simp only [List.length_nil, List.length_cons, List.length_append]); omega) | (refine ⟨rfl, ?_⟩; (try simp only [List.length_nil, List.length_cons, List.length_append]); omega)) ?_ | intro _)); (all_goals (conv => whnf))
        rename_i a' c'
        refine loop_next ⟨i + 1, ms ++ [gT ms r], a', c'⟩ (hnext hfit _ _) (by ((try dsimp only); omega)) (by (repeat ((conv => whnf); refine And.intro (by first | exact rfl | exact vint_eq (by omega) | exact vint_eq (by (dsimp only; omega)) | exact vsl_eq (by omega) | exact vsl_eq (by first | (dsimp only; omega) | (simp; done) | (simp; omega))) ?_)); exact trivial) (Thin.ref (.skip (.own (by simp) rfl (.nil _))))
      · rw [if_neg hfit] at c1
        (repeat' ((conv => whnf); first | rw [Int.toNat_natCast] | rw [Nat.mul_one] | rw [hsn] | refine ⟨_, rd0, ?_⟩ | refine ⟨_, rd2, ?_⟩ | refine ⟨_, rd3, ?_⟩ | refine ldCell la ?_ | refine ldCell lb ?_ | (first | refine CallK_pure (.v _) (fun w hR => c1 w) ?_ | refine QCall_pure (.v _) (fun w hR => c1 w) ?_) | (refine bcase_prop (fun h => ?_) (fun h => ?_) <;> try (exfalso; omega)) | (refine bcase_nprop (fun h => ?_) (fun h => ?_) <;> try (exfalso; omega)) | (refine bcase_intro (fun h => ?_) (fun h => ?_) <;> (try simp only [Bool.not_eq_true', Bool.not_eq_false', decide_eq_true_eq, decide_eq_false_iff_not, Bool.not_eq_true, Bool.not_eq_false, Decidable.not_not] at h)) | refine And.intro (by first | omega | exact rfl | assumption | exact ⟨rfl, rfl, rfl, rfl, rfl⟩ | exact ⟨rfl, rfl, rfl, rfl⟩ | exact ⟨rfl, by omega⟩ | exact oneAll_of rfl | exact ⟨rfl, oneAll_of rfl⟩ | exact Ref.refl _ | exact Thin.ref (.skip (Thin.refl _)) | exact Thin.ref (.skip (.skip (Thin.refl _))) | exact hi0 (by omega) | exact ⟨rfl, Nat.le_of_ble_eq_true rfl⟩ | ((try unfold maxLen); (try simp only [List.length_nil, List.length_cons, List.length_append]); omega) | (refine ⟨rfl, ?_⟩; (try simp only [List.length_nil, List.length_cons, List.length_append]); omega)) ?_ | intro _)); (all_goals (conv => whnf))
        exact ⟨⟨[], Thin.ref (.nil _), fun h1 h2 => absurd ⟨h1, h2⟩ (hbad hfit), fun _ => ⟨2, by decide, rfl, rfl⟩⟩⟩
    · have hT : gT ms r = .pw (mAt ms r.a) r.t.toNat := by rw [gT, if_neg (by omega), if_neg (by omega)]
      have hTl : (gT ms r).len = (mAt ms r.a).len * r.t.toNat := by rw [hT]; unfold Tm.len; rw [Tm.txt, len_rep, Nat.mul_comm]
      have la := lensI_at (ms := ms) (n := r.a) e5 (by omega)
      have c1 := calls_r1Mul (mAt ms r.a).len r.t.toNat hlA (by omega)
      have et : ((r.t.toNat : Nat) : Int) = r.t := by omega
      unfold rmul at c1
      rw [← hTl, et] at c1
      by_cases hfit : (gT ms r).len ≤ LM
      · rw [if_pos hfit] at c1
        (repeat' ((conv => whnf); first | rw [Int.toNat_natCast] | rw [Nat.mul_one] | rw [hsn] | refine ⟨_, rd0, ?_⟩ | refine ⟨_, rd2, ?_⟩ | refine ⟨_, rd4, ?_⟩ | refine ldCell la ?_ | (first | refine CallK_pure (.v _) (fun w hR => c1 w) ?_ | refine QCall_pure (.v _) (fun w hR => c1 w) ?_) | (refine bcase_prop (fun h => ?_) (fun h => ?_) <;> try (exfalso; omega)) | (refine bcase_nprop (fun h => ?_) (fun h => ?_) <;> try (exfalso; omega)) | (refine bcase_intro (fun h => ?_) (fun h => ?_) <;> (try simp only [Bool.not_eq_true', Bool.not_eq_false', decide_eq_true_eq, decide_eq_false_iff_not, Bool.not_eq_true, Bool.not_eq_false, Decidable.not_not] at h)) | refine And.intro (by first | omega | exact rfl | assumption | exact ⟨rfl, rfl, rfl, rfl, rfl⟩ | exact ⟨rfl, rfl, rfl, rfl⟩ | exact ⟨rfl, by omega⟩ | exact oneAll_of rfl | exact ⟨rfl, oneAll_of rfl⟩ | exact Ref.refl _ | exact Thin.ref (.skip (Thin.refl _)) | exact Thin.ref (.skip (.skip (Thin.refl _))) | exact hi0 (by omega) | exact ⟨rfl, Nat.le_of_ble_eq_true rfl⟩ | ((try unfold maxLen); (try simp only [List.length_nil, List.length_cons, List.length_append]); omega) | (refine ⟨rfl, ?_⟩; (try simp only [List.length_nil, List.length_cons, List.length_append]); omega)) ?_ | intro _)); (all_goals (conv => whnf))
        rename_i a' c'
        refine loop_next ⟨i + 1, ms ++ [gT ms r], a', c'⟩ (hnext hfit _ _) (by ((try dsimp only); omega)) (by (repeat ((conv => whnf); refine And.intro (by first | exact rfl | exact vint_eq (by omega) | exact vint_eq (by (dsimp only; omega)) | exact vsl_eq (by omega) | exact vsl_eq (by first | (dsimp only; omega) | (simp; done) | (simp; omega))) ?_)); exact trivial) (Thin.ref (.skip (.own (by simp) rfl (.nil _))))
      · rw [if_neg hfit] at c1
        (repeat' ((conv => whnf); first | rw [Int.toNat_natCast] | rw [Nat.mul_one] | rw [hsn] | refine ⟨_, rd0, ?_⟩ | refine ⟨_, rd2, ?_⟩ | refine ⟨_, rd4, ?_⟩ | refine ldCell la ?_ | (first | refine CallK_pure (.v _) (fun w hR => c1 w) ?_ | refine QCall_pure (.v _) (fun w hR => c1 w) ?_) | (refine bcase_prop (fun h => ?_) (fun h => ?_) <;> try (exfalso; omega)) | (refine bcase_nprop (fun h => ?_) (fun h => ?_) <;> try (exfalso; omega)) | (refine bcase_intro (fun h => ?_) (fun h => ?_) <;> (try simp only [Bool.not_eq_true', Bool.not_eq_false', decide_eq_true_eq, decide_eq_false_iff_not, Bool.not_eq_true, Bool.not_eq_false, Decidable.not_not] at h)) | refine And.intro (by first | omega | exact rfl | assumption | exact ⟨rfl, rfl, rfl, rfl, rfl⟩ | exact ⟨rfl, rfl, rfl, rfl⟩ | exact ⟨rfl, by omega⟩ | exact oneAll_of rfl | exact ⟨rfl, oneAll_of rfl⟩ | exact Ref.refl _ | exact Thin.ref (.skip (Thin.refl _)) | exact Thin.ref (.skip (.skip (Thin.refl _))) | exact hi0 (by omega) | exact ⟨rfl, Nat.le_of_ble_eq_true rfl⟩ | ((try unfold maxLen); (try simp only [List.length_nil, List.length_cons, List.length_append]); omega) | (refine ⟨rfl, ?_⟩; (try simp only [List.length_nil, List.length_cons, List.length_append]); omega)) ?_ | intro _)); (all_goals (conv => whnf))
        exact ⟨⟨[], Thin.ref (.nil _), fun h1 h2 => absurd ⟨h1, h2⟩ (hbad hfit), fun _ => ⟨2, by decide, rfl, rfl⟩⟩⟩
end Go.Proofs.YticiljgbjdcmlaaDoor
