/- What a rule reaches, and Export: the program. -/
import Derived.Test.YtohlphngnhcbfaaK6
import Derived.Test.YtohlphngnhcbfaaK5
import Derived.Test.YtohlphngnhcbfaaK4
import Derived.Test.YtohlphngnhcbfaaK2
import Derived.Laws.IdiomArrays
import Derived.Shelf.SlGeneric
import Derived.Ground.SlgmProg
import Derived.Shelf.SortM.Plain
import Derived.Test.YtohlphngnhcbfaaProg
namespace Go.Proofs.Ytohlphngnhcbfaa
open Go.EG
attribute [local irreducible] CallK QCall Go.Calls
set_option linter.unusedSimpArgs false
set_option linter.unusedVariables false
set_option maxRecDepth 20000
set_option maxHeartbeats 4000000

/-! ### Maps of numbers -/

def seenM (L : List Int) : List (Value × Value) := L.map fun x => (.int .i64 x, .bool true)
theorem keyEq_int {x y : Int} : keyEq (.int .i64 x) (.int .i64 y) = true ↔ x = y := by simp [keyEq]
theorem seen_none {L : List Int} {y : Int} (h : y ∉ L) : mget (seenM L) (.int .i64 y) = none := by
  induction L with
  | nil => rfl
  | cons x L ih =>
    simp only [seenM, List.map_cons, mget]
    rw [if_neg (fun hk => h (by rw [keyEq_int.1 hk]; simp))]
    exact ih (fun hm => h (by simp [hm]))
theorem seen_some {L : List Int} {y : Int} (h : y ∈ L) : mget (seenM L) (.int .i64 y) = some (.bool true) := by
  induction L with
  | nil => simp at h
  | cons x L ih =>
    simp only [seenM, List.map_cons, mget]
    by_cases hx : y = x
    · rw [if_pos (keyEq_int.2 hx)]
    · rw [if_neg (fun hk => hx (keyEq_int.1 hk))]
      exact ih (by simpa [hx] using h)
theorem seen_set {L : List Int} {y : Int} (h : y ∉ L) : mset (seenM L) (.int .i64 y) (.bool true) = seenM (L ++ [y]) := by
  induction L with
  | nil => rfl
  | cons x L ih =>
    have hx : ¬ keyEq (.int .i64 y) (.int .i64 x) = true := fun hk => h (by rw [keyEq_int.1 hk]; simp)
    have ih := ih (fun hm => h (by simp [hm]))
    simp only [seenM, List.map_cons, mset, if_neg hx, List.cons_append] at ih ⊢
    rw [ih]

/-- The new numbers, from n + 1 on. -/
def numM : Nat → List Int → List (Value × Value)
  | _, [] => []
  | n, x :: L => (.int .i64 x, .int .i64 ((n + 1 : Nat) : Int)) :: numM (n + 1) L
theorem num_none : ∀ {n : Nat} {L : List Int} {y : Int}, y ∉ L → mget (numM n L) (.int .i64 y) = none
  | _, [], _, _ => rfl
  | n, x :: L, y, h => by
    simp only [numM, mget]
    rw [if_neg (fun hk => h (by rw [keyEq_int.1 hk]; simp))]
    exact num_none (fun hm => h (by simp [hm]))
theorem num_some : ∀ {n : Nat} {L : List Int} {y : Int}, y ∈ L → mget (numM n L) (.int .i64 y) = some (.int .i64 ((n + L.idxOf y + 1 : Nat) : Int))
  | _, [], _, h => by simp at h
  | n, x :: L, y, h => by
    simp only [numM, mget]
    by_cases hx : y = x
    · subst hx
      rw [if_pos (keyEq_int.2 rfl)]; simp
    · rw [if_neg (fun hk => hx (keyEq_int.1 hk)), num_some (n := n + 1) (by simpa [hx] using h)]
      have e : (x :: L).idxOf y = L.idxOf y + 1 := by
        rw [List.idxOf_cons, show (x == y) = false from beq_false_of_ne (Ne.symm hx)]; rfl
      rw [e]
      congr 2; push_cast; omega
theorem num_set : ∀ {n : Nat} {L : List Int} {y : Int}, y ∉ L → mset (numM n L) (.int .i64 y) (.int .i64 ((n + L.length + 1 : Nat) : Int)) = numM n (L ++ [y])
  | _, [], _, _ => rfl
  | n, x :: L, y, h => by
    have hx : ¬ keyEq (.int .i64 y) (.int .i64 x) = true := fun hk => h (by rw [keyEq_int.1 hk]; simp)
    have ih := num_set (n := n + 1) (L := L) (y := y) (fun hm => h (by simp [hm]))
    simp only [numM, mset, if_neg hx, List.cons_append]
    rw [← ih, List.length_cons, show n + 1 + L.length + 1 = n + (L.length + 1) + 1 by omega]

/-! ### reach -/

/-- What reach hands back. -/
def rchQ (key b : Nat) (S : Sto) (id : Int) (v : Value) (L1 : List Ent) : Prop :=
  ∃ L a c fp', Rch S id L ∧ v = .slice a L.length c ∧ L1 = [packE key fp' (fS b S), .own 811 a L.length c ty_api_ID 1 (ints .i64 L)]
structure RchG where
  i : Nat
  L : List Int
  a : Option Addr
  c : Nat
structure RchJ where
  j : Nat
  L : List Int
  a : Option Addr
  c : Nat

theorem calls_reach (hs : SortsI Try.prog fn_slices_Sort_Sl_api_ID_api_ID) (b : Nat) (S : Sto) (hw : WF S) (id : Int) (h1 : 1 ≤ id) (h2 : id ≤ S.E.length) (key : Nat) (fp : List Nat) (w : World) (hR : StR w key fp b S) :
    Calls Try.prog fn_P_intern_Store_reach #[pS b, .int .i64 id] w fun e w' => ∃ v L1, e = .returned v ∧ R w fp L1 w' ∧ rchQ key b S id v L1 := by
  refine pack_call [.ptr 1000 b 0, .v (.int .i64 id)] ok_P_intern_Store_reach (by simp) hR ?_
  rintro ⟨a, c, mb⟩ hfp hR'
  have hsm := hw.small
  rw [fS_eq] at hR' ⊢
  have hne := own_ne (key := 1001) hR' rfl (by omega)
  have m0 : mset ([] : List (Value × Value)) (.int .i64 id) (.bool true) = seenM [id] := rfl
  (repeat' ((conv => whnf); first | rw [m0] | (refine bcase_prop (fun h => ?_) (fun h => ?_) <;> try (exfalso; omega)) | (refine bcase_nprop (fun h => ?_) (fun h => ?_) <;> try (exfalso; omega)) | (refine bcase_intro (fun h => ?_) (fun h => ?_) <;> (try simp only [Bool.not_eq_true', Bool.not_eq_false', decide_eq_true_eq, decide_eq_false_iff_not, Bool.not_eq_true, Bool.not_eq_false, Decidable.not_not] at h)) | refine And.intro (by first | omega | exact rfl | assumption | exact ⟨rfl, rfl, rfl, rfl, rfl⟩ | exact ⟨rfl, rfl, rfl, rfl⟩ | exact ⟨rfl, by omega⟩ | exact oneAll_of rfl | exact ⟨rfl, oneAll_of rfl⟩ | exact Ref.refl _ | exact Thin.ref (.skip (Thin.refl _)) | exact Thin.ref (.skip (.skip (Thin.refl _))) | exact ⟨rfl, rfl, _, rfl⟩ | exact ⟨rfl, Nat.le_of_ble_eq_true rfl⟩ | ((try unfold maxLen); (try simp only [List.length_nil, List.length_cons, List.length_append]); omega) | (refine ⟨rfl, ?_⟩; (try simp only [List.length_nil, List.length_cons, List.length_append]); omega)) ?_ | intro _)); (all_goals (conv => whnf))
  rename_i bI bm
  refine VC_loop RchG (fun x => [(0, .ptr 1000 b 0), (5, .sl 13 x.a x.L.length x.c), (6, .mp 14 bm), (7, .v (.int .i64 x.i))])
    (fun x => [.mapE 14 bm (.int .i64) (seenM x.L), .own 13 x.a x.L.length x.c ty_api_ID 1 (ints .i64 x.L), .box 1000 b [.int .i64 S.most, .slice a S.E.length c, .map (some mb)] ty_intern_Store, .own 1001 a S.E.length c ty_intern_entry 13 (ents S.E), .mapE 1002 mb kkR (mapOf S.E)])
    (fun x => x.i ≤ x.L.length ∧ Bfs S id x.i x.L) (fun x => id.toNat - x.i) ⟨0, [id], _, 1⟩ ⟨Nat.zero_le _, Bfs.start h1⟩ (by (repeat ((conv => whnf); refine And.intro (by first | exact rfl | exact vint_eq (by omega) | exact vint_eq (by (dsimp only; omega)) | exact vsl_eq (by omega) | exact vsl_eq (by first | (dsimp only; omega) | (simp; done) | (simp; omega))) ?_)); exact trivial) (Thin.ref (by (repeat (first | exact Thin.nil _ | exact Thin.refl _ | refine Thin.keep rfl (fun _ h => h) ?_ | refine Thin.skip ?_)))) ?_
  rintro ⟨i, L, ar, cr⟩ ⟨hi, hB⟩
  dsimp only at hi hB ⊢
  have hlen := hB.len (by omega)
  by_cases hlt : i < L.length
  · have hmem := getD_mem hlt
    obtain ⟨p1, p2⟩ := hB.pos _ hmem
    generalize hx : L.getD i 0 = x at *
    have hat := ents_rule (E := S.E) (i := x.toNat - 1) (by omega)
    have hxe : ((x - 1).toNat) = x.toNat - 1 := by omega
    have hae : S.E.getD (x.toNat - 1) ent0 = atE S.E x := (atE_pos (by omega)).symm
    rw [hae] at hat
    have hr1 : (ints .i64 L)[i]? = some (.int .i64 x) := by rw [← hx]; exact ints_getD hlt
    have c1 := calls_Refs (atE S.E x).r
    have hok := hw.okAt p1 (by omega)
    have hrl := refsL_len (atE S.E x).r
    have hrr := okR_refs hok
    generalize hzs : refsL (atE S.E x).r = zs at *
    (repeat' ((conv => whnf); first | rw [hxe] | rw [Int.toNat_natCast] | rw [Nat.mul_one] | rw [intOf_ints hlt, hx] | refine ⟨ruC (atE S.E x).r, rfl, Rd.own (key := 1001) rfl (Nat.succ_pos _) hat, ?_⟩ | refine CallK_slice 900 (fun w hR => c1 w) ?_ | refine ⟨_, ⟨rfl, trivial⟩, ?_⟩ | (refine bcase_prop (fun h => ?_) (fun h => ?_) <;> try (exfalso; omega)) | (refine bcase_nprop (fun h => ?_) (fun h => ?_) <;> try (exfalso; omega)) | (refine bcase_intro (fun h => ?_) (fun h => ?_) <;> (try simp only [Bool.not_eq_true', Bool.not_eq_false', decide_eq_true_eq, decide_eq_false_iff_not, Bool.not_eq_true, Bool.not_eq_false, Decidable.not_not] at h)) | refine And.intro (by first | omega | exact rfl | assumption | exact ⟨rfl, rfl, rfl, rfl, rfl⟩ | exact ⟨rfl, rfl, rfl, rfl⟩ | exact ⟨rfl, by omega⟩ | exact oneAll_of rfl | exact ⟨rfl, oneAll_of rfl⟩ | exact Ref.refl _ | exact Thin.ref (.skip (Thin.refl _)) | exact Thin.ref (.skip (.skip (Thin.refl _))) | exact hne | exact isK_ints hlt | exact ⟨rfl, Nat.le_of_ble_eq_true rfl⟩ | ((try unfold maxLen); (try simp only [List.length_nil, List.length_cons, List.length_append]); omega) | (refine ⟨rfl, ?_⟩; (try simp only [List.length_nil, List.length_cons, List.length_append]); omega)) ?_ | intro _)); (all_goals (conv => whnf))
    rename_i a9 c9
    refine VC_loop RchJ (fun y => [(0, .ptr 1000 b 0), (5, .sl 13 y.a y.L.length y.c), (6, .mp 14 bm), (7, .v (.int .i64 i)), (35, .sl 900 a9 zs.length c9), (36, .v (.int .i64 zs.length)), (37, .v (.int .i64 y.j))])
      (fun y => [.own 900 a9 zs.length c9 ty_api_ID 1 (ints .i64 zs), .mapE 14 bm (.int .i64) (seenM y.L), .own 13 y.a y.L.length y.c ty_api_ID 1 (ints .i64 y.L), .box 1000 b [.int .i64 S.most, .slice a S.E.length c, .map (some mb)] ty_intern_Store, .own 1001 a S.E.length c ty_intern_entry 13 (ents S.E), .mapE 1002 mb kkR (mapOf S.E)])
      (fun y => y.j ≤ zs.length ∧ Bfs S id i y.L ∧ (i < y.L.length ∧ y.L.getD i 0 = x) ∧ ∀ k, k < y.j → zs.getD k 0 ∈ y.L) (fun y => zs.length - y.j) ⟨0, L, ar, cr⟩ ⟨Nat.zero_le _, hB, ⟨hlt, hx⟩, fun k hk => absurd hk (Nat.not_lt_zero k)⟩ (by (repeat ((conv => whnf); refine And.intro (by first | exact rfl | exact vint_eq (by omega) | exact vint_eq (by (dsimp only; omega)) | exact vsl_eq (by omega) | exact vsl_eq (by first | (dsimp only; omega) | (simp; done) | (simp; omega))) ?_)); exact trivial) (Thin.ref (by (repeat (first | exact Thin.nil _ | exact Thin.refl _ | refine Thin.keep rfl (fun _ h => h) ?_ | refine Thin.skip ?_)))) ?_
    clear hlen hB hi
    rintro ⟨j, M, am, cm⟩ ⟨hj, hB, ⟨hiM, hxM⟩, hM⟩
    dsimp only at hj hB hiM hxM hM ⊢
    have hlen := hB.len (by omega)
    by_cases hlj : j < zs.length
    · have hy := hrr j hlj
      have hyz : zs.getD j 0 ∈ refsL (atE S.E x).r := by rw [hzs]; exact getD_mem hlj
      generalize hyx : zs.getD j 0 = y at *
      have hxm : x ∈ M := by rw [← hxM]; exact getD_mem hiM
      by_cases hyM : y ∈ M
      · have hm := seen_some hyM
        (repeat' ((conv => whnf); first | rw [Int.toNat_natCast] | rw [Nat.mul_one] | rw [intOf_ints hlj, hyx] | refine lk_some hm ?_ | refine ⟨.mp 14 _, ⟨rfl, rfl⟩, ?_⟩ | (refine bcase_prop (fun h => ?_) (fun h => ?_) <;> try (exfalso; omega)) | (refine bcase_nprop (fun h => ?_) (fun h => ?_) <;> try (exfalso; omega)) | (refine bcase_intro (fun h => ?_) (fun h => ?_) <;> (try simp only [Bool.not_eq_true', Bool.not_eq_false', decide_eq_true_eq, decide_eq_false_iff_not, Bool.not_eq_true, Bool.not_eq_false, Decidable.not_not] at h)) | refine And.intro (by first | omega | exact rfl | assumption | exact ⟨rfl, rfl, rfl, rfl, rfl⟩ | exact ⟨rfl, rfl, rfl, rfl⟩ | exact ⟨rfl, by omega⟩ | exact oneAll_of rfl | exact ⟨rfl, oneAll_of rfl⟩ | exact Ref.refl _ | exact Thin.ref (.skip (Thin.refl _)) | exact Thin.ref (.skip (.skip (Thin.refl _))) | exact isK_ints hlj | exact ⟨rfl, rfl, _, rfl⟩ | exact ⟨rfl, Nat.le_of_ble_eq_true rfl⟩ | ((try unfold maxLen); (try simp only [List.length_nil, List.length_cons, List.length_append]); omega) | (refine ⟨rfl, ?_⟩; (try simp only [List.length_nil, List.length_cons, List.length_append]); omega)) ?_ | intro _)); (all_goals (conv => whnf))
        refine loop_next ⟨j + 1, M, am, cm⟩ ⟨by ((try dsimp only); omega), hB, ⟨hiM, hxM⟩, fun k hk => ?_⟩ (by ((try dsimp only); omega)) (by (repeat ((conv => whnf); refine And.intro (by first | exact rfl | exact vint_eq (by omega) | exact vint_eq (by (dsimp only; omega)) | exact vsl_eq (by omega) | exact vsl_eq (by first | (dsimp only; omega) | (simp; done) | (simp; omega))) ?_)); exact trivial) (Ref.refl _)
        rcases (show k < j ∨ k = j by have : k < j + 1 := hk; omega) with hk | rfl
        · exact hM k hk
        · rw [hyx]; exact hyM
      · have hm := seen_none hyM
        have hs := seen_set hyM
        (repeat' ((conv => whnf); first | rw [hs] | rw [Int.toNat_natCast] | rw [Nat.mul_one] | rw [intOf_ints hlj, hyx] | refine lk_none hm ?_ | refine ⟨.mp 14 _, ⟨rfl, rfl⟩, ?_⟩ | (refine bcase_prop (fun h => ?_) (fun h => ?_) <;> try (exfalso; omega)) | (refine bcase_nprop (fun h => ?_) (fun h => ?_) <;> try (exfalso; omega)) | (refine bcase_intro (fun h => ?_) (fun h => ?_) <;> (try simp only [Bool.not_eq_true', Bool.not_eq_false', decide_eq_true_eq, decide_eq_false_iff_not, Bool.not_eq_true, Bool.not_eq_false, Decidable.not_not] at h)) | refine And.intro (by first | omega | exact rfl | assumption | exact ⟨rfl, rfl, rfl, rfl, rfl⟩ | exact ⟨rfl, rfl, rfl, rfl⟩ | exact ⟨rfl, by omega⟩ | exact oneAll_of rfl | exact ⟨rfl, oneAll_of rfl⟩ | exact Ref.refl _ | exact Thin.ref (.skip (Thin.refl _)) | exact Thin.ref (.skip (.skip (Thin.refl _))) | exact isK_ints hlj | exact ⟨rfl, rfl, _, rfl⟩ | exact ⟨by unfold maxLen; omega, by omega⟩ | exact ⟨rfl, Nat.le_of_ble_eq_true rfl⟩ | ((try unfold maxLen); (try simp only [List.length_nil, List.length_cons, List.length_append]); omega) | (refine ⟨rfl, ?_⟩; (try simp only [List.length_nil, List.length_cons, List.length_append]); omega)) ?_ | intro _)); (all_goals (conv => whnf))
        rename_i a' c'
        have hMl : (M ++ [y]).length = M.length + 1 := by simp
        refine loop_next ⟨j + 1, M ++ [y], a', c'⟩ ⟨by ((try dsimp only); omega), hB.snoc (by omega) hyM (by omega) (by omega) hxm hyz, ⟨by ((try dsimp only); omega), by rw [getD_append_left hiM]; exact hxM⟩, fun k hk => ?_⟩ (by ((try dsimp only); omega)) ?_ ?_
        · rcases (show k < j ∨ k = j by have : k < j + 1 := hk; omega) with hk | rfl
          · exact List.mem_append_left _ (hM k hk)
          · rw [hyx]; exact List.mem_append_right _ (by simp)
        · dsimp only
          rw [hMl]
          (repeat ((conv => whnf); refine And.intro (by first | exact rfl | exact vint_eq (by omega) | exact vint_eq (by (dsimp only; omega)) | exact vsl_eq (by omega) | exact vsl_eq (by first | (dsimp only; omega) | (simp; done) | (simp; omega))) ?_)); exact trivial
        · dsimp only
          rw [hMl, ← Go.EG.ints_snoc]
          exact Thin.ref (.skip (Thin.refl _))
    · have hjz : j = zs.length := by omega
      (repeat' ((conv => whnf); first | (refine bcase_prop (fun h => ?_) (fun h => ?_) <;> try (exfalso; omega)) | (refine bcase_nprop (fun h => ?_) (fun h => ?_) <;> try (exfalso; omega)) | (refine bcase_intro (fun h => ?_) (fun h => ?_) <;> (try simp only [Bool.not_eq_true', Bool.not_eq_false', decide_eq_true_eq, decide_eq_false_iff_not, Bool.not_eq_true, Bool.not_eq_false, Decidable.not_not] at h)) | refine And.intro (by first | omega | exact rfl | assumption | exact ⟨rfl, rfl, rfl, rfl, rfl⟩ | exact ⟨rfl, rfl, rfl, rfl⟩ | exact ⟨rfl, by omega⟩ | exact oneAll_of rfl | exact ⟨rfl, oneAll_of rfl⟩ | exact Ref.refl _ | exact Thin.ref (.skip (Thin.refl _)) | exact Thin.ref (.skip (.skip (Thin.refl _))) | exact ⟨rfl, Nat.le_of_ble_eq_true rfl⟩ | ((try unfold maxLen); (try simp only [List.length_nil, List.length_cons, List.length_append]); omega) | (refine ⟨rfl, ?_⟩; (try simp only [List.length_nil, List.length_cons, List.length_append]); omega)) ?_ | intro _)); (all_goals (conv => whnf))
      refine loop_next ⟨i + 1, M, am, cm⟩ ⟨by ((try dsimp only); omega), hB.next fun y hy => ?_⟩ (by ((try dsimp only); omega)) (by (repeat ((conv => whnf); refine And.intro (by first | exact rfl | exact vint_eq (by omega) | exact vint_eq (by (dsimp only; omega)) | exact vsl_eq (by omega) | exact vsl_eq (by first | (dsimp only; omega) | (simp; done) | (simp; omega))) ?_)); exact trivial) (Thin.ref (.skip (Thin.refl _)))
      rw [hxM, hzs] at hy
      obtain ⟨k, hk, rfl⟩ := List.getElem_of_mem hy
      have := hM k (by omega)
      rwa [List.getD_eq_getElem?_getD, List.getElem?_eq_getElem hk] at this
  · have hil : i = L.length := by omega
    subst hil
    have hpos : 0 < L.length := List.length_pos_of_mem hB.top
    have hbig : L.length < 4611686018427387904 := by omega
    (repeat' ((conv => whnf); first | refine CallK_sort (key := 13) (zs := L) hs rfl rfl hpos hbig ?_ | refine ⟨_, ⟨rfl, trivial⟩, ?_⟩ | (refine bcase_prop (fun h => ?_) (fun h => ?_) <;> try (exfalso; omega)) | (refine bcase_nprop (fun h => ?_) (fun h => ?_) <;> try (exfalso; omega)) | (refine bcase_intro (fun h => ?_) (fun h => ?_) <;> (try simp only [Bool.not_eq_true', Bool.not_eq_false', decide_eq_true_eq, decide_eq_false_iff_not, Bool.not_eq_true, Bool.not_eq_false, Decidable.not_not] at h)) | refine And.intro (by first | omega | exact rfl | assumption | exact ⟨rfl, rfl, rfl, rfl, rfl⟩ | exact ⟨rfl, rfl, rfl, rfl⟩ | exact ⟨rfl, by omega⟩ | exact oneAll_of rfl | exact ⟨rfl, oneAll_of rfl⟩ | exact Ref.refl _ | exact Thin.ref (.skip (Thin.refl _)) | exact Thin.ref (.skip (.skip (Thin.refl _))) | exact ⟨rfl, Nat.le_of_ble_eq_true rfl⟩ | ((try unfold maxLen); (try simp only [List.length_nil, List.length_cons, List.length_append]); omega) | (refine ⟨rfl, ?_⟩; (try simp only [List.length_nil, List.length_cons, List.length_append]); omega)) ?_ | intro _)); (all_goals (conv => whnf))
    have hml : (L.mergeSort (· ≤ ·)).length = L.length := List.length_mergeSort L
    exact ⟨⟨_, (Thin.ref (.skip (.own (k' := 811) hml.symm rfl (Thin.refl _)))).trans ((Ref.perm (List.perm_append_comm (l₁ := [_]))).trans (Ref.packs (key := key) (f := fS b S) (a, c, mb) (Thin.refl _))), L.mergeSort (· ≤ ·), ar, cr, fps (fS b S (a, c, mb)), hB.done, by rw [hml], rfl⟩⟩
theorem calls_reach0 (b : Nat) (w : World) (key : Nat) (fp : List Nat) (S : Sto) (hR : StR w key fp b S) :
    Calls Try.prog fn_P_intern_Store_reach #[pS b, .int .i64 0] w fun e w' => ∃ v L1, e = .returned v ∧ R w fp L1 w' ∧ rchQ key b S 0 v L1 := by
  refine part_call [.ptr 1000 b 0, .v (.int .i64 0)] ok_P_intern_Store_reach (by simp) hR ?_
  (repeat' ((conv => whnf); first | (refine bcase_prop (fun h => ?_) (fun h => ?_) <;> try (exfalso; omega)) | (refine bcase_nprop (fun h => ?_) (fun h => ?_) <;> try (exfalso; omega)) | (refine bcase_intro (fun h => ?_) (fun h => ?_) <;> (try simp only [Bool.not_eq_true', Bool.not_eq_false', decide_eq_true_eq, decide_eq_false_iff_not, Bool.not_eq_true, Bool.not_eq_false, Decidable.not_not] at h)) | refine And.intro (by first | omega | exact rfl | assumption | exact ⟨rfl, rfl, rfl, rfl, rfl⟩ | exact ⟨rfl, rfl, rfl, rfl⟩ | exact ⟨rfl, by omega⟩ | exact oneAll_of rfl | exact ⟨rfl, oneAll_of rfl⟩ | exact Ref.refl _ | exact Thin.ref (.skip (Thin.refl _)) | exact Thin.ref (.skip (.skip (Thin.refl _))) | exact ⟨rfl, Nat.le_of_ble_eq_true rfl⟩ | ((try unfold maxLen); (try simp only [List.length_nil, List.length_cons, List.length_append]); omega) | (refine ⟨rfl, ?_⟩; (try simp only [List.length_nil, List.length_cons, List.length_append]); omega)) ?_ | intro _)); (all_goals (conv => whnf))
  exact ⟨⟨_, (Ref.ownNil 811 ty_api_ID 1).trans (Ref.perm (.swap _ _ _)), [], none, 0, fp, Rch.nil, rfl, rfl⟩⟩
theorem calls_reachT (hs : SortsI Try.prog fn_slices_Sort_Sl_api_ID_api_ID) (b : Nat) (S : Sto) (hw : WF S) (id : Int) (hk : known S id) (key : Nat) (fp : List Nat) (w : World) (hR : StR w key fp b S) :
    Calls Try.prog fn_P_intern_Store_reach #[pS b, .int .i64 id] w fun e w' => ∃ v L1, e = .returned v ∧ R w fp L1 w' ∧ rchQ key b S id v L1 := by
  by_cases h0 : id = 0
  · subst h0; exact calls_reach0 b w key fp S hR
  · exact calls_reach hs b S hw id (by have := hk.1; omega) hk.2 key fp w hR

/-! ### Export -/

/-- What Export hands back. -/
def xpQ (key b : Nat) (S : Sto) (id : Int) (v : Value) (L1 : List Ent) : Prop :=
  ∃ L a c fp', Rch S id L ∧ v = .tuple #[.slice a (xg S L).length c, .nilIface] ∧ L1 = [packE key fp' (fS b S), .own 812 a (xg S L).length c ty_api_Rule 5 (rulsC (xg S L))]
structure XpG where
  i : Nat
  a : Option Addr
  c : Nat
theorem calls_Export (hs : SortsI Try.prog fn_slices_Sort_Sl_api_ID_api_ID) (b : Nat) (S : Sto) (hw : WF S) (id : Int) (hk : known S id) (key : Nat) (fp : List Nat) (w : World) (hR : StR w key fp b S) :
    Calls Try.prog fn_P_intern_Store_Export #[pS b, .int .i64 id] w fun e w' => ∃ v L1, e = .returned v ∧ R w fp L1 w' ∧ xpQ key b S id v L1 := by
  refine part_call [.v (pS b), .v (.int .i64 id)] ok_P_intern_Store_Export (by simp) (hR.key 77) ?_
  have c1 := calls_knownT b S hk
  have c2 := calls_reachT hs b S hw id hk
  have hsm := hw.small
  (repeat' ((conv => whnf); first | (refine CallK_pack (key := 77) rfl (fun w hR h0 => c1 _ _ _ h0) ?_; rintro _ _ ⟨rfl, fp', rfl⟩; refine ⟨.v _, rfl, ?_⟩) | (refine CallK_packO (key := 77) 77 (fS b S) rfl (fun w hR h0 => c2 _ _ _ h0) ?_; rintro _ _ ⟨L, aL, cL, fp', hL, rfl, rfl⟩; refine ⟨_, _, rfl, ?_⟩; rintro ⟨a, c, mb⟩ w' hRu; rw [fS_eq] at hRu ⊢; have hLl := hL.small hw hk; refine ⟨.v _, rfl, ?_⟩) | (refine bcase_prop (fun h => ?_) (fun h => ?_) <;> try (exfalso; omega)) | (refine bcase_nprop (fun h => ?_) (fun h => ?_) <;> try (exfalso; omega)) | (refine bcase_intro (fun h => ?_) (fun h => ?_) <;> (try simp only [Bool.not_eq_true', Bool.not_eq_false', decide_eq_true_eq, decide_eq_false_iff_not, Bool.not_eq_true, Bool.not_eq_false, Decidable.not_not] at h)) | refine And.intro (by first | omega | exact rfl | assumption | exact ⟨rfl, rfl, rfl, rfl, rfl⟩ | exact ⟨rfl, rfl, rfl, rfl⟩ | exact ⟨rfl, by omega⟩ | exact oneAll_of rfl | exact ⟨rfl, oneAll_of rfl⟩ | exact Ref.refl _ | exact Thin.ref (.skip (Thin.refl _)) | exact Thin.ref (.skip (.skip (Thin.refl _))) | exact ⟨by omega, by omega, by omega, by unfold maxLen; omega⟩ | exact ⟨rfl, Nat.le_of_ble_eq_true rfl⟩ | ((try unfold maxLen); (try simp only [List.length_nil, List.length_cons, List.length_append]); omega) | (refine ⟨rfl, ?_⟩; (try simp only [List.length_nil, List.length_cons, List.length_append]); omega)) ?_ | intro _)); (all_goals (conv => whnf))
  rename_i bm b8
  refine VC_loop XpG (fun x => [(0, .ptr 1000 b 0), (7, .mp 25 bm), (8, .sl 28 x.a x.i x.c), (29, .v (.slice aL L.length cL)), (30, .v (.int .i64 L.length)), (31, .v (.int .i64 x.i))])
    (fun x => [.own 28 x.a x.i x.c ty_api_Rule 5 (rulsC ((xg S L).take x.i)), .mapE 25 bm (.int .i64) (numM 0 (L.take x.i)), .box 1000 b [.int .i64 S.most, .slice a S.E.length c, .map (some mb)] ty_intern_Store, .own 1001 a S.E.length c ty_intern_entry 13 (ents S.E), .mapE 1002 mb kkR (mapOf S.E), .own 811 aL L.length cL ty_api_ID 1 (ints .i64 L)])
    (fun x => x.i ≤ L.length) (fun x => L.length - x.i) ⟨0, _, _⟩ (Nat.zero_le _) (by (repeat ((conv => whnf); refine And.intro (by first | exact rfl | exact vint_eq (by omega) | exact vint_eq (by (dsimp only; omega)) | exact vsl_eq (by omega) | exact vsl_eq (by first | (dsimp only; omega) | (simp; done) | (simp; omega))) ?_)); exact trivial) (Thin.ref (Thin.refl _)) ?_
  rintro ⟨i, a8, c8⟩ hi
  dsimp only at hi ⊢
  by_cases hlt : i < L.length
  · have hmem := getD_mem hlt
    obtain ⟨p1, p2⟩ := hL.pos _ hmem
    have hid := hk.2
    have hne := own_ne (key := 1001) hRu rfl (by omega)
    have hneL := own_ne (key := 811) hRu rfl (by omega)
    have hx0 : L.getD i 0 ∉ L.take i := fun hm => by
      obtain ⟨j, hj, he⟩ := List.getElem_of_mem hm
      rw [List.length_take] at hj
      have := asc_get hL.asc (i := j) (j := i) (by omega) hlt
      rw [List.getElem_take] at he
      rw [show L.getD j 0 = L[j] by rw [List.getD_eq_getElem?_getD, List.getElem?_eq_getElem (by omega)]; rfl] at this
      omega
    have hnum := num_set (n := 0) hx0
    rw [← take_snoc (d := 0) hlt, List.length_take, Nat.min_eq_left (by omega)] at hnum
    have hsn : rulsC ((xg S L).take i) ++ ruC (ren L (atE S.E (L.getD i 0)).r) = rulsC ((xg S L).take (i + 1)) := by
      rw [rulsC_snoc, take_snoc (d := rul0) (by rw [xg_length]; exact hlt), xg, getD_map (d := 0) hlt]
    have hok := hw.okAt p1 (by omega)
    have hlk : ∀ y, y ∈ refsL (atE S.E (L.getD i 0)).r → y < L.getD i 0 → mget (numM 0 (L.take (i + 1))) (.int .i64 y) = some (.int .i64 (posn L y)) := by
      intro y hy hlt'
      have hyL := hL.cls _ hmem y hy
      have hx := asc_idx hL.asc hlt hyL hlt'
      have hyt : y ∈ L.take (i + 1) := by
        have h2 := idxOf_getD hyL
        rw [List.mem_take_iff_getElem]
        refine ⟨L.idxOf y, by omega, ?_⟩
        have := h2.2
        rw [List.getD_eq_getElem?_getD, List.getElem?_eq_getElem h2.1] at this
        exact this
      rw [num_some hyt, posn_mem hyL]
      have : (L.take (i + 1)).idxOf y = L.idxOf y := by
        conv => rhs; rw [← List.take_append_drop (i + 1) L]
        rw [List.idxOf_append, if_pos hyt]
      rw [this]
      congr 2
      push_cast; omega
    have hl0 : mget (numM 0 (L.take (i + 1))) (.int .i64 0) = none := num_none fun h0 => by
      have := (hL.pos 0 (List.mem_of_mem_take h0)).1; omega
    have hn0 : posn L 0 = 0 := posn_not fun h0 => by have := (hL.pos 0 h0).1; omega
    have hr1 : (ints .i64 L)[i]? = some (.int .i64 (L.getD i 0)) := ints_getD hlt
    have hat := ents_rule (E := S.E) (i := (L.getD i 0).toNat - 1) (by omega)
    have hxe : ((L.getD i 0 - 1).toNat) = (L.getD i 0).toNat - 1 := by omega
    have hae : S.E.getD ((L.getD i 0).toNat - 1) ent0 = atE S.E (L.getD i 0) := (atE_pos (by omega)).symm
    rw [hae] at hat
    have hc1 : (i : Int) + 1 = ((0 + i + 1 : Nat) : Int) := by omega
    generalize hx : L.getD i 0 = x at *
    generalize hrr : (atE S.E x).r = r at *
    obtain ⟨rk, rl, ra, rb, rt⟩ := r
    have h3 := hok
    unfold okR at h3
    rcases h3 with ⟨k1, k2, k3, _⟩ | ⟨k1, k2, k3, k4, k5, k6, k7⟩ | ⟨k1, k2, k3, k4, k5, k6⟩
    · simp only at k1 k2 k3
      subst k1 k2 k3
      simp only [ren, hn0] at hsn
      (repeat' ((conv => whnf); first | rw [hc1, hnum] | rw [hxe] | rw [Int.toNat_natCast] | rw [Nat.mul_one] | refine ⟨_, rdO 811 rfl hr1, ?_⟩ | refine ⟨ruC ⟨_, _, _, _, _⟩, rfl, Rd.own (key := 1001) rfl (Nat.succ_pos _) hat, ?_⟩ | refine lk_none hl0 ?_ | refine ⟨.mp 25 _, ⟨rfl, rfl⟩, ?_⟩ | refine ⟨_, ⟨rfl, trivial⟩, ?_⟩ | refine stop_and ?_ ?_ | (refine bcase_prop (fun h => ?_) (fun h => ?_) <;> try (exfalso; omega)) | (refine bcase_nprop (fun h => ?_) (fun h => ?_) <;> try (exfalso; omega)) | (refine bcase_intro (fun h => ?_) (fun h => ?_) <;> (try simp only [Bool.not_eq_true', Bool.not_eq_false', decide_eq_true_eq, decide_eq_false_iff_not, Bool.not_eq_true, Bool.not_eq_false, Decidable.not_not] at h)) | refine And.intro (by first | omega | exact rfl | assumption | exact ⟨rfl, rfl, rfl, rfl, rfl⟩ | exact ⟨rfl, rfl, rfl, rfl⟩ | exact ⟨rfl, by omega⟩ | exact oneAll_of rfl | exact ⟨rfl, oneAll_of rfl⟩ | exact Ref.refl _ | exact Thin.ref (.skip (Thin.refl _)) | exact Thin.ref (.skip (.skip (Thin.refl _))) | exact hne | exact hneL | exact fun h => absurd h Bool.false_ne_true | exact fun _ => Ref.refl _ | exact ⟨rfl, rfl, _, rfl⟩ | exact ⟨by unfold maxLen; omega, by omega⟩ | exact ⟨rfl, Nat.le_of_ble_eq_true rfl⟩ | ((try unfold maxLen); (try simp only [List.length_nil, List.length_cons, List.length_append]); omega) | (refine ⟨rfl, ?_⟩; (try simp only [List.length_nil, List.length_cons, List.length_append]); omega)) ?_ | intro _)); (all_goals (conv => whnf))
      all_goals
        rename_i a' c'
        exact loop_next ⟨i + 1, a', c'⟩ (by ((try dsimp only); omega)) (by ((try dsimp only); omega)) (by (repeat ((conv => whnf); refine And.intro (by first | exact rfl | exact vint_eq (by omega) | exact vint_eq (by (dsimp only; omega)) | exact vsl_eq (by omega) | exact vsl_eq (by first | (dsimp only; omega) | (simp; done) | (simp; omega))) ?_)); exact trivial) (Thin.ref (.skip (.skip (.own rfl hsn (Thin.refl _)))))
    · simp only at k1
      subst k1
      have ha := hlk ra (by rw [refs_two rfl]; simp) k5
      have hb := hlk rb (by rw [refs_two rfl]; simp) k7
      simp only [ren] at hsn
      (repeat' ((conv => whnf); first | rw [hc1, hnum] | rw [hxe] | rw [Int.toNat_natCast] | rw [Nat.mul_one] | refine ⟨_, rdO 811 rfl hr1, ?_⟩ | refine ⟨ruC ⟨_, _, _, _, _⟩, rfl, Rd.own (key := 1001) rfl (Nat.succ_pos _) hat, ?_⟩ | refine lk_some ha ?_ | refine lk_some hb ?_ | refine ⟨.mp 25 _, ⟨rfl, rfl⟩, ?_⟩ | refine ⟨_, ⟨rfl, trivial⟩, ?_⟩ | refine stop_and ?_ ?_ | (refine bcase_prop (fun h => ?_) (fun h => ?_) <;> try (exfalso; omega)) | (refine bcase_nprop (fun h => ?_) (fun h => ?_) <;> try (exfalso; omega)) | (refine bcase_intro (fun h => ?_) (fun h => ?_) <;> (try simp only [Bool.not_eq_true', Bool.not_eq_false', decide_eq_true_eq, decide_eq_false_iff_not, Bool.not_eq_true, Bool.not_eq_false, Decidable.not_not] at h)) | refine And.intro (by first | omega | exact rfl | assumption | exact ⟨rfl, rfl, rfl, rfl, rfl⟩ | exact ⟨rfl, rfl, rfl, rfl⟩ | exact ⟨rfl, by omega⟩ | exact oneAll_of rfl | exact ⟨rfl, oneAll_of rfl⟩ | exact Ref.refl _ | exact Thin.ref (.skip (Thin.refl _)) | exact Thin.ref (.skip (.skip (Thin.refl _))) | exact hne | exact hneL | exact fun h => absurd h Bool.false_ne_true | exact fun _ => Ref.refl _ | exact ⟨rfl, rfl, _, rfl⟩ | exact ⟨by unfold maxLen; omega, by omega⟩ | exact ⟨rfl, Nat.le_of_ble_eq_true rfl⟩ | ((try unfold maxLen); (try simp only [List.length_nil, List.length_cons, List.length_append]); omega) | (refine ⟨rfl, ?_⟩; (try simp only [List.length_nil, List.length_cons, List.length_append]); omega)) ?_ | intro _)); (all_goals (conv => whnf))
      all_goals
        rename_i a' c'
        exact loop_next ⟨i + 1, a', c'⟩ (by ((try dsimp only); omega)) (by ((try dsimp only); omega)) (by (repeat ((conv => whnf); refine And.intro (by first | exact rfl | exact vint_eq (by omega) | exact vint_eq (by (dsimp only; omega)) | exact vsl_eq (by omega) | exact vsl_eq (by first | (dsimp only; omega) | (simp; done) | (simp; omega))) ?_)); exact trivial) (Thin.ref (.skip (.skip (.own rfl hsn (Thin.refl _)))))
    · simp only at k1 k3
      subst k1 k3
      have ha := hlk ra (by rw [refs_one rfl]; simp) k6
      simp only [ren, hn0] at hsn
      (repeat' ((conv => whnf); first | rw [hc1, hnum] | rw [hxe] | rw [Int.toNat_natCast] | rw [Nat.mul_one] | refine ⟨_, rdO 811 rfl hr1, ?_⟩ | refine ⟨ruC ⟨_, _, _, _, _⟩, rfl, Rd.own (key := 1001) rfl (Nat.succ_pos _) hat, ?_⟩ | refine lk_none hl0 ?_ | refine lk_some ha ?_ | refine ⟨.mp 25 _, ⟨rfl, rfl⟩, ?_⟩ | refine ⟨_, ⟨rfl, trivial⟩, ?_⟩ | refine stop_and ?_ ?_ | (refine bcase_prop (fun h => ?_) (fun h => ?_) <;> try (exfalso; omega)) | (refine bcase_nprop (fun h => ?_) (fun h => ?_) <;> try (exfalso; omega)) | (refine bcase_intro (fun h => ?_) (fun h => ?_) <;> (try simp only [Bool.not_eq_true', Bool.not_eq_false', decide_eq_true_eq, decide_eq_false_iff_not, Bool.not_eq_true, Bool.not_eq_false, Decidable.not_not] at h)) | refine And.intro (by first | omega | exact rfl | assumption | exact ⟨rfl, rfl, rfl, rfl, rfl⟩ | exact ⟨rfl, rfl, rfl, rfl⟩ | exact ⟨rfl, by omega⟩ | exact oneAll_of rfl | exact ⟨rfl, oneAll_of rfl⟩ | exact Ref.refl _ | exact Thin.ref (.skip (Thin.refl _)) | exact Thin.ref (.skip (.skip (Thin.refl _))) | exact hne | exact hneL | exact fun h => absurd h Bool.false_ne_true | exact fun _ => Ref.refl _ | exact ⟨rfl, rfl, _, rfl⟩ | exact ⟨by unfold maxLen; omega, by omega⟩ | exact ⟨rfl, Nat.le_of_ble_eq_true rfl⟩ | ((try unfold maxLen); (try simp only [List.length_nil, List.length_cons, List.length_append]); omega) | (refine ⟨rfl, ?_⟩; (try simp only [List.length_nil, List.length_cons, List.length_append]); omega)) ?_ | intro _)); (all_goals (conv => whnf))
      all_goals
        rename_i a' c'
        exact loop_next ⟨i + 1, a', c'⟩ (by ((try dsimp only); omega)) (by ((try dsimp only); omega)) (by (repeat ((conv => whnf); refine And.intro (by first | exact rfl | exact vint_eq (by omega) | exact vint_eq (by (dsimp only; omega)) | exact vsl_eq (by omega) | exact vsl_eq (by first | (dsimp only; omega) | (simp; done) | (simp; omega))) ?_)); exact trivial) (Thin.ref (.skip (.skip (.own rfl hsn (Thin.refl _)))))
  · have hil : i = L.length := by omega
    subst hil
    have hxl : (xg S L).length = L.length := xg_length S L
    have hxt : (xg S L).take L.length = xg S L := List.take_of_length_le (by rw [hxl]; exact Nat.le_refl _)
    (repeat' ((conv => whnf); first | (refine bcase_prop (fun h => ?_) (fun h => ?_) <;> try (exfalso; omega)) | (refine bcase_nprop (fun h => ?_) (fun h => ?_) <;> try (exfalso; omega)) | (refine bcase_intro (fun h => ?_) (fun h => ?_) <;> (try simp only [Bool.not_eq_true', Bool.not_eq_false', decide_eq_true_eq, decide_eq_false_iff_not, Bool.not_eq_true, Bool.not_eq_false, Decidable.not_not] at h)) | refine And.intro (by first | omega | exact rfl | assumption | exact ⟨rfl, rfl, rfl, rfl, rfl⟩ | exact ⟨rfl, rfl, rfl, rfl⟩ | exact ⟨rfl, by omega⟩ | exact oneAll_of rfl | exact ⟨rfl, oneAll_of rfl⟩ | exact Ref.refl _ | exact Thin.ref (.skip (Thin.refl _)) | exact Thin.ref (.skip (.skip (Thin.refl _))) | exact ⟨rfl, Nat.le_of_ble_eq_true rfl⟩ | ((try unfold maxLen); (try simp only [List.length_nil, List.length_cons, List.length_append]); omega) | (refine ⟨rfl, ?_⟩; (try simp only [List.length_nil, List.length_cons, List.length_append]); omega)) ?_ | intro _)); (all_goals (conv => whnf))
    refine ⟨⟨_, (Thin.ref (.own (k' := 812) hxl.symm (congrArg rulsC hxt) (.skip (.keep rfl (fun _ h => h) (.keep rfl (fun _ h => h) (.keep rfl (fun _ h => h) (.nil _))))))).trans ((Ref.perm (List.perm_append_comm (l₁ := [_]))).trans (Ref.packs (key := key) (f := fS b S) (a, c, mb) (Thin.refl _))), L, a8, c8, fps (fS b S (a, c, mb)), hL, by rw [hxl], rfl⟩⟩
end Go.Proofs.Ytohlphngnhcbfaa
/- Counts and first occurrences: the program. -/
namespace Go.Proofs.Ytohlphngnhcbfaa
open Go.EG
attribute [local irreducible] CallK QCall Go.Calls
set_option linter.unusedSimpArgs false
set_option linter.unusedVariables false
set_option maxRecDepth 20000
set_option maxHeartbeats 4000000

/-! ### Sets of letters -/

structure Let4 where
  s0 : Nat
  s1 : Nat
  s2 : Nat
  s3 : Nat
abbrev l4C (s : Let4) : List Value := [.int .u64 s.s0, .int .u64 s.s1, .int .u64 s.s2, .int .u64 s.s3]
abbrev l4V (s : Let4) : Value := .agg #[.int .u64 s.s0, .int .u64 s.s1, .int .u64 s.s2, .int .u64 s.s3]
def Let4.w (s : Let4) (i : Nat) : Nat := if i = 0 then s.s0 else if i = 1 then s.s1 else if i = 2 then s.s2 else s.s3
def Let4.has (s : Let4) (b : Nat) : Bool := decide (s.w (b / 64) / 2 ^ (b % 64) % 2 = 1)
structure Let4.Ok (s : Let4) : Prop where
  h0 : s.s0 < 18446744073709551616
  h1 : s.s1 < 18446744073709551616
  h2 : s.s2 < 18446744073709551616
  h3 : s.s3 < 18446744073709551616

theorem l4div {x : Nat} (k : Nat) (h : x < 18446744073709551616) : (x : Int) / ((2 ^ k : Nat) : Int) = ((x / 2 ^ k : Nat) : Int) ∧ x / 2 ^ k < 18446744073709551616 :=
  ⟨by push_cast; rfl, Nat.lt_of_le_of_lt (Nat.div_le_self _ _) h⟩
theorem l4and (x : Nat) : (((x : Int).toNat &&& (1 : Int).toNat : Nat) : Int) = ((x % 2 : Nat) : Int) := by
  rw [Int.toNat_natCast, show (1 : Int).toNat = 1 from rfl, Nat.and_one_is_mod]
theorem Let4.has_i {s : Let4} {b i x : Nat} (h : b / 64 = i) (hx : s.w i = x) : s.has b = decide (x / 2 ^ (b % 64) % 2 = 1) := by
  unfold Let4.has
  rw [h, hx]
theorem calls_Has (s : Let4) (hs : s.Ok) (b : Nat) (hb : b < 256) (w : World) : Calls Try.prog fn_letterset_Has #[l4V s, .int .u8 b] w fun e w' => e = .returned (.bool (s.has b)) ∧ Ext w w' := by
  refine pure_call [.v (l4V s), .v (.int .u8 b)] w ok_letterset_Has (by simp) ?_
  have h4 : b / 64 = 0 ∨ b / 64 = 1 ∨ b / 64 = 2 ∨ b / 64 = 3 := by omega
  have hm : ((b : Int) % 64).toNat = b % 64 := by omega
  have hm0 : (b : Int).tmod 64 = (b : Int) % 64 := Int.tmod_eq_emod_of_nonneg (by omega)
  have hbk : 0 ≤ (b : Int) % 64 ∧ (b : Int) % 64 ≤ biK .u64 := ⟨by omega, show (b : Int) % 64 ≤ 64 by omega⟩
  rcases h4 with h4 | h4 | h4 | h4
  · have e : ((b : Int) / 64).toNat = 0 := by omega
    obtain ⟨q1, q2⟩ := l4div (b % 64) hs.h0
    rw [Let4.has_i h4 (x := s.s0) (by simp [Let4.w])]
    generalize s.s0 / 2 ^ (b % 64) = y at *
    have q3 := l4and y
    (repeat' ((conv => whnf); first | rw [e] | rw [hm] | rw [q1] | (refine bcase_prop (fun h => ?_) (fun h => ?_) <;> try (exfalso; omega)) | (refine bcase_nprop (fun h => ?_) (fun h => ?_) <;> try (exfalso; omega)) | (refine bcase_intro (fun h => ?_) (fun h => ?_) <;> (try simp only [Bool.not_eq_true', Bool.not_eq_false', decide_eq_true_eq, decide_eq_false_iff_not, Bool.not_eq_true, Bool.not_eq_false, Decidable.not_not] at h)) | refine And.intro (by first | omega | exact rfl | assumption | exact ⟨rfl, rfl, rfl, rfl, rfl⟩ | exact ⟨rfl, rfl, rfl, rfl⟩ | exact ⟨rfl, by omega⟩ | exact oneAll_of rfl | exact ⟨rfl, oneAll_of rfl⟩ | exact Ref.refl _ | exact Thin.ref (.skip (Thin.refl _)) | exact Thin.ref (.skip (.skip (Thin.refl _))) | exact hbk | exact ⟨rfl, Nat.le_of_ble_eq_true rfl⟩ | ((try unfold maxLen); (try simp only [List.length_nil, List.length_cons, List.length_append]); omega) | (refine ⟨rfl, ?_⟩; (try simp only [List.length_nil, List.length_cons, List.length_append]); omega)) ?_ | intro _)); (all_goals (conv => whnf))
    refine ⟨?_⟩
    show Value.bool _ = _
    rw [q3]
    congr 1
    rw [decide_eq_decide]
    omega
  · have e : ((b : Int) / 64).toNat = 1 := by omega
    obtain ⟨q1, q2⟩ := l4div (b % 64) hs.h1
    rw [Let4.has_i h4 (x := s.s1) (by simp [Let4.w])]
    generalize s.s1 / 2 ^ (b % 64) = y at *
    have q3 := l4and y
    (repeat' ((conv => whnf); first | rw [e] | rw [hm] | rw [q1] | (refine bcase_prop (fun h => ?_) (fun h => ?_) <;> try (exfalso; omega)) | (refine bcase_nprop (fun h => ?_) (fun h => ?_) <;> try (exfalso; omega)) | (refine bcase_intro (fun h => ?_) (fun h => ?_) <;> (try simp only [Bool.not_eq_true', Bool.not_eq_false', decide_eq_true_eq, decide_eq_false_iff_not, Bool.not_eq_true, Bool.not_eq_false, Decidable.not_not] at h)) | refine And.intro (by first | omega | exact rfl | assumption | exact ⟨rfl, rfl, rfl, rfl, rfl⟩ | exact ⟨rfl, rfl, rfl, rfl⟩ | exact ⟨rfl, by omega⟩ | exact oneAll_of rfl | exact ⟨rfl, oneAll_of rfl⟩ | exact Ref.refl _ | exact Thin.ref (.skip (Thin.refl _)) | exact Thin.ref (.skip (.skip (Thin.refl _))) | exact hbk | exact ⟨rfl, Nat.le_of_ble_eq_true rfl⟩ | ((try unfold maxLen); (try simp only [List.length_nil, List.length_cons, List.length_append]); omega) | (refine ⟨rfl, ?_⟩; (try simp only [List.length_nil, List.length_cons, List.length_append]); omega)) ?_ | intro _)); (all_goals (conv => whnf))
    refine ⟨?_⟩
    show Value.bool _ = _
    rw [q3]
    congr 1
    rw [decide_eq_decide]
    omega
  · have e : ((b : Int) / 64).toNat = 2 := by omega
    obtain ⟨q1, q2⟩ := l4div (b % 64) hs.h2
    rw [Let4.has_i h4 (x := s.s2) (by simp [Let4.w])]
    generalize s.s2 / 2 ^ (b % 64) = y at *
    have q3 := l4and y
    (repeat' ((conv => whnf); first | rw [e] | rw [hm] | rw [q1] | (refine bcase_prop (fun h => ?_) (fun h => ?_) <;> try (exfalso; omega)) | (refine bcase_nprop (fun h => ?_) (fun h => ?_) <;> try (exfalso; omega)) | (refine bcase_intro (fun h => ?_) (fun h => ?_) <;> (try simp only [Bool.not_eq_true', Bool.not_eq_false', decide_eq_true_eq, decide_eq_false_iff_not, Bool.not_eq_true, Bool.not_eq_false, Decidable.not_not] at h)) | refine And.intro (by first | omega | exact rfl | assumption | exact ⟨rfl, rfl, rfl, rfl, rfl⟩ | exact ⟨rfl, rfl, rfl, rfl⟩ | exact ⟨rfl, by omega⟩ | exact oneAll_of rfl | exact ⟨rfl, oneAll_of rfl⟩ | exact Ref.refl _ | exact Thin.ref (.skip (Thin.refl _)) | exact Thin.ref (.skip (.skip (Thin.refl _))) | exact hbk | exact ⟨rfl, Nat.le_of_ble_eq_true rfl⟩ | ((try unfold maxLen); (try simp only [List.length_nil, List.length_cons, List.length_append]); omega) | (refine ⟨rfl, ?_⟩; (try simp only [List.length_nil, List.length_cons, List.length_append]); omega)) ?_ | intro _)); (all_goals (conv => whnf))
    refine ⟨?_⟩
    show Value.bool _ = _
    rw [q3]
    congr 1
    rw [decide_eq_decide]
    omega
  · have e : ((b : Int) / 64).toNat = 3 := by omega
    obtain ⟨q1, q2⟩ := l4div (b % 64) hs.h3
    rw [Let4.has_i h4 (x := s.s3) (by simp [Let4.w])]
    generalize s.s3 / 2 ^ (b % 64) = y at *
    have q3 := l4and y
    (repeat' ((conv => whnf); first | rw [e] | rw [hm] | rw [q1] | (refine bcase_prop (fun h => ?_) (fun h => ?_) <;> try (exfalso; omega)) | (refine bcase_nprop (fun h => ?_) (fun h => ?_) <;> try (exfalso; omega)) | (refine bcase_intro (fun h => ?_) (fun h => ?_) <;> (try simp only [Bool.not_eq_true', Bool.not_eq_false', decide_eq_true_eq, decide_eq_false_iff_not, Bool.not_eq_true, Bool.not_eq_false, Decidable.not_not] at h)) | refine And.intro (by first | omega | exact rfl | assumption | exact ⟨rfl, rfl, rfl, rfl, rfl⟩ | exact ⟨rfl, rfl, rfl, rfl⟩ | exact ⟨rfl, by omega⟩ | exact oneAll_of rfl | exact ⟨rfl, oneAll_of rfl⟩ | exact Ref.refl _ | exact Thin.ref (.skip (Thin.refl _)) | exact Thin.ref (.skip (.skip (Thin.refl _))) | exact hbk | exact ⟨rfl, Nat.le_of_ble_eq_true rfl⟩ | ((try unfold maxLen); (try simp only [List.length_nil, List.length_cons, List.length_append]); omega) | (refine ⟨rfl, ?_⟩; (try simp only [List.length_nil, List.length_cons, List.length_append]); omega)) ?_ | intro _)); (all_goals (conv => whnf))
    refine ⟨?_⟩
    show Value.bool _ = _
    rw [q3]
    congr 1
    rw [decide_eq_decide]
    omega
/-! ### The references on plain texts -/

/-! ### Rows of a grammar -/

end Go.Proofs.Ytohlphngnhcbfaa
/- Finding a letter: the program. -/
namespace Go.Proofs.Ytohlphngnhcbfaa
open Go.EG
attribute [local irreducible] CallK QCall Go.Calls
set_option linter.unusedSimpArgs false
set_option linter.unusedVariables false
set_option maxRecDepth 20000
set_option maxHeartbeats 4000000

structure FdG where
  x : Nat
  f : Nat
  base : Nat
  later : Int
end Go.Proofs.Ytohlphngnhcbfaa
/- Find, Count: the program. -/
namespace Go.Proofs.Ytohlphngnhcbfaa
open Go.EG
attribute [local irreducible] CallK QCall Go.Calls
set_option linter.unusedSimpArgs false
set_option linter.unusedVariables false
set_option maxRecDepth 20000
set_option maxHeartbeats 4000000

structure BfG where
  x : Nat
  f : Nat
  s : Nat
theorem calls_before (g : List Rul) (ms : List Tm) (hg : Gr g ms) (p : Nat → Bool) (i : Nat) (hi : i ≤ (mAt ms g.length).len) (a a1 a2 : Option Addr) (c c1 c2 : Nat) (w : World) (hin : In w [] a (rulsC g)) (hin1 : In w [] a1 (ints .i64 (upto (rowN ms) g.length g.length))) (hin2 : In w [] a2 (ints .i64 (upto (rowC p ms) g.length g.length))) :
    Calls Try.prog fn_access_before #[.slice a g.length c, .slice a1 (g.length + 1) c1, .slice a2 (g.length + 1) c2, .int .i64 i] w fun e w' => e = .returned (.int .i64 (cnt p ((mAt ms g.length).txt.take i) : Nat)) ∧ Ext w w' := by
  refine pure_call [.v (.slice a g.length c), .v (.slice a1 (g.length + 1) c1), .v (.slice a2 (g.length + 1) c2), .v (.int .i64 i)] w ok_access_before (by simp) ?_
  have hmost := hg.most
  have hne1 : a1 ≠ none := hin1.ne' (k := 0) (by rw [ints_length, upto_length]; omega)
  have hne2 : a2 ≠ none := hin2.ne' (k := 0) (by rw [ints_length, upto_length]; omega)
  have hLM : LM = 1152921504606846976 := rfl
  have htl : (mAt ms g.length).len ≤ LM := by
    by_cases h0 : 0 < g.length
    · have := (hg.cases (i := g.length - 1) (by omega)).2.2
      rwa [show ((g.length - 1 : Nat) : Int) + 1 = (g.length : Nat) by omega] at this
    · have : g.length = 0 := by omega
      rw [this]; exact Nat.zero_le _
  have htot : cnt p ((mAt ms g.length).txt.take i) ≤ LM := Nat.le_trans (cnt_le _ _) (Nat.le_trans (by rw [List.length_take]; exact Nat.min_le_right _ _) htl)
  generalize hT : cnt p ((mAt ms g.length).txt.take i) = tot at *
  generalize hN : g.length = N at *
  (repeat' ((conv => whnf); first | (refine bcase_prop (fun h => ?_) (fun h => ?_) <;> try (exfalso; omega)) | (refine bcase_nprop (fun h => ?_) (fun h => ?_) <;> try (exfalso; omega)) | (refine bcase_intro (fun h => ?_) (fun h => ?_) <;> (try simp only [Bool.not_eq_true', Bool.not_eq_false', decide_eq_true_eq, decide_eq_false_iff_not, Bool.not_eq_true, Bool.not_eq_false, Decidable.not_not] at h)) | refine And.intro (by first | omega | exact rfl | assumption | exact ⟨rfl, rfl, rfl, rfl, rfl⟩ | exact ⟨rfl, rfl, rfl, rfl⟩ | exact ⟨rfl, by omega⟩ | exact oneAll_of rfl | exact ⟨rfl, oneAll_of rfl⟩ | exact Ref.refl _ | exact Thin.ref (.skip (Thin.refl _)) | exact Thin.ref (.skip (.skip (Thin.refl _))) | exact ⟨rfl, Nat.le_of_ble_eq_true rfl⟩ | ((try unfold maxLen); (try simp only [List.length_nil, List.length_cons, List.length_append]); omega) | (refine ⟨rfl, ?_⟩; (try simp only [List.length_nil, List.length_cons, List.length_append]); omega)) ?_ | intro _)); (all_goals (conv => whnf))
  refine VC_loop BfG (fun x => [(0, .v (.slice a N c)), (1, .v (.slice a1 (N + 1) c1)), (2, .v (.slice a2 (N + 1) c2)), (3, .v (.int .i64 x.f)), (9, .v (.int .i64 x.x)), (10, .v (.int .i64 x.s))])
    (fun _ => []) (fun x => x.x ≤ N ∧ x.f ≤ (mAt ms x.x).len ∧ x.s + cnt p ((mAt ms x.x).txt.take x.f) = tot) (fun x => x.x) ⟨N, i, 0⟩ ⟨Nat.le_refl _, hi, by dsimp only; omega⟩ (by (repeat ((conv => whnf); refine And.intro (by first | exact rfl | exact vint_eq (by omega) | exact vint_eq (by (dsimp only; omega)) | exact vsl_eq (by omega) | exact vsl_eq (by first | (dsimp only; omega) | (simp; done) | (simp; omega))) ?_)); exact trivial) (Ref.refl _) ?_
  rintro ⟨x, f, s⟩ ⟨hx, hf, hs⟩
  dsimp only at hx hf hs ⊢
  by_cases hf0 : f = 0
  · subst hf0
    rw [List.take_zero, cnt_nil, Nat.add_zero] at hs
    (repeat' ((conv => whnf); first | (refine bcase_prop (fun h => ?_) (fun h => ?_) <;> try (exfalso; omega)) | (refine bcase_nprop (fun h => ?_) (fun h => ?_) <;> try (exfalso; omega)) | (refine bcase_intro (fun h => ?_) (fun h => ?_) <;> (try simp only [Bool.not_eq_true', Bool.not_eq_false', decide_eq_true_eq, decide_eq_false_iff_not, Bool.not_eq_true, Bool.not_eq_false, Decidable.not_not] at h)) | refine And.intro (by first | omega | exact rfl | assumption | exact ⟨rfl, rfl, rfl, rfl, rfl⟩ | exact ⟨rfl, rfl, rfl, rfl⟩ | exact ⟨rfl, by omega⟩ | exact oneAll_of rfl | exact ⟨rfl, oneAll_of rfl⟩ | exact Ref.refl _ | exact Thin.ref (.skip (Thin.refl _)) | exact Thin.ref (.skip (.skip (Thin.refl _))) | exact ⟨rfl, Nat.le_of_ble_eq_true rfl⟩ | ((try unfold maxLen); (try simp only [List.length_nil, List.length_cons, List.length_append]); omega) | (refine ⟨rfl, ?_⟩; (try simp only [List.length_nil, List.length_cons, List.length_append]); omega)) ?_ | intro _)); (all_goals (conv => whnf))
    all_goals first | (exfalso; omega) | skip
    refine ⟨?_⟩
    rw [hs]
  have hf1 : (0 : Int) < f := by omega
  obtain ⟨y, rfl⟩ : ∃ y, x = y + 1 := by
    cases x with
    | zero => have : (mAt ms ((0 : Nat) : Int)).len = 0 := rfl; omega
    | succ y => exact ⟨y, rfl⟩
  have hy1 : ((y + 1 : Nat) : Int) = (y : Int) + 1 := by omega
  have rdN := fun {L : List Ent} => hin1.rd (L := L) (upto_get (f := rowN ms) (k := N) (i := N) (x := y + 1) hx hx)
  have rdC := fun {L : List Ent} => hin2.rd (L := L) (upto_get (f := rowC p ms) (k := N) (i := N) (x := y + 1) hx hx)
  rw [rowN_succ] at rdN
  rw [rowC_succ] at rdC
  rw [hy1] at hf hs
  have hxn : ((y + 1 : Nat) : Int).toNat = y + 1 := by omega
  by_cases hfl : f = (mAt ms ((y : Int) + 1)).len
  · rw [List.take_of_length_le (by unfold Tm.len at hfl; omega)] at hs
    (repeat' ((conv => whnf); first | rw [hxn] | rw [Nat.mul_one] | refine ⟨_, rdN, ?_⟩ | refine ⟨_, rdC, ?_⟩ | (refine bcase_prop (fun h => ?_) (fun h => ?_) <;> try (exfalso; omega)) | (refine bcase_nprop (fun h => ?_) (fun h => ?_) <;> try (exfalso; omega)) | (refine bcase_intro (fun h => ?_) (fun h => ?_) <;> (try simp only [Bool.not_eq_true', Bool.not_eq_false', decide_eq_true_eq, decide_eq_false_iff_not, Bool.not_eq_true, Bool.not_eq_false, Decidable.not_not] at h)) | refine And.intro (by first | omega | exact rfl | assumption | exact ⟨rfl, rfl, rfl, rfl, rfl⟩ | exact ⟨rfl, rfl, rfl, rfl⟩ | exact ⟨rfl, by omega⟩ | exact oneAll_of rfl | exact ⟨rfl, oneAll_of rfl⟩ | exact Ref.refl _ | exact Thin.ref (.skip (Thin.refl _)) | exact Thin.ref (.skip (.skip (Thin.refl _))) | exact hne1 | exact hne2 | exact ⟨rfl, Nat.le_of_ble_eq_true rfl⟩ | ((try unfold maxLen); (try simp only [List.length_nil, List.length_cons, List.length_append]); omega) | (refine ⟨rfl, ?_⟩; (try simp only [List.length_nil, List.length_cons, List.length_append]); omega)) ?_ | intro _)); (all_goals (conv => whnf))
    all_goals first | (exfalso; omega) | skip
    refine ⟨?_⟩
    show Value.int .i64 _ = _
    congr 1
    omega
  have hne : a ≠ none := hin.ne' (k := y * 5) (by rw [rulsC_length]; omega)
  have hyN : y < g.length := by omega
  have rd := fun {L : List Ent} => In.rdn (L := L) (vs := ruC (g.getD y rul0)) (k := y * 5) hin (Nat.succ_pos _) (rulsC_at hyN)
  have hx5 : (((y + 1 : Nat) : Int) - 1).toNat = y := by omega
  obtain ⟨hc, hlen1, _⟩ := hg.cases hyN
  generalize g.getD y rul0 = r at *
  rcases hc with ⟨k1, _, _, l, k2, k3, k4⟩ | ⟨k1, p', q, k2, k3, k4, k5, k6, k7⟩ | ⟨k1, k8, p', k, k2, k3, k4, k5, k6, k7⟩
  · rw [k4] at hf hfl
    exact absurd hf (by simp [Tm.len, Tm.txt] at hfl ⊢; omega)
  · rw [k6] at hf hfl hs
    rw [Tm.len_pr] at hf hfl
    rw [k6, Tm.len_pr] at rdN
    rw [Tm.txt] at hs
    have hp : r.a.toNat = p' + 1 := by omega
    have hq : r.b.toNat = q + 1 := by omega
    have hp1 : ((p' + 1 : Nat) : Int) = (p' : Int) + 1 := by omega
    have hq1 : ((q + 1 : Nat) : Int) = (q : Int) + 1 := by omega
    have l1 := fun {L : List Ent} => hin1.rd (L := L) (upto_get (f := rowN ms) (k := N) (i := N) (x := p' + 1) (by omega) (by omega))
    have m1 := fun {L : List Ent} => hin2.rd (L := L) (upto_get (f := rowC p ms) (k := N) (i := N) (x := p' + 1) (by omega) (by omega))
    rw [rowN_succ] at l1
    rw [rowC_succ] at m1
    have hTp : (mAt ms ((p' : Int) + 1)).len = (mAt ms ((p' : Int) + 1)).txt.length := rfl
    have hCp := cnt_le p (mAt ms ((p' : Int) + 1)).txt
    by_cases hlt : f < (mAt ms ((p' : Int) + 1)).len
    · have hlt' : (f : Int) < ((mAt ms ((p' : Int) + 1)).len : Nat) := by omega
      rw [List.take_append_of_le_length (by omega)] at hs
      (repeat' ((conv => whnf); first | rw [hxn] | rw [hx5] | rw [hp] | rw [hq] | rw [Nat.mul_one] | refine ⟨ruC r, rfl, rd, ?_⟩ | refine ⟨_, rdN, ?_⟩ | refine ⟨_, l1, ?_⟩ | refine ⟨_, m1, ?_⟩ | (refine bcase_prop (fun h => ?_) (fun h => ?_) <;> try (exfalso; omega)) | (refine bcase_nprop (fun h => ?_) (fun h => ?_) <;> try (exfalso; omega)) | (refine bcase_intro (fun h => ?_) (fun h => ?_) <;> (try simp only [Bool.not_eq_true', Bool.not_eq_false', decide_eq_true_eq, decide_eq_false_iff_not, Bool.not_eq_true, Bool.not_eq_false, Decidable.not_not] at h)) | refine And.intro (by first | omega | exact rfl | assumption | exact ⟨rfl, rfl, rfl, rfl, rfl⟩ | exact ⟨rfl, rfl, rfl, rfl⟩ | exact ⟨rfl, by omega⟩ | exact oneAll_of rfl | exact ⟨rfl, oneAll_of rfl⟩ | exact Ref.refl _ | exact Thin.ref (.skip (Thin.refl _)) | exact Thin.ref (.skip (.skip (Thin.refl _))) | exact hne | exact hne1 | exact hne2 | exact ⟨rfl, Nat.le_of_ble_eq_true rfl⟩ | ((try unfold maxLen); (try simp only [List.length_nil, List.length_cons, List.length_append]); omega) | (refine ⟨rfl, ?_⟩; (try simp only [List.length_nil, List.length_cons, List.length_append]); omega)) ?_ | intro _)); (all_goals (conv => whnf))
      all_goals first | (exfalso; omega) | skip
      refine loop_next ⟨p' + 1, f, s⟩ ⟨by ((try dsimp only); omega), ?_, ?_⟩ (by ((try dsimp only); omega)) (by (repeat ((conv => whnf); refine And.intro (by first | exact rfl | exact vint_eq (by omega) | exact vint_eq (by (dsimp only; omega)) | exact vsl_eq (by omega) | exact vsl_eq (by first | (dsimp only; omega) | (simp; done) | (simp; omega))) ?_)); exact trivial) (Thin.ref (.skip (Thin.refl _)))
      · dsimp only; rw [hp1]; omega
      · dsimp only; rw [hp1]; exact hs
    · rw [cnt_take_pair p (by omega)] at hs
      have hcc : cnt p ((mAt ms ((q : Int) + 1)).txt.take (f - (mAt ms ((p' : Int) + 1)).txt.length)) ≤ LM := by omega
      (repeat' ((conv => whnf); first | rw [hxn] | rw [hx5] | rw [hp] | rw [hq] | rw [Nat.mul_one] | refine ⟨ruC r, rfl, rd, ?_⟩ | refine ⟨_, rdN, ?_⟩ | refine ⟨_, l1, ?_⟩ | refine ⟨_, m1, ?_⟩ | (refine bcase_prop (fun h => ?_) (fun h => ?_) <;> try (exfalso; omega)) | (refine bcase_nprop (fun h => ?_) (fun h => ?_) <;> try (exfalso; omega)) | (refine bcase_intro (fun h => ?_) (fun h => ?_) <;> (try simp only [Bool.not_eq_true', Bool.not_eq_false', decide_eq_true_eq, decide_eq_false_iff_not, Bool.not_eq_true, Bool.not_eq_false, Decidable.not_not] at h)) | refine And.intro (by first | omega | exact rfl | assumption | exact ⟨rfl, rfl, rfl, rfl, rfl⟩ | exact ⟨rfl, rfl, rfl, rfl⟩ | exact ⟨rfl, by omega⟩ | exact oneAll_of rfl | exact ⟨rfl, oneAll_of rfl⟩ | exact Ref.refl _ | exact Thin.ref (.skip (Thin.refl _)) | exact Thin.ref (.skip (.skip (Thin.refl _))) | exact hne | exact hne1 | exact hne2 | exact ⟨rfl, Nat.le_of_ble_eq_true rfl⟩ | ((try unfold maxLen); (try simp only [List.length_nil, List.length_cons, List.length_append]); omega) | (refine ⟨rfl, ?_⟩; (try simp only [List.length_nil, List.length_cons, List.length_append]); omega)) ?_ | intro _)); (all_goals (conv => whnf))
      all_goals first | (exfalso; omega) | skip
      refine loop_next ⟨q + 1, f - (mAt ms ((p' : Int) + 1)).len, s + cnt p (mAt ms ((p' : Int) + 1)).txt⟩ ⟨by ((try dsimp only); omega), ?_, ?_⟩ (by ((try dsimp only); omega)) ?_ (Thin.ref (.skip (Thin.refl _)))
      · dsimp only; rw [hq1]; omega
      · dsimp only; rw [hq1, hTp]; omega
      · dsimp only
        (repeat ((conv => whnf); refine And.intro (by first | exact rfl | exact vint_eq (by omega) | exact vint_eq (by (dsimp only; omega)) | exact vsl_eq (by omega) | exact vsl_eq (by first | (dsimp only; omega) | (simp; done) | (simp; omega))) ?_)); exact trivial
  · rw [k6] at hf hfl hs
    rw [Tm.len_pw] at hf hfl
    rw [k6, Tm.len_pw] at rdN
    have hp : r.a.toNat = p' + 1 := by omega
    have hp1 : ((p' + 1 : Nat) : Int) = (p' : Int) + 1 := by omega
    have l1 := fun {L : List Ent} => hin1.rd (L := L) (upto_get (f := rowN ms) (k := N) (i := N) (x := p' + 1) (by omega) (by omega))
    have m1 := fun {L : List Ent} => hin2.rd (L := L) (upto_get (f := rowC p ms) (k := N) (i := N) (x := p' + 1) (by omega) (by omega))
    rw [rowN_succ] at l1
    rw [rowC_succ] at m1
    have hpl := (hg.cases (i := p') (by omega)).2.1
    have hpl' : 0 < (mAt ms ((p' : Int) + 1)).txt.length := hpl
    have hfk : f < k * (mAt ms ((p' : Int) + 1)).len := by omega
    rw [Tm.txt, cnt_take_rep p hpl' hfk] at hs
    have hCp := cnt_le p (mAt ms ((p' : Int) + 1)).txt
    have hdm := Nat.div_add_mod f (mAt ms ((p' : Int) + 1)).len
    have hdf := Nat.div_le_self f (mAt ms ((p' : Int) + 1)).len
    have hml := Nat.mod_lt f (show (mAt ms ((p' : Int) + 1)).len > 0 from hpl)
    have hTp : (mAt ms ((p' : Int) + 1)).len = (mAt ms ((p' : Int) + 1)).txt.length := rfl
    have hq1 : (f : Int) / ((mAt ms ((p' : Int) + 1)).len : Nat) = ((f / (mAt ms ((p' : Int) + 1)).len : Nat) : Int) := by push_cast; rfl
    have hq2 : (f : Int) % ((mAt ms ((p' : Int) + 1)).len : Nat) = ((f % (mAt ms ((p' : Int) + 1)).len : Nat) : Int) := by push_cast; rfl
    rw [← hTp] at hs
    have hm1 : ((f / (mAt ms ((p' : Int) + 1)).len : Nat) : Int) * ((cnt p (mAt ms ((p' : Int) + 1)).txt : Nat) : Int) = ((f / (mAt ms ((p' : Int) + 1)).len * cnt p (mAt ms ((p' : Int) + 1)).txt : Nat) : Int) := by push_cast; rfl
    generalize hC : cnt p (mAt ms ((p' : Int) + 1)).txt = C at *
    generalize hd : f / (mAt ms ((p' : Int) + 1)).len = d at *
    generalize hfm : f % (mAt ms ((p' : Int) + 1)).len = fm at *
    generalize hdC : d * C = dC at *
    have hcc : dC ≤ LM := by omega
    (repeat' ((conv => whnf); first | rw [hxn] | rw [hx5] | rw [hp] | rw [hq1] | rw [hq2] | rw [hm1] | rw [Nat.mul_one] | refine ⟨ruC r, rfl, rd, ?_⟩ | refine ⟨_, rdN, ?_⟩ | refine ⟨_, l1, ?_⟩ | refine ⟨_, m1, ?_⟩ | (refine bcase_prop (fun h => ?_) (fun h => ?_) <;> try (exfalso; omega)) | (refine bcase_nprop (fun h => ?_) (fun h => ?_) <;> try (exfalso; omega)) | (refine bcase_intro (fun h => ?_) (fun h => ?_) <;> (try simp only [Bool.not_eq_true', Bool.not_eq_false', decide_eq_true_eq, decide_eq_false_iff_not, Bool.not_eq_true, Bool.not_eq_false, Decidable.not_not] at h)) | refine And.intro (by first | omega | exact rfl | assumption | exact ⟨rfl, rfl, rfl, rfl, rfl⟩ | exact ⟨rfl, rfl, rfl, rfl⟩ | exact ⟨rfl, by omega⟩ | exact oneAll_of rfl | exact ⟨rfl, oneAll_of rfl⟩ | exact Ref.refl _ | exact Thin.ref (.skip (Thin.refl _)) | exact Thin.ref (.skip (.skip (Thin.refl _))) | exact hne | exact hne1 | exact hne2 | exact ⟨rfl, Nat.le_of_ble_eq_true rfl⟩ | ((try unfold maxLen); (try simp only [List.length_nil, List.length_cons, List.length_append]); omega) | (refine ⟨rfl, ?_⟩; (try simp only [List.length_nil, List.length_cons, List.length_append]); omega)) ?_ | intro _)); (all_goals (conv => whnf))
    all_goals first | (exfalso; omega) | skip
    all_goals
      refine loop_next ⟨p' + 1, fm, s + dC⟩ ⟨by ((try dsimp only); omega), ?_, ?_⟩ (by ((try dsimp only); omega)) ?_ (Thin.ref (.skip (Thin.refl _)))
      · dsimp only; rw [hp1]; omega
      · dsimp only; rw [hp1]; omega
      · dsimp only
        (repeat ((conv => whnf); refine And.intro (by first | exact rfl | exact vint_eq (by omega) | exact vint_eq (by (dsimp only; omega)) | exact vsl_eq (by omega) | exact vsl_eq (by first | (dsimp only; omega) | (simp; done) | (simp; omega))) ?_)); exact trivial
end Go.Proofs.Ytohlphngnhcbfaa
/- Count: the program. -/
namespace Go.Proofs.Ytohlphngnhcbfaa
open Go.EG
attribute [local irreducible] CallK QCall Go.Calls
set_option linter.unusedSimpArgs false
set_option linter.unusedVariables false
set_option maxRecDepth 20000
set_option maxHeartbeats 4000000

def xpN (key b : Nat) (S : Sto) (id : Int) (v : Value) (L1 : List Ent) : Prop :=
  ∃ L a c fp', Rch S id L ∧ (0 < (xg S L).length → a ≠ none) ∧ v = .tuple #[.slice a (xg S L).length c, .nilIface] ∧ L1 = [packE key fp' (fS b S), .own 812 a (xg S L).length c ty_api_Rule 5 (rulsC (xg S L))]
theorem calls_ExportN (hs : SortsI Try.prog fn_slices_Sort_Sl_api_ID_api_ID) (b : Nat) (S : Sto) (hw : WF S) (id : Int) (hk : known S id) (key : Nat) (fp : List Nat) (w : World) (hR : StR w key fp b S) :
    Calls Try.prog fn_P_intern_Store_Export #[pS b, .int .i64 id] w fun e w' => ∃ v L1, e = .returned v ∧ R w fp L1 w' ∧ xpN key b S id v L1 :=
  (calls_Export hs b S hw id hk key fp w hR).mono fun e w' ⟨v, L1, he, hR', L, a, c, fp', hL, hv, h1⟩ => by
    subst h1
    exact ⟨v, _, he, hR', L, a, c, fp', hL, fun h => own_ne hR'.tail (key := 812) rfl h, hv, rfl⟩
def ctRes (S : Sto) (n : Int) (p : Nat → Bool) (i m : Int) : Value := if known S n ∧ 0 ≤ i ∧ 0 ≤ m ∧ i ≤ (tm S.E n).len ∧ m ≤ (tm S.E n).len - i then .tuple #[.int .i64 (cnt p (sub (tm S.E n).txt i.toNat m.toNat) : Nat), .nilIface] else .tuple #[.int .i64 0, errV 1]
theorem calls_Count (hs : SortsI Try.prog fn_slices_Sort_Sl_api_ID_api_ID) (bb : Nat) (S : Sto) (hw : WF S) (n : Int) (s : Let4) (hs4 : s.Ok) (i m : Int) : SC fn_access_Count #[pS bb, .int .i64 n, l4V s, .int .i64 i, .int .i64 m] bb S S (ctRes S n s.has i m) := by
  intro key fp w hR
  refine part_call [.v (pS bb), .v (.int .i64 n), .v (l4V s), .v (.int .i64 i), .v (.int .i64 m)] ok_access_Count (by simp) (hR.key 77) ?_
  have hsm := hw.small
  have c0 := calls_SWeight bb S n hsm
  unfold wtRes at c0
  unfold ctRes
  by_cases hk : known S n
  case neg =>
    rw [if_neg hk] at c0
    rw [if_neg (fun h => hk h.1)]
    (repeat' ((conv => whnf); first | refine ⟨.v _, ⟨rfl, trivial⟩, ?_⟩ | (refine CallK_pack (key := 77) rfl (fun w hR h0 => c0 _ _ _ h0) ?_; rintro _ _ ⟨rfl, fp', rfl⟩; refine ⟨.v _, rfl, ?_⟩) | (refine bcase_prop (fun h => ?_) (fun h => ?_) <;> try (exfalso; omega)) | (refine bcase_nprop (fun h => ?_) (fun h => ?_) <;> try (exfalso; omega)) | (refine bcase_intro (fun h => ?_) (fun h => ?_) <;> (try simp only [Bool.not_eq_true', Bool.not_eq_false', decide_eq_true_eq, decide_eq_false_iff_not, Bool.not_eq_true, Bool.not_eq_false, Decidable.not_not] at h)) | refine And.intro (by first | omega | exact rfl | assumption | exact ⟨rfl, rfl, rfl, rfl, rfl⟩ | exact ⟨rfl, rfl, rfl, rfl⟩ | exact ⟨rfl, by omega⟩ | exact oneAll_of rfl | exact ⟨rfl, oneAll_of rfl⟩ | exact Ref.refl _ | exact Thin.ref (.skip (Thin.refl _)) | exact Thin.ref (.skip (.skip (Thin.refl _))) | exact ⟨rfl, Nat.le_of_ble_eq_true rfl⟩ | ((try unfold maxLen); (try simp only [List.length_nil, List.length_cons, List.length_append]); omega) | (refine ⟨rfl, ?_⟩; (try simp only [List.length_nil, List.length_cons, List.length_append]); omega)) ?_ | intro _)); (all_goals (conv => whnf))
    exact ⟨endP (by (repeat (first | exact Thin.nil _ | exact Thin.refl _ | refine Thin.keep rfl (fun _ h => h) ?_ | refine Thin.skip ?_))) rfl⟩
  rw [if_pos hk] at c0
  have hlen := hw.le hk.2
  have c1 := calls_lRange i m (tm S.E n).txt.length hlen
  unfold rangeRes at c1
  by_cases hi : 0 ≤ i ∧ 0 ≤ m ∧ i ≤ (tm S.E n).len ∧ m ≤ (tm S.E n).len - i
  case neg =>
    rw [if_neg (fun h => hi h.2)]
    have hi' : ¬ (0 ≤ i ∧ 0 ≤ m ∧ i ≤ ((tm S.E n).txt.length : Nat) ∧ m ≤ ((tm S.E n).txt.length : Nat) - i) := hi
    rw [if_neg hi'] at c1
    (repeat' ((conv => whnf); first | refine ⟨.v _, ⟨rfl, trivial⟩, ?_⟩ | (refine CallK_pack (key := 77) rfl (fun w hR h0 => c0 _ _ _ h0) ?_; rintro _ _ ⟨rfl, fp', rfl⟩; refine ⟨.v _, rfl, ?_⟩) | (first | refine CallK_pure (.v _) (fun w hR => c1 w) ?_ | refine QCall_pure (.v _) (fun w hR => c1 w) ?_) | (refine bcase_prop (fun h => ?_) (fun h => ?_) <;> try (exfalso; omega)) | (refine bcase_nprop (fun h => ?_) (fun h => ?_) <;> try (exfalso; omega)) | (refine bcase_intro (fun h => ?_) (fun h => ?_) <;> (try simp only [Bool.not_eq_true', Bool.not_eq_false', decide_eq_true_eq, decide_eq_false_iff_not, Bool.not_eq_true, Bool.not_eq_false, Decidable.not_not] at h)) | refine And.intro (by first | omega | exact rfl | assumption | exact ⟨rfl, rfl, rfl, rfl, rfl⟩ | exact ⟨rfl, rfl, rfl, rfl⟩ | exact ⟨rfl, by omega⟩ | exact oneAll_of rfl | exact ⟨rfl, oneAll_of rfl⟩ | exact Ref.refl _ | exact Thin.ref (.skip (Thin.refl _)) | exact Thin.ref (.skip (.skip (Thin.refl _))) | exact ⟨rfl, Nat.le_of_ble_eq_true rfl⟩ | ((try unfold maxLen); (try simp only [List.length_nil, List.length_cons, List.length_append]); omega) | (refine ⟨rfl, ?_⟩; (try simp only [List.length_nil, List.length_cons, List.length_append]); omega)) ?_ | intro _)); (all_goals (conv => whnf))
    exact ⟨endP (by (repeat (first | exact Thin.nil _ | exact Thin.refl _ | refine Thin.keep rfl (fun _ h => h) ?_ | refine Thin.skip ?_))) rfl⟩
  rw [if_pos ⟨hk, hi⟩]
  have hi' : 0 ≤ i ∧ 0 ≤ m ∧ i ≤ ((tm S.E n).txt.length : Nat) ∧ m ≤ ((tm S.E n).txt.length : Nat) - i := hi
  rw [if_pos hi'] at c1
  have c2 := calls_ExportN hs bb S hw n hk
  obtain ⟨i, rfl⟩ := Int.eq_ofNat_of_zero_le hi.1
  obtain ⟨m, rfl⟩ := Int.eq_ofNat_of_zero_le hi.2.1
  rw [Int.toNat_natCast, Int.toNat_natCast]
  have hTl : (tm S.E n).len = (tm S.E n).txt.length := rfl
  have hLM : LM = 1152921504606846976 := rfl
  have him : i + m ≤ (tm S.E n).len := by omega
  (repeat' ((conv => whnf); first | refine ⟨.v _, ⟨rfl, trivial⟩, ?_⟩ | (refine CallK_pack (key := 77) rfl (fun w hR h0 => c0 _ _ _ h0) ?_; rintro _ _ ⟨rfl, fp', rfl⟩; refine ⟨.v _, rfl, ?_⟩) | (first | refine CallK_pure (.v _) (fun w hR => c1 w) ?_ | refine QCall_pure (.v _) (fun w hR => c1 w) ?_)  | (refine bcase_prop (fun h => ?_) (fun h => ?_) <;> try (exfalso; omega)) | (refine bcase_nprop (fun h => ?_) (fun h => ?_) <;> try (exfalso; omega)) | (refine bcase_intro (fun h => ?_) (fun h => ?_) <;> (try simp only [Bool.not_eq_true', Bool.not_eq_false', decide_eq_true_eq, decide_eq_false_iff_not, Bool.not_eq_true, Bool.not_eq_false, Decidable.not_not] at h)) | refine And.intro (by first | omega | exact rfl | assumption | exact ⟨rfl, rfl, rfl, rfl, rfl⟩ | exact ⟨rfl, rfl, rfl, rfl⟩ | exact ⟨rfl, by omega⟩ | exact oneAll_of rfl | exact ⟨rfl, oneAll_of rfl⟩ | exact Ref.refl _ | exact Thin.ref (.skip (Thin.refl _)) | exact Thin.ref (.skip (.skip (Thin.refl _))) | exact ⟨rfl, Nat.le_of_ble_eq_true rfl⟩ | ((try unfold maxLen); (try simp only [List.length_nil, List.length_cons, List.length_append]); omega) | (refine ⟨rfl, ?_⟩; (try simp only [List.length_nil, List.length_cons, List.length_append]); omega)) ?_ | intro _)); (all_goals (conv => whnf))
  refine CallK_pack (key := 77) rfl (fun w hR h0 => c2 _ _ _ h0) ?_
  rintro _ _ ⟨L, aL, cL, fp', hL, hneL, rfl, rfl⟩
  have hg := hL.gr hw hk.2
  have ht := hL.top_ hk.1
  rw [← xg_length S L] at ht
  generalize xg S L = g at *
  generalize L.map (tm S.E) = ms at *
  have hmost := hg.most
  have hn1 : ((g.length : Int) + 1).toNat = g.length + 1 := by omega
  have hz := flat_zeros (g.length + 1)
  refine ⟨.v _, rfl, ?_⟩
  (repeat' ((conv => whnf); first | rw [hn1] | rw [hz] | (refine bcase_prop (fun h => ?_) (fun h => ?_) <;> try (exfalso; omega)) | (refine bcase_nprop (fun h => ?_) (fun h => ?_) <;> try (exfalso; omega)) | (refine bcase_intro (fun h => ?_) (fun h => ?_) <;> (try simp only [Bool.not_eq_true', Bool.not_eq_false', decide_eq_true_eq, decide_eq_false_iff_not, Bool.not_eq_true, Bool.not_eq_false, Decidable.not_not] at h)) | refine And.intro (by first | omega | exact rfl | assumption | exact ⟨rfl, rfl, rfl, rfl, rfl⟩ | exact ⟨rfl, rfl, rfl, rfl⟩ | exact ⟨rfl, by omega⟩ | exact oneAll_of rfl | exact ⟨rfl, oneAll_of rfl⟩ | exact Ref.refl _ | exact Thin.ref (.skip (Thin.refl _)) | exact Thin.ref (.skip (.skip (Thin.refl _))) | exact ⟨by omega, by omega, by omega, by unfold maxLen; omega⟩ | exact ⟨rfl, Nat.le_of_ble_eq_true rfl⟩ | ((try unfold maxLen); (try simp only [List.length_nil, List.length_cons, List.length_append]); omega) | (refine ⟨rfl, ?_⟩; (try simp only [List.length_nil, List.length_cons, List.length_append]); omega)) ?_ | intro _)); (all_goals (conv => whnf))
  rename_i b7 fp0 b12 b51 b55
  refine VC_loop Nat (fun i' => [(3, .v (.int .i64 i)), (4, .v (.int .i64 m)), (7, .ptr 7 b7 0), (15, .v (.slice aL g.length cL)), (16, .sl 51 (some ⟨b51, 0, none⟩) (g.length + 1) (g.length + 1)), (17, .sl 55 (some ⟨b55, 0, none⟩) (g.length + 1) (g.length + 1)), (56, .v (.slice aL g.length cL)), (57, .v (.int .i64 g.length)), (58, .v (.int .i64 i'))])
    (fun i' => [.own 55 (some ⟨b55, 0, none⟩) (g.length + 1) (g.length + 1) ty_int 1 (ints .i64 (upto (rowC s.has ms) g.length i')), .own 51 (some ⟨b51, 0, none⟩) (g.length + 1) (g.length + 1) ty_int 1 (ints .i64 (upto (rowN ms) g.length i')), packE 77 fp' (fS bb S), .own 812 aL g.length cL ty_api_Rule 5 (rulsC g), .box 7 b7 (l4C s) ty_api_Letters])
    (fun i' => i' ≤ g.length) (fun i' => g.length - i') 0 (Nat.zero_le _) (by (repeat ((conv => whnf); refine And.intro (by first | exact rfl | exact vint_eq (by omega) | exact vint_eq (by (dsimp only; omega)) | exact vsl_eq (by omega) | exact vsl_eq (by first | (dsimp only; omega) | (simp; done) | (simp; omega))) ?_)); exact trivial) ?_ ?_
  · have e1 : ints .i64 (List.replicate (g.length + 1) 0) = ints .i64 (upto (rowN ms) g.length 0) := by rw [← upto_zero (rowN_zero ms)]
    have e2 : ints .i64 (List.replicate (g.length + 1) 0) = ints .i64 (upto (rowC s.has ms) g.length 0) := by rw [← upto_zero (rowC_zero s.has ms)]
    exact Thin.ref (.own rfl e2 (.own rfl e1 (.keep rfl (fun _ h => h) (.keep rfl (fun _ h => h) (.skip (.keep rfl (fun _ h => h) (.nil _)))))))
  intro x hx
  by_cases hlt : x < g.length
  · have hne : aL ≠ none := hneL (by omega)
    have hat := rulsC_at hlt
    have hni : ((x : Int) + 1).toNat = x + 1 := by omega
    have hrow := hg.rows 0 s.has hlt
    have hNl := hg.rowN_le hlt
    have hCl := rowC_le s.has ms (x + 1)
    have u1 := upto_len (f := rowN ms) (k := g.length) (i := x) (x := x + 1) hlt
    have u2 := upto_len (f := rowC s.has ms) (k := g.length) (i := x) (x := x + 1) hlt
    have hrd : ∀ r : Rul, r = g.getD x rul0 → ((rulsC g).drop (x * 5)).take 5 = ruC r := fun r hr => by rw [hr]; exact hat
    rcases hrow with ⟨k1, l, hl, k2, k4, _, k5⟩ | ⟨k1, y, z, k2, k3, k4, k5, k6, _, k7⟩ | ⟨k1, y, k, k2, k3, k4, k5, k6, _, k7⟩
    · have hrd := hrd _ rfl
      generalize g.getD x rul0 = r at *
      have s1 := upto_set (f := rowN ms) hlt k4.symm
      have c5 := calls_Has s hs4 l hl
      by_cases hlb : s.has l = true
      · rw [if_pos hlb] at k5
        rw [hlb] at c5
        have s2 := upto_set (f := rowC s.has ms) hlt k5.symm
        (repeat' ((conv => whnf); first | rw [Int.toNat_natCast] | rw [Nat.mul_one] | rw [hni] | rw [s1] | rw [s2] | rw [k2] | refine ⟨ruC r, rfl, Rd.own (key := 812) rfl (Nat.succ_pos _) hrd, ?_⟩ | (first | refine CallK_pure (.v _) (fun w hR => c5 w) ?_ | refine QCall_pure (.v _) (fun w hR => c5 w) ?_) | (refine bcase_prop (fun h => ?_) (fun h => ?_) <;> try (exfalso; omega)) | (refine bcase_nprop (fun h => ?_) (fun h => ?_) <;> try (exfalso; omega)) | (refine bcase_intro (fun h => ?_) (fun h => ?_) <;> (try simp only [Bool.not_eq_true', Bool.not_eq_false', decide_eq_true_eq, decide_eq_false_iff_not, Bool.not_eq_true, Bool.not_eq_false, Decidable.not_not] at h)) | refine And.intro (by first | omega | exact rfl | assumption | exact ⟨rfl, rfl, rfl, rfl, rfl⟩ | exact ⟨rfl, rfl, rfl, rfl⟩ | exact ⟨rfl, by omega⟩ | exact oneAll_of rfl | exact ⟨rfl, oneAll_of rfl⟩ | exact Ref.refl _ | exact Thin.ref (.skip (Thin.refl _)) | exact Thin.ref (.skip (.skip (Thin.refl _))) | exact hne | exact ⟨rfl, u1⟩ | exact ⟨rfl, u2⟩ | exact ⟨rfl, Nat.le_of_ble_eq_true rfl⟩ | ((try unfold maxLen); (try simp only [List.length_nil, List.length_cons, List.length_append]); omega) | (refine ⟨rfl, ?_⟩; (try simp only [List.length_nil, List.length_cons, List.length_append]); omega)) ?_ | intro _)); (all_goals (conv => whnf))
        all_goals first | (exfalso; omega) | skip
        exact loop_next (x + 1) hlt (by ((try dsimp only); omega)) (by (repeat ((conv => whnf); refine And.intro (by first | exact rfl | exact vint_eq (by omega) | exact vint_eq (by (dsimp only; omega)) | exact vsl_eq (by omega) | exact vsl_eq (by first | (dsimp only; omega) | (simp; done) | (simp; omega))) ?_)); exact trivial) (Thin.ref (.skip (Thin.refl _)))
      · rw [if_neg hlb] at k5
        rw [eq_false_of_ne_true hlb] at c5
        have s2 := upto_stay (k := g.length) k5
        (repeat' ((conv => whnf); first | rw [Int.toNat_natCast] | rw [Nat.mul_one] | rw [hni] | rw [s1] | rw [k2] | refine ⟨ruC r, rfl, Rd.own (key := 812) rfl (Nat.succ_pos _) hrd, ?_⟩ | (first | refine CallK_pure (.v _) (fun w hR => c5 w) ?_ | refine QCall_pure (.v _) (fun w hR => c5 w) ?_) | (refine bcase_prop (fun h => ?_) (fun h => ?_) <;> try (exfalso; omega)) | (refine bcase_nprop (fun h => ?_) (fun h => ?_) <;> try (exfalso; omega)) | (refine bcase_intro (fun h => ?_) (fun h => ?_) <;> (try simp only [Bool.not_eq_true', Bool.not_eq_false', decide_eq_true_eq, decide_eq_false_iff_not, Bool.not_eq_true, Bool.not_eq_false, Decidable.not_not] at h)) | refine And.intro (by first | omega | exact rfl | assumption | exact ⟨rfl, rfl, rfl, rfl, rfl⟩ | exact ⟨rfl, rfl, rfl, rfl⟩ | exact ⟨rfl, by omega⟩ | exact oneAll_of rfl | exact ⟨rfl, oneAll_of rfl⟩ | exact Ref.refl _ | exact Thin.ref (.skip (Thin.refl _)) | exact Thin.ref (.skip (.skip (Thin.refl _))) | exact hne | exact ⟨rfl, u1⟩ | exact ⟨rfl, u2⟩ | exact ⟨rfl, Nat.le_of_ble_eq_true rfl⟩ | ((try unfold maxLen); (try simp only [List.length_nil, List.length_cons, List.length_append]); omega) | (refine ⟨rfl, ?_⟩; (try simp only [List.length_nil, List.length_cons, List.length_append]); omega)) ?_ | intro _)); (all_goals (conv => whnf))
        all_goals first | (exfalso; omega) | skip
        exact loop_next (x + 1) hlt (by ((try dsimp only); omega)) (by (repeat ((conv => whnf); refine And.intro (by first | exact rfl | exact vint_eq (by omega) | exact vint_eq (by (dsimp only; omega)) | exact vsl_eq (by omega) | exact vsl_eq (by first | (dsimp only; omega) | (simp; done) | (simp; omega))) ?_)); exact trivial) (Thin.ref (.skip (.own rfl (congrArg _ s2) (Thin.refl _))))
    · have hrd := hrd _ rfl
      generalize g.getD x rul0 = r at *
      have s1 := upto_set (f := rowN ms) hlt k6.symm
      have s2 := upto_set (f := rowC s.has ms) hlt k7.symm
      have hy : (r.a).toNat = y + 1 := by omega
      have hz : (r.b).toNat = z + 1 := by omega
      have hNy := hg.rowN_le (i := y) (by omega)
      have hNz := hg.rowN_le (i := z) (by omega)
      have hCy := rowC_le s.has ms (y + 1)
      have hCz := rowC_le s.has ms (z + 1)
      have l1 := upto_get (f := rowN ms) (k := g.length) (i := x) (x := y + 1) (by omega) (by omega)
      have l2 := upto_get (f := rowN ms) (k := g.length) (i := x) (x := z + 1) (by omega) (by omega)
      have m1 := upto_get (f := rowC s.has ms) (k := g.length) (i := x) (x := y + 1) (by omega) (by omega)
      have m2 := upto_get (f := rowC s.has ms) (k := g.length) (i := x) (x := z + 1) (by omega) (by omega)
      (repeat' ((conv => whnf); first | rw [Int.toNat_natCast] | rw [Nat.mul_one] | rw [hni] | rw [hy] | rw [hz] | rw [s1] | rw [s2] | refine ⟨ruC r, rfl, Rd.own (key := 812) rfl (Nat.succ_pos _) hrd, ?_⟩ | refine ldCell l1 ?_ | refine ldCell l2 ?_ | refine ldCell m1 ?_ | refine ldCell m2 ?_ | (refine bcase_prop (fun h => ?_) (fun h => ?_) <;> try (exfalso; omega)) | (refine bcase_nprop (fun h => ?_) (fun h => ?_) <;> try (exfalso; omega)) | (refine bcase_intro (fun h => ?_) (fun h => ?_) <;> (try simp only [Bool.not_eq_true', Bool.not_eq_false', decide_eq_true_eq, decide_eq_false_iff_not, Bool.not_eq_true, Bool.not_eq_false, Decidable.not_not] at h)) | refine And.intro (by first | omega | exact rfl | assumption | exact ⟨rfl, rfl, rfl, rfl, rfl⟩ | exact ⟨rfl, rfl, rfl, rfl⟩ | exact ⟨rfl, by omega⟩ | exact oneAll_of rfl | exact ⟨rfl, oneAll_of rfl⟩ | exact Ref.refl _ | exact Thin.ref (.skip (Thin.refl _)) | exact Thin.ref (.skip (.skip (Thin.refl _))) | exact hne | exact ⟨rfl, u1⟩ | exact ⟨rfl, u2⟩ | exact ⟨rfl, Nat.le_of_ble_eq_true rfl⟩ | ((try unfold maxLen); (try simp only [List.length_nil, List.length_cons, List.length_append]); omega) | (refine ⟨rfl, ?_⟩; (try simp only [List.length_nil, List.length_cons, List.length_append]); omega)) ?_ | intro _)); (all_goals (conv => whnf))
      all_goals first | (exfalso; omega) | skip
      exact loop_next (x + 1) hlt (by ((try dsimp only); omega)) (by (repeat ((conv => whnf); refine And.intro (by first | exact rfl | exact vint_eq (by omega) | exact vint_eq (by (dsimp only; omega)) | exact vsl_eq (by omega) | exact vsl_eq (by first | (dsimp only; omega) | (simp; done) | (simp; omega))) ?_)); exact trivial) (Thin.ref (.skip (Thin.refl _)))
    · have hrd := hrd _ rfl
      generalize g.getD x rul0 = r at *
      have s1 := upto_set (f := rowN ms) hlt k6.symm
      have s2 := upto_set (f := rowC s.has ms) hlt k7.symm
      have hy : (r.a).toNat = y + 1 := by omega
      have hNy := hg.rowN_le (i := y) (by omega)
      have hCy := rowC_le s.has ms (y + 1)
      have l1 := upto_get (f := rowN ms) (k := g.length) (i := x) (x := y + 1) (by omega) (by omega)
      have m1 := upto_get (f := rowC s.has ms) (k := g.length) (i := x) (x := y + 1) (by omega) (by omega)
      (repeat' ((conv => whnf); first | rw [Int.toNat_natCast] | rw [Nat.mul_one] | rw [hni] | rw [hy] | rw [k5] | rw [s1] | rw [s2] | refine ⟨ruC r, rfl, Rd.own (key := 812) rfl (Nat.succ_pos _) hrd, ?_⟩ | refine ldCell l1 ?_ | refine ldCell m1 ?_ | (refine bcase_prop (fun h => ?_) (fun h => ?_) <;> try (exfalso; omega)) | (refine bcase_nprop (fun h => ?_) (fun h => ?_) <;> try (exfalso; omega)) | (refine bcase_intro (fun h => ?_) (fun h => ?_) <;> (try simp only [Bool.not_eq_true', Bool.not_eq_false', decide_eq_true_eq, decide_eq_false_iff_not, Bool.not_eq_true, Bool.not_eq_false, Decidable.not_not] at h)) | refine And.intro (by first | omega | exact rfl | assumption | exact ⟨rfl, rfl, rfl, rfl, rfl⟩ | exact ⟨rfl, rfl, rfl, rfl⟩ | exact ⟨rfl, by omega⟩ | exact oneAll_of rfl | exact ⟨rfl, oneAll_of rfl⟩ | exact Ref.refl _ | exact Thin.ref (.skip (Thin.refl _)) | exact Thin.ref (.skip (.skip (Thin.refl _))) | exact hne | exact ⟨rfl, u1⟩ | exact ⟨rfl, u2⟩ | exact ⟨rfl, Nat.le_of_ble_eq_true rfl⟩ | ((try unfold maxLen); (try simp only [List.length_nil, List.length_cons, List.length_append]); omega) | (refine ⟨rfl, ?_⟩; (try simp only [List.length_nil, List.length_cons, List.length_append]); omega)) ?_ | intro _)); (all_goals (conv => whnf))
      all_goals first | (exfalso; omega) | skip
      exact loop_next (x + 1) hlt (by ((try dsimp only); omega)) (by (repeat ((conv => whnf); refine And.intro (by first | exact rfl | exact vint_eq (by omega) | exact vint_eq (by (dsimp only; omega)) | exact vsl_eq (by omega) | exact vsl_eq (by first | (dsimp only; omega) | (simp; done) | (simp; omega))) ?_)); exact trivial) (Thin.ref (.skip (Thin.refl _)))
  · have hxl : x = g.length := by omega
    subst hxl
    have c6 := fun i h w a a1 a2 c c1 c2 h1 h2 h3 => calls_before g ms hg s.has i h a a1 a2 c c1 c2 w h1 h2 h3
    rw [ht] at c6
    have e1 : (i : Int) + (m : Int) = ((i + m : Nat) : Int) := by omega
    have hcs := cnt_sub s.has (tm S.E n).txt i m
    have hcl := cnt_le s.has ((tm S.E n).txt.take (i + m))
    rw [List.length_take] at hcl
    have d1 := c6 (i + m) him
    have d2 := c6 i (by omega)
    generalize cnt s.has ((tm S.E n).txt.take (i + m)) = u at *
    generalize cnt s.has ((tm S.E n).txt.take i) = v at *
    generalize cnt s.has (sub (tm S.E n).txt i m) = z at *
    (repeat' ((conv => whnf); first | rw [e1] | refine CallK_pure (.v _) (fun w hR => d1 w _ _ _ _ _ _ (In.ownR (key := 812) hR rfl) (In.ownR (key := 51) hR rfl) (In.ownR (key := 55) hR rfl)) ?_ | refine CallK_pure (.v _) (fun w hR => d2 w _ _ _ _ _ _ (In.ownR (key := 812) hR rfl) (In.ownR (key := 51) hR rfl) (In.ownR (key := 55) hR rfl)) ?_ | refine ⟨.v _, ⟨rfl, trivial⟩, ?_⟩ | (refine bcase_prop (fun h => ?_) (fun h => ?_) <;> try (exfalso; omega)) | (refine bcase_nprop (fun h => ?_) (fun h => ?_) <;> try (exfalso; omega)) | (refine bcase_intro (fun h => ?_) (fun h => ?_) <;> (try simp only [Bool.not_eq_true', Bool.not_eq_false', decide_eq_true_eq, decide_eq_false_iff_not, Bool.not_eq_true, Bool.not_eq_false, Decidable.not_not] at h)) | refine And.intro (by first | omega | exact rfl | assumption | exact ⟨rfl, rfl, rfl, rfl, rfl⟩ | exact ⟨rfl, rfl, rfl, rfl⟩ | exact ⟨rfl, by omega⟩ | exact oneAll_of rfl | exact ⟨rfl, oneAll_of rfl⟩ | exact Ref.refl _ | exact Thin.ref (.skip (Thin.refl _)) | exact Thin.ref (.skip (.skip (Thin.refl _))) | exact ⟨rfl, Nat.le_of_ble_eq_true rfl⟩ | ((try unfold maxLen); (try simp only [List.length_nil, List.length_cons, List.length_append]); omega) | (refine ⟨rfl, ?_⟩; (try simp only [List.length_nil, List.length_cons, List.length_append]); omega)) ?_ | intro _)); (all_goals (conv => whnf))
    all_goals first | (exfalso; omega) | skip
    have ez : (u : Int) - (v : Int) = (z : Int) := by omega
    rw [ez]
    exact ⟨endP (by (repeat (first | exact Thin.nil _ | exact Thin.refl _ | refine Thin.keep rfl (fun _ h => h) ?_ | refine Thin.skip ?_))) rfl⟩
end Go.Proofs.Ytohlphngnhcbfaa
/- From what the given statements say of an argument to what the walks ask: sets of letters. No condition. -/
namespace Go.Proofs.Ytohlphngnhcbfaa
open Go.ChangeShapes Go.WideShapes Go.ChangeAt Go.RowKit Go.EG
set_option linter.unusedVariables false
section
variable {H : Type} {enc : TypeId × Value → H} {P : Program} {w : World} {base : Nat} {spare : Nat → Bool} {held : Bool}

theorem list_four {α : Type} : ∀ {l : List α}, l.length = 4 → ∃ a b c d, l = [a, b, c, d]
  | [a, b, c, d], _ => ⟨a, b, c, d, rfl⟩
def l4D (H : Type) (s : Let4) : DataW H := .agg [.lit (.int .u64 s.s0), .lit (.int .u64 s.s1), .lit (.int .u64 s.s2), .lit (.int .u64 s.s3)]
theorem open_l4 {r : Reach} {b0 : Nat} {t e : TypeId} {v : Value} {d : DataW H} {ps : List MemPlace} (ht : P.underlying t = some (.array 4 e)) (he : P.underlying e = some (.int .u64)) (hc : P.cellsOf e = 1) (hct : P.cellsOf t = 4) (hval : Value.okWide P w r b0 t v) (hd : DataW.Trod enc P w base spare held t v d ps) :
    ∃ s : Let4, v = l4V s ∧ d = l4D H s ∧ ps = [] ∧ s.Ok := by
  obtain ⟨cs, rfl, hsz, _⟩ : ∃ cs, v = .agg cs ∧ cs.size = P.cellsOf t ∧ Row.okWide P w r b0 t cs := by
    simpa [Value.okWide, ht] using hval
  rw [hct] at hsz
  obtain ⟨l⟩ := cs
  obtain ⟨c0, c1, c2, c3, rfl⟩ := list_four (l := l) (by simpa using hsz)
  obtain ⟨fuel, hf⟩ := hd
  obtain ⟨y0, y1, y2, y3, m, hx, hy0, hy1, hy2, hy3⟩ := trod_array4 ht hc hf
  obtain ⟨x0, e0, rfl, w0⟩ := DataW.trod_int he hy0
  obtain ⟨x1, e1, rfl, w1⟩ := DataW.trod_int he hy1
  obtain ⟨x2, e2, rfl, w2⟩ := DataW.trod_int he hy2
  obtain ⟨x3, e3, rfl, w3⟩ := DataW.trod_int he hy3
  simp only [List.cons.injEq, and_true] at e0 e1 e2 e3
  subst e0 e1 e2 e3
  simp only [Prod.mk.injEq] at hx
  have b0 := wf_u64 w0
  have b1 := wf_u64 w1
  have b2 := wf_u64 w2
  have b3 := wf_u64 w3
  obtain ⟨z0, rfl⟩ := Int.eq_ofNat_of_zero_le b0.1
  obtain ⟨z1, rfl⟩ := Int.eq_ofNat_of_zero_le b1.1
  obtain ⟨z2, rfl⟩ := Int.eq_ofNat_of_zero_le b2.1
  obtain ⟨z3, rfl⟩ := Int.eq_ofNat_of_zero_le b3.1
  exact ⟨⟨z0, z1, z2, z3⟩, rfl, hx.1, by simpa using hx.2, ⟨by show z0 < _; omega, by show z1 < _; omega, by show z2 < _; omega, by show z3 < _; omega⟩⟩
theorem shut_l4 {t e : TypeId} {s : Let4} (ht : P.underlying t = some (.array 4 e)) (he : P.underlying e = some (.int .u64)) (hc : P.cellsOf e = 1) (hct : P.cellsOf t = 4) (hs : s.Ok) : DataW.Trod enc P w base spare held t (l4V s) (l4D H s) [] := by
  have k : ∀ {x : Nat}, x < 18446744073709551616 → (Lit.int .u64 (x : Int)).wf = true := fun {x} h => by
    simp only [Lit.wf, Bool.and_eq_true, decide_eq_true_eq, IntKind.min, IntKind.max, IntKind.signed, IntKind.bits]
    constructor
    · simp
    · simp; omega
  exact ⟨2, by simp [DataW.trod, Value.cells, ht, he, hc, hct, k hs.h0, k hs.h1, k hs.h2, k hs.h3, l4D, show List.range 4 = [0, 1, 2, 3] from rfl]⟩
end
end Go.Proofs.Ytohlphngnhcbfaa
/- The library's sort of a row of IDs, laid at this program (written by the kit's tool for plain words). No condition. -/
namespace Go.Proofs
open Go.Shelf
def Try.laysSlgm5_f85_ren : Go.Shelf.Ren := ⟨fun | 5 => 85 | 8 => 93 | 7 => 92 | 19 => 105 | 20 => 106 | 10 => 96 | 11 => 97 | 12 => 98 | 13 => 99 | 14 => 100 | 15 => 101 | 16 => 102 | 17 => 103 | 18 => 104 | 30 => 107 | 31 => 108 | 32 => 109 | 33 => 110 | 34 => 111 | 35 => 112 | 40 => 113 | n => n, fun | 23 => 72 | 25 => 28 | 3 => 3 | 32 => 52 | 22 => 72 | 0 => 0 | 44 => 176 | 46 => 23 | 4 => 4 | 36 => 168 | 35 => 167 | 41 => 173 | 5 => 5 | 9 => 9 | 53 => 178 | 57 => 182 | 63 => 184 | 64 => 55 | n => n, fun | n => n⟩
theorem Try.laysSlgm5_f85 : Go.Proofs.SlLaysM.n5 Try.prog Try.laysSlgm5_f85_ren := {
  mixed := by kernel_rfl
  f5 := ⟨Try.f85.name, by decide, Try.func85.trans (congrArg some (by kernel_rfl))⟩
  f7 := ⟨Try.f92.name, by decide, Try.func92.trans (congrArg some (by kernel_rfl))⟩
  f8 := Try.func93.trans (congrArg some (by kernel_rfl))
  f10 := ⟨Try.f96.name, by decide, Try.func96.trans (congrArg some (by kernel_rfl))⟩
  f11 := ⟨Try.f97.name, by decide, Try.func97.trans (congrArg some (by kernel_rfl))⟩
  f12 := ⟨Try.f98.name, by decide, Try.func98.trans (congrArg some (by kernel_rfl))⟩
  f13 := ⟨Try.f99.name, by decide, Try.func99.trans (congrArg some (by kernel_rfl))⟩
  f14 := ⟨Try.f100.name, by decide, Try.func100.trans (congrArg some (by kernel_rfl))⟩
  f15 := ⟨Try.f101.name, by decide, Try.func101.trans (congrArg some (by kernel_rfl))⟩
  f16 := ⟨Try.f102.name, by decide, Try.func102.trans (congrArg some (by kernel_rfl))⟩
  f17 := ⟨Try.f103.name, by decide, Try.func103.trans (congrArg some (by kernel_rfl))⟩
  f18 := ⟨Try.f104.name, by decide, Try.func104.trans (congrArg some (by kernel_rfl))⟩
  f19 := Try.func105.trans (congrArg some (by kernel_rfl))
  f20 := Try.func106.trans (congrArg some (by kernel_rfl))
  f30 := ⟨Try.f107.name, by decide, Try.func107.trans (congrArg some (by kernel_rfl))⟩
  f31 := Try.func108.trans (congrArg some (by kernel_rfl))
  f32 := Try.func109.trans (congrArg some (by kernel_rfl))
  f33 := ⟨Try.f110.name, by decide, Try.func110.trans (congrArg some (by kernel_rfl))⟩
  f34 := ⟨Try.f111.name, by decide, Try.func111.trans (congrArg some (by kernel_rfl))⟩
  f35 := ⟨Try.f112.name, by decide, Try.func112.trans (congrArg some (by kernel_rfl))⟩
  f40 := ⟨Try.f113.name, by decide, Try.func113.trans (congrArg some (by kernel_rfl))⟩
  t0 := Try.underlying0
  a0 := Try.isAgg0
  z0 := Try.sizeOf0
  v0 := Try.zeroValue0
  t3 := Try.underlying3
  a3 := Try.isAgg3
  z3 := Try.sizeOf3
  v3 := Try.zeroValue3
  t4 := Try.underlying4
  a4 := Try.isAgg4
  z4 := Try.sizeOf4
  v4 := Try.zeroValue4
  t5 := Try.underlying5
  a5 := Try.isAgg5
  z5 := Try.sizeOf5
  v5 := Try.zeroValue5
  t9 := Try.underlying9
  a9 := Try.isAgg9
  z9 := Try.sizeOf9
  v9 := Try.zeroValue9
  t22 := Try.underlying72
  a22 := Try.isAgg72
  z22 := Try.sizeOf72
  v22 := Try.zeroValue72
  t23 := Try.underlying72
  a23 := Try.isAgg72
  z23 := Try.sizeOf72
  v23 := Try.zeroValue72
  t25 := Try.underlying28
  a25 := Try.isAgg28
  z25 := Try.sizeOf28
  v25 := Try.zeroValue28
  t32 := Try.underlying52
  a32 := Try.isAgg52
  z32 := Try.sizeOf52
  v32 := Try.zeroValue52
  t35 := Try.underlying167
  a35 := Try.isAgg167
  z35 := Try.sizeOf167
  v35 := Try.zeroValue167
  t36 := Try.underlying168
  a36 := Try.isAgg168
  z36 := Try.sizeOf168
  v36 := Try.zeroValue168
  t41 := Try.underlying173
  a41 := Try.isAgg173
  z41 := Try.sizeOf173
  v41 := Try.zeroValue173
  t44 := Try.underlying176
  a44 := Try.isAgg176
  z44 := Try.sizeOf176
  v44 := Try.zeroValue176
  t46 := Try.underlying23
  a46 := Try.isAgg23
  z46 := Try.sizeOf23
  v46 := Try.zeroValue23
  t53 := Try.underlying178
  a53 := Try.isAgg178
  z53 := Try.sizeOf178
  v53 := Try.zeroValue178
  t57 := Try.underlying182
  a57 := Try.isAgg182
  z57 := Try.sizeOf182
  v57 := Try.zeroValue182
  t63 := Try.underlying184
  a63 := Try.isAgg184
  z63 := Try.sizeOf184
  v63 := Try.zeroValue184
  t64 := Try.underlying55
  a64 := Try.isAgg55
  z64 := Try.sizeOf55
  v64 := Try.zeroValue55 }
end Go.Proofs
namespace Go.Proofs.Ytohlphngnhcbfaa
open Go.EG
theorem sortsI : SortsI Try.prog fn_slices_Sort_Sl_api_ID_api_ID := fun blk off cap zs w hH hb hs => AnyM.slices_Sort_int Try.laysSlgm5_f85 blk off cap zs w hH hb hs
end Go.Proofs.Ytohlphngnhcbfaa
/- Letters are bytes; sets of one letter. -/
namespace Go.Proofs.Ytohlphngnhcbfaa
open Go.EG
set_option linter.unusedSimpArgs false
set_option linter.unusedVariables false
set_option maxRecDepth 20000

/-- The set of one letter. -/
def lOne (b : Nat) : Let4 := ⟨if b / 64 = 0 then 2 ^ (b % 64) else 0, if b / 64 = 1 then 2 ^ (b % 64) else 0, if b / 64 = 2 then 2 ^ (b % 64) else 0, if b / 64 = 3 then 2 ^ (b % 64) else 0⟩
theorem pow_lt64 {i : Nat} (h : i < 64) : 2 ^ i < 18446744073709551616 := by
  have : 2 ^ i < 2 ^ 64 := Nat.pow_lt_pow_right (by decide) h
  simpa using this
theorem lOne_ok (b : Nat) : (lOne b).Ok := by
  have h := pow_lt64 (i := b % 64) (Nat.mod_lt _ (by decide))
  constructor <;> (simp only [lOne]; split <;> omega)
theorem pow_bit {i j : Nat} : decide (2 ^ i / 2 ^ j % 2 = 1) = decide (i = j) := by
  have := Nat.testBit_two_pow (n := i) (m := j)
  rw [Nat.testBit_eq_decide_div_mod_eq] at this
  exact this
theorem lOne_has (b x : Nat) (hb : b < 256) (hx : x < 256) : (lOne b).has x = decide (x = b) := by
  have hx4 : x / 64 = 0 ∨ x / 64 = 1 ∨ x / 64 = 2 ∨ x / 64 = 3 := by omega
  by_cases h : b / 64 = x / 64
  · have hw : (lOne b).w (x / 64) = 2 ^ (b % 64) := by
      rcases hx4 with h4 | h4 | h4 | h4 <;> simp [Let4.w, lOne, h, h4]
    unfold Let4.has
    rw [hw, pow_bit, decide_eq_decide]
    omega
  · have hw : (lOne b).w (x / 64) = 0 := by
      rcases hx4 with h4 | h4 | h4 | h4 <;> simp [Let4.w, lOne, h4] <;> omega
    unfold Let4.has
    rw [hw, Nat.zero_div, decide_eq_false (by omega), decide_eq_false (by omega)]
/-- The set of the line feed. -/
abbrev lFeed : Let4 := ⟨1024, 0, 0, 0⟩
theorem lFeed_eq : lOne 10 = lFeed := rfl
theorem lFeed_ok : lFeed.Ok := lOne_ok 10
theorem cnt_feed {t : List Nat} (h : ∀ x ∈ t, x < 256) : cnt lFeed.has t = linesN t := by
  rw [← lFeed_eq, cnt_congr (q := fun x => x == 10) fun x hx => by rw [lOne_has 10 x (by decide) (h x hx)]; rfl]
  rfl
/-- The complement. -/
def Let4.not (s : Let4) : Let4 := ⟨18446744073709551615 - s.s0, 18446744073709551615 - s.s1, 18446744073709551615 - s.s2, 18446744073709551615 - s.s3⟩
theorem Let4.not_ok (s : Let4) : s.not.Ok := by constructor <;> (simp only [Let4.not]; omega)
theorem bit_not {v i : Nat} (hv : v < 18446744073709551616) (hi : i < 64) : ((18446744073709551615 - v) / 2 ^ i % 2 = 1) ↔ ¬ (v / 2 ^ i % 2 = 1) := by
  have h := Nat.testBit_two_pow_sub_succ (n := 64) (x := v) (by simpa using hv) i
  rw [Nat.testBit_eq_decide_div_mod_eq, Nat.testBit_eq_decide_div_mod_eq, decide_eq_true hi, Bool.true_and] at h
  have e : 2 ^ 64 - (v + 1) = 18446744073709551615 - v := by omega
  rw [e] at h
  constructor
  · intro h1 h2
    rw [decide_eq_true h1, decide_eq_true h2] at h
    simp at h
  · intro h2
    rw [decide_eq_false h2] at h
    simpa using h
theorem Let4.not_has {s : Let4} (hs : s.Ok) {x : Nat} (hx : x < 256) : s.not.has x = !s.has x := by
  have hx4 : x / 64 = 0 ∨ x / 64 = 1 ∨ x / 64 = 2 ∨ x / 64 = 3 := by omega
  have hm : x % 64 < 64 := Nat.mod_lt _ (by decide)
  have key : ∀ v u : Nat, s.w (x / 64) = v → s.not.w (x / 64) = 18446744073709551615 - v → v < 18446744073709551616 → s.not.has x = !s.has x := by
    intro v u h1 h2 h3
    unfold Let4.has
    rw [h1, h2]
    by_cases hb : v / 2 ^ (x % 64) % 2 = 1
    · rw [decide_eq_true hb, decide_eq_false (fun h => (bit_not h3 hm).1 h hb)]; rfl
    · rw [decide_eq_false hb, decide_eq_true ((bit_not h3 hm).2 hb)]; rfl
  rcases hx4 with h4 | h4 | h4 | h4
  · exact key s.s0 0 (by simp [Let4.w, h4]) (by simp [Let4.w, Let4.not, h4]) hs.h0
  · exact key s.s1 0 (by simp [Let4.w, h4]) (by simp [Let4.w, Let4.not, h4]) hs.h1
  · exact key s.s2 0 (by simp [Let4.w, h4]) (by simp [Let4.w, Let4.not, h4]) hs.h2
  · exact key s.s3 0 (by simp [Let4.w, h4]) (by simp [Let4.w, Let4.not, h4]) hs.h3
end Go.Proofs.Ytohlphngnhcbfaa
