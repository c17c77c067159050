/- What a rule reaches, and Export: the program. -/
import Derived.Test.YtkkhpdkfploodaaGreatDoorK11
import Derived.Test.YtkkhpdkfploodaaGreatDoorK5
import Derived.Test.YtkkhpdkfploodaaGreatDoorK4
namespace Go.Proofs.YtkkhpdkfploodaaGreatDoor
open Go.EG
attribute [local irreducible] CallK QCall Go.Calls
set_option linter.unusedSimpArgs false
set_option linter.unusedVariables false
set_option maxRecDepth 20000
set_option maxHeartbeats 4000000
def seenM (L : List Int) : List (Value × Value) := L.map fun x => (.int .i64 x,.bool true)
theorem keyEq_int {x y : Int} : keyEq (.int .i64 x) (.int .i64 y) = true ↔ x = y := by simp [keyEq]
theorem seen_none {L : List Int} {y : Int} (h : y ∉ L) : mget (seenM L) (.int .i64 y) = none := by
  induction L with
  | nil => rfl
  | cons x L ih =>
    simp only [seenM,List.map_cons,mget]
    rw [if_neg (fun hk => h (by rw [keyEq_int.1 hk]; simp))]
    exact ih (fun hm => h (by simp [hm]))
theorem seen_some {L : List Int} {y : Int} (h : y ∈ L) : mget (seenM L) (.int .i64 y) = some (.bool true) := by
  induction L with
  | nil => simp at h
  | cons x L ih =>
    simp only [seenM,List.map_cons,mget]
    by_cases hx : y = x
    · rw [if_pos (keyEq_int.2 hx)]
    · rw [if_neg (fun hk => hx (keyEq_int.1 hk))]
      exact ih (by simpa [hx] using h)
theorem seen_set {L : List Int} {y : Int} (h : y ∉ L) : mset (seenM L) (.int .i64 y) (.bool true) = seenM (L ++ [y]) := by
  induction L with
  | nil => rfl
  | cons x L ih =>
    have hx : ¬ keyEq (.int .i64 y) (.int .i64 x) = true := fun hk => h (by rw [keyEq_int.1 hk]; simp)
    have ih := ih (fun hm => h (by simp [hm]))
    simp only [seenM,List.map_cons,mset,if_neg hx,List.cons_append] at ih ⊢
    rw [ih]
def numM : Nat → List Int → List (Value × Value)
  | _,[] => []
  | n,x :: L => (.int .i64 x,.int .i64 ((n + 1 : Nat) : Int)) :: numM (n + 1) L
theorem num_none : ∀ {n : Nat} {L : List Int} {y : Int},y ∉ L → mget (numM n L) (.int .i64 y) = none
  | _,[],_,_ => rfl
  | n,x :: L,y,h => by
    simp only [numM,mget]
    rw [if_neg (fun hk => h (by rw [keyEq_int.1 hk]; simp))]
    exact num_none (fun hm => h (by simp [hm]))
theorem num_some : ∀ {n : Nat} {L : List Int} {y : Int},y ∈ L → mget (numM n L) (.int .i64 y) = some (.int .i64 ((n + L.idxOf y + 1 : Nat) : Int))
  | _,[],_,h => by simp at h
  | n,x :: L,y,h => by
    simp only [numM,mget]
    by_cases hx : y = x
    · subst hx
      rw [if_pos (keyEq_int.2 rfl)]; simp
    · rw [if_neg (fun hk => hx (keyEq_int.1 hk)),num_some (n := n + 1) (by simpa [hx] using h)]
      have e : (x :: L).idxOf y = L.idxOf y + 1 := by
        rw [List.idxOf_cons,show (x == y) = false from beq_false_of_ne (Ne.symm hx)]; rfl
      rw [e]
      congr 2; push_cast; omega
theorem num_set : ∀ {n : Nat} {L : List Int} {y : Int},y ∉ L → mset (numM n L) (.int .i64 y) (.int .i64 ((n + L.length + 1 : Nat) : Int)) = numM n (L ++ [y])
  | _,[],_,_ => rfl
  | n,x :: L,y,h => by
    have hx : ¬ keyEq (.int .i64 y) (.int .i64 x) = true := fun hk => h (by rw [keyEq_int.1 hk]; simp)
    have ih := num_set (n := n + 1) (L := L) (y := y) (fun hm => h (by simp [hm]))
    simp only [numM,mset,if_neg hx,List.cons_append]
    rw [← ih,List.length_cons,show n + 1 + L.length + 1 = n + (L.length + 1) + 1 by omega]
def rchQ (key b : Nat) (S : Sto) (id : Int) (v : Value) (L1 : List Ent) : Prop :=
  ∃ L a c fp',Rch S id L ∧ v = .slice a L.length c ∧ L1 = [packE key fp' (fS b S),.own 811 a L.length c ty_api_ID 1 (ints .i64 L)]
structure RchG where
  i : Nat
  L : List Int
  a : Option Addr
  c : Nat
structure RchJ where
  j : Nat
  L : List Int
  a : Option Addr
  c : Nat
theorem calls_reach (hs : SortsI Tryz.prog fn_slices_Sort_Sl_api_ID_api_ID) (b : Nat) (S : Sto) (hw : WF S) (id : Int) (h1 : 1 ≤ id) (h2 : id ≤ S.E.length) (key : Nat) (fp : List Nat) (w : World) (hR : StR w key fp b S) :
    Calls Tryz.prog fn_P_intern_Store_reach #[pS b,.int .i64 id] w fun e w' => ∃ v L1,e = .returned v ∧ R w fp L1 w' ∧ rchQ key b S id v L1 := by
  refine pack_call [.ptr 1000 b 0,.v (.int .i64 id)] ok_P_intern_Store_reach (by simp) hR ?_
  rintro ⟨a,c,mb⟩ hfp hR'
  have hsm := hw.small
  rw [fS_eq] at hR' ⊢
  have hne := own_ne (key := 1001) hR' rfl (by omega)
  have m0 : mset ([] : List (Value × Value)) (.int .i64 id) (.bool true) = seenM [id] := rfl
  (repeat' ((conv => whnf); first | rw [m0] | (refine bcase_prop (fun h => ?_) (fun h => ?_) <;> try (exfalso; omega)) | (refine bcase_nprop (fun h => ?_) (fun h => ?_) <;> try (exfalso; omega)) | (refine bcase_intro (fun h => ?_) (fun h => ?_) <;> (try simp only [Bool.not_eq_true',Bool.not_eq_false',decide_eq_true_eq,decide_eq_false_iff_not,Bool.not_eq_true,Bool.not_eq_false,Decidable.not_not] at h)) | refine And.intro (by first | omega | exact rfl | assumption | exact ⟨rfl,rfl,rfl,rfl,rfl⟩ | exact ⟨rfl,rfl,rfl,rfl⟩ | exact ⟨rfl,by omega⟩ | exact oneAll_of rfl | exact ⟨rfl,oneAll_of rfl⟩ | exact Ref.refl _ | exact Thin.ref (.skip (Thin.refl _)) | exact Thin.ref (.skip (.skip (Thin.refl _))) | exact ⟨rfl,rfl,_,rfl⟩ | exact ⟨rfl,Nat.le_of_ble_eq_true rfl⟩ | ((try unfold maxLen); (try simp only [List.length_nil,List.length_cons,List.length_append]); omega) | (refine ⟨rfl,?_⟩; (try simp only [List.length_nil,List.length_cons,List.length_append]); omega)) ?_ | intro _)); (all_goals (conv => whnf))
  rename_i bI bm
  refine VC_loop RchG (fun x => [(0,.ptr 1000 b 0),(5,.sl 13 x.a x.L.length x.c),(6,.mp 14 bm),(7,.v (.int .i64 x.i))])
    (fun x => [.mapE 14 bm (.int .i64) (seenM x.L),.own 13 x.a x.L.length x.c ty_api_ID 1 (ints .i64 x.L),.box 1000 b [.int .i64 S.most,.slice a S.E.length c,.map (some mb)] ty_intern_Store,.own 1001 a S.E.length c ty_intern_entry 13 (ents S.E),.mapE 1002 mb kkR (mapOf S.E)])
    (fun x => x.i ≤ x.L.length ∧ Bfs S id x.i x.L) (fun x => id.toNat - x.i) ⟨0,[id],_,1⟩ ⟨Nat.zero_le _,Bfs.start h1⟩ (by (repeat ((conv => whnf); refine And.intro (by first | exact rfl | exact vint_eq (by omega) | exact vint_eq (by (dsimp only; omega)) | exact vsl_eq (by omega) | exact vsl_eq (by first | (dsimp only; omega) | (simp; done) | (simp; omega))) ?_)); exact trivial) (Thin.ref (by (repeat (first | exact Thin.nil _ | exact Thin.refl _ | refine Thin.keep rfl (fun _ h => h) ?_ | refine Thin.skip ?_)))) ?_
  rintro ⟨i,L,ar,cr⟩ ⟨hi,hB⟩
  dsimp only at hi hB ⊢
  have hlen := hB.len (by omega)
  by_cases hlt : i < L.length
  · have hmem := getD_mem hlt
    obtain ⟨p1,p2⟩ := hB.pos _ hmem
    generalize hx : L.getD i 0 = x at *
    have hat := ents_rule (E := S.E) (i := x.toNat - 1) (by omega)
    have hxe : ((x - 1).toNat) = x.toNat - 1 := by omega
    have hae : S.E.getD (x.toNat - 1) ent0 = atE S.E x := (atE_pos (by omega)).symm
    rw [hae] at hat
    have hr1 : (ints .i64 L)[i]? = some (.int .i64 x) := by rw [← hx]; exact ints_getD hlt
    have c1 := calls_Refs (atE S.E x).r
    have hok := hw.okAt p1 (by omega)
    have hrl := refsL_len (atE S.E x).r
    have hrr := okR_refs hok
    generalize hzs : refsL (atE S.E x).r = zs at *
    (repeat' ((conv => whnf); first | rw [hxe] | rw [Int.toNat_natCast] | rw [Nat.mul_one] | rw [intOf_ints hlt,hx] | refine ⟨ruC (atE S.E x).r,rfl,Rd.own (key := 1001) rfl (Nat.succ_pos _) hat,?_⟩ | refine CallK_slice 900 (fun w hR => c1 w) ?_ | refine ⟨_,⟨rfl,trivial⟩,?_⟩ | (refine bcase_prop (fun h => ?_) (fun h => ?_) <;> try (exfalso; omega)) | (refine bcase_nprop (fun h => ?_) (fun h => ?_) <;> try (exfalso; omega)) | (refine bcase_intro (fun h => ?_) (fun h => ?_) <;> (try simp only [Bool.not_eq_true',Bool.not_eq_false',decide_eq_true_eq,decide_eq_false_iff_not,Bool.not_eq_true,Bool.not_eq_false,Decidable.not_not] at h)) | refine And.intro (by first | omega | exact rfl | assumption | exact ⟨rfl,rfl,rfl,rfl,rfl⟩ | exact ⟨rfl,rfl,rfl,rfl⟩ | exact ⟨rfl,by omega⟩ | exact oneAll_of rfl | exact ⟨rfl,oneAll_of rfl⟩ | exact Ref.refl _ | exact Thin.ref (.skip (Thin.refl _)) | exact Thin.ref (.skip (.skip (Thin.refl _))) | exact hne | exact isK_ints hlt | exact ⟨rfl,Nat.le_of_ble_eq_true rfl⟩ | ((try unfold maxLen); (try simp only [List.length_nil,List.length_cons,List.length_append]); omega) | (refine ⟨rfl,?_⟩; (try simp only [List.length_nil,List.length_cons,List.length_append]); omega)) ?_ | intro _)); (all_goals (conv => whnf))
    rename_i a9 c9
    refine VC_loop RchJ (fun y => [(0,.ptr 1000 b 0),(5,.sl 13 y.a y.L.length y.c),(6,.mp 14 bm),(7,.v (.int .i64 i)),(35,.sl 900 a9 zs.length c9),(36,.v (.int .i64 zs.length)),(37,.v (.int .i64 y.j))])
      (fun y => [.own 900 a9 zs.length c9 ty_api_ID 1 (ints .i64 zs),.mapE 14 bm (.int .i64) (seenM y.L),.own 13 y.a y.L.length y.c ty_api_ID 1 (ints .i64 y.L),.box 1000 b [.int .i64 S.most,.slice a S.E.length c,.map (some mb)] ty_intern_Store,.own 1001 a S.E.length c ty_intern_entry 13 (ents S.E),.mapE 1002 mb kkR (mapOf S.E)])
      (fun y => y.j ≤ zs.length ∧ Bfs S id i y.L ∧ (i < y.L.length ∧ y.L.getD i 0 = x) ∧ ∀ k,k < y.j → zs.getD k 0 ∈ y.L) (fun y => zs.length - y.j) ⟨0,L,ar,cr⟩ ⟨Nat.zero_le _,hB,⟨hlt,hx⟩,fun k hk => absurd hk (Nat.not_lt_zero k)⟩ (by (repeat ((conv => whnf); refine And.intro (by first | exact rfl | exact vint_eq (by omega) | exact vint_eq (by (dsimp only; omega)) | exact vsl_eq (by omega) | exact vsl_eq (by first | (dsimp only; omega) | (simp; done) | (simp; omega))) ?_)); exact trivial) (Thin.ref (by (repeat (first | exact Thin.nil _ | exact Thin.refl _ | refine Thin.keep rfl (fun _ h => h) ?_ | refine Thin.skip ?_)))) ?_
    clear hlen hB hi
    rintro ⟨j,M,am,cm⟩ ⟨hj,hB,⟨hiM,hxM⟩,hM⟩
    dsimp only at hj hB hiM hxM hM ⊢
    have hlen := hB.len (by omega)
    by_cases hlj : j < zs.length
    · have hy := hrr j hlj
      have hyz : zs.getD j 0 ∈ refsL (atE S.E x).r := by rw [hzs]; exact getD_mem hlj
      generalize hyx : zs.getD j 0 = y at *
      have hxm : x ∈ M := by rw [← hxM]; exact getD_mem hiM
      by_cases hyM : y ∈ M
      · have hm := seen_some hyM
        (repeat' ((conv => whnf); first | rw [Int.toNat_natCast] | rw [Nat.mul_one] | rw [intOf_ints hlj,hyx] | refine lk_some hm ?_ | refine ⟨.mp 14 _,⟨rfl,rfl⟩,?_⟩ | (refine bcase_prop (fun h => ?_) (fun h => ?_) <;> try (exfalso; omega)) | (refine bcase_nprop (fun h => ?_) (fun h => ?_) <;> try (exfalso; omega)) | (refine bcase_intro (fun h => ?_) (fun h => ?_) <;> (try simp only [Bool.not_eq_true',Bool.not_eq_false',decide_eq_true_eq,decide_eq_false_iff_not,Bool.not_eq_true,Bool.not_eq_false,Decidable.not_not] at h)) | refine And.intro (by first | omega | exact rfl | assumption | exact ⟨rfl,rfl,rfl,rfl,rfl⟩ | exact ⟨rfl,rfl,rfl,rfl⟩ | exact ⟨rfl,by omega⟩ | exact oneAll_of rfl | exact ⟨rfl,oneAll_of rfl⟩ | exact Ref.refl _ | exact Thin.ref (.skip (Thin.refl _)) | exact Thin.ref (.skip (.skip (Thin.refl _))) | exact isK_ints hlj | exact ⟨rfl,rfl,_,rfl⟩ | exact ⟨rfl,Nat.le_of_ble_eq_true rfl⟩ | ((try unfold maxLen); (try simp only [List.length_nil,List.length_cons,List.length_append]); omega) | (refine ⟨rfl,?_⟩; (try simp only [List.length_nil,List.length_cons,List.length_append]); omega)) ?_ | intro _)); (all_goals (conv => whnf))
        refine loop_next ⟨j + 1,M,am,cm⟩ ⟨by ((try dsimp only); omega),hB,⟨hiM,hxM⟩,fun k hk => ?_⟩ (by ((try dsimp only); omega)) (by (repeat ((conv => whnf); refine And.intro (by first | exact rfl | exact vint_eq (by omega) | exact vint_eq (by (dsimp only; omega)) | exact vsl_eq (by omega) | exact vsl_eq (by first | (dsimp only; omega) | (simp; done) | (simp; omega))) ?_)); exact trivial) (Ref.refl _)
        rcases (show k < j ∨ k = j by have : k < j + 1 := hk; omega) with hk | rfl
        · exact hM k hk
        · rw [hyx]; exact hyM
      · have hm := seen_none hyM
        have hs := seen_set hyM
        (repeat' ((conv => whnf); first | rw [hs] | rw [Int.toNat_natCast] | rw [Nat.mul_one] | rw [intOf_ints hlj,hyx] | refine lk_none hm ?_ | refine ⟨.mp 14 _,⟨rfl,rfl⟩,?_⟩ | (refine bcase_prop (fun h => ?_) (fun h => ?_) <;> try (exfalso; omega)) | (refine bcase_nprop (fun h => ?_) (fun h => ?_) <;> try (exfalso; omega)) | (refine bcase_intro (fun h => ?_) (fun h => ?_) <;> (try simp only [Bool.not_eq_true',Bool.not_eq_false',decide_eq_true_eq,decide_eq_false_iff_not,Bool.not_eq_true,Bool.not_eq_false,Decidable.not_not] at h)) | refine And.intro (by first | omega | exact rfl | assumption | exact ⟨rfl,rfl,rfl,rfl,rfl⟩ | exact ⟨rfl,rfl,rfl,rfl⟩ | exact ⟨rfl,by omega⟩ | exact oneAll_of rfl | exact ⟨rfl,oneAll_of rfl⟩ | exact Ref.refl _ | exact Thin.ref (.skip (Thin.refl _)) | exact Thin.ref (.skip (.skip (Thin.refl _))) | exact isK_ints hlj | exact ⟨rfl,rfl,_,rfl⟩ | exact ⟨by unfold maxLen; omega,by omega⟩ | exact ⟨rfl,Nat.le_of_ble_eq_true rfl⟩ | ((try unfold maxLen); (try simp only [List.length_nil,List.length_cons,List.length_append]); omega) | (refine ⟨rfl,?_⟩; (try simp only [List.length_nil,List.length_cons,List.length_append]); omega)) ?_ | intro _)); (all_goals (conv => whnf))
        rename_i a' c'
        have hMl : (M ++ [y]).length = M.length + 1 := by simp
        refine loop_next ⟨j + 1,M ++ [y],a',c'⟩ ⟨by ((try dsimp only); omega),hB.snoc (by omega) hyM (by omega) (by omega) hxm hyz,⟨by ((try dsimp only); omega),by rw [getD_append_left hiM]; exact hxM⟩,fun k hk => ?_⟩ (by ((try dsimp only); omega)) ?_ ?_
        · rcases (show k < j ∨ k = j by have : k < j + 1 := hk; omega) with hk | rfl
          · exact List.mem_append_left _ (hM k hk)
          · rw [hyx]; exact List.mem_append_right _ (by simp)
        · dsimp only
          rw [hMl]
          (repeat ((conv => whnf); refine And.intro (by first | exact rfl | exact vint_eq (by omega) | exact vint_eq (by (dsimp only; omega)) | exact vsl_eq (by omega) | exact vsl_eq (by first | (dsimp only; omega) | (simp; done) | (simp; omega))) ?_)); exact trivial
        · dsimp only
          rw [hMl,← Go.EG.ints_snoc]
          exact Thin.ref (.skip (Thin.refl _))
    · have hjz : j = zs.length := by omega
      (repeat' ((conv => whnf); first | (refine bcase_prop (fun h => ?_) (fun h => ?_) <;> try (exfalso; omega)) | (refine bcase_nprop (fun h => ?_) (fun h => ?_) <;> try (exfalso; omega)) | (refine bcase_intro (fun h => ?_) (fun h => ?_) <;> (try simp only [Bool.not_eq_true',Bool.not_eq_false',decide_eq_true_eq,decide_eq_false_iff_not,Bool.not_eq_true,Bool.not_eq_false,Decidable.not_not] at h)) | refine And.intro (by first | omega | exact rfl | assumption | exact ⟨rfl,rfl,rfl,rfl,rfl⟩ | exact ⟨rfl,rfl,rfl,rfl⟩ | exact ⟨rfl,by omega⟩ | exact oneAll_of rfl | exact ⟨rfl,oneAll_of rfl⟩ | exact Ref.refl _ | exact Thin.ref (.skip (Thin.refl _)) | exact Thin.ref (.skip (.skip (Thin.refl _))) | exact ⟨rfl,Nat.le_of_ble_eq_true rfl⟩ | ((try unfold maxLen); (try simp only [List.length_nil,List.length_cons,List.length_append]); omega) | (refine ⟨rfl,?_⟩; (try simp only [List.length_nil,List.length_cons,List.length_append]); omega)) ?_ | intro _)); (all_goals (conv => whnf))
      refine loop_next ⟨i + 1,M,am,cm⟩ ⟨by ((try dsimp only); omega),hB.next fun y hy => ?_⟩ (by ((try dsimp only); omega)) (by (repeat ((conv => whnf); refine And.intro (by first | exact rfl | exact vint_eq (by omega) | exact vint_eq (by (dsimp only; omega)) | exact vsl_eq (by omega) | exact vsl_eq (by first | (dsimp only; omega) | (simp; done) | (simp; omega))) ?_)); exact trivial) (Thin.ref (.skip (Thin.refl _)))
      rw [hxM,hzs] at hy
      obtain ⟨k,hk,rfl⟩ := List.getElem_of_mem hy
      have := hM k (by omega)
      rwa [List.getD_eq_getElem?_getD,List.getElem?_eq_getElem hk] at this
  · have hil : i = L.length := by omega
    subst hil
    have hpos : 0 < L.length := List.length_pos_of_mem hB.top
    have hbig : L.length < 4611686018427387904 := by omega
    (repeat' ((conv => whnf); first | refine CallK_sort (key := 13) (zs := L) hs rfl rfl hpos hbig ?_ | refine ⟨_,⟨rfl,trivial⟩,?_⟩ | (refine bcase_prop (fun h => ?_) (fun h => ?_) <;> try (exfalso; omega)) | (refine bcase_nprop (fun h => ?_) (fun h => ?_) <;> try (exfalso; omega)) | (refine bcase_intro (fun h => ?_) (fun h => ?_) <;> (try simp only [Bool.not_eq_true',Bool.not_eq_false',decide_eq_true_eq,decide_eq_false_iff_not,Bool.not_eq_true,Bool.not_eq_false,Decidable.not_not] at h)) | refine And.intro (by first | omega | exact rfl | assumption | exact ⟨rfl,rfl,rfl,rfl,rfl⟩ | exact ⟨rfl,rfl,rfl,rfl⟩ | exact ⟨rfl,by omega⟩ | exact oneAll_of rfl | exact ⟨rfl,oneAll_of rfl⟩ | exact Ref.refl _ | exact Thin.ref (.skip (Thin.refl _)) | exact Thin.ref (.skip (.skip (Thin.refl _))) | exact ⟨rfl,Nat.le_of_ble_eq_true rfl⟩ | ((try unfold maxLen); (try simp only [List.length_nil,List.length_cons,List.length_append]); omega) | (refine ⟨rfl,?_⟩; (try simp only [List.length_nil,List.length_cons,List.length_append]); omega)) ?_ | intro _)); (all_goals (conv => whnf))
    have hml : (L.mergeSort (· ≤ ·)).length = L.length := List.length_mergeSort L
    exact ⟨⟨_,(Thin.ref (.skip (.own (k' := 811) hml.symm rfl (Thin.refl _)))).trans ((Ref.perm (List.perm_append_comm (l₁ := [_]))).trans (Ref.packs (key := key) (f := fS b S) (a,c,mb) (Thin.refl _))),L.mergeSort (· ≤ ·),ar,cr,fps (fS b S (a,c,mb)),hB.done,by rw [hml],rfl⟩⟩
theorem calls_reach0 (b : Nat) (w : World) (key : Nat) (fp : List Nat) (S : Sto) (hR : StR w key fp b S) :
    Calls Tryz.prog fn_P_intern_Store_reach #[pS b,.int .i64 0] w fun e w' => ∃ v L1,e = .returned v ∧ R w fp L1 w' ∧ rchQ key b S 0 v L1 := by
  refine part_call [.ptr 1000 b 0,.v (.int .i64 0)] ok_P_intern_Store_reach (by simp) hR ?_
  (repeat' ((conv => whnf); first | (refine bcase_prop (fun h => ?_) (fun h => ?_) <;> try (exfalso; omega)) | (refine bcase_nprop (fun h => ?_) (fun h => ?_) <;> try (exfalso; omega)) | (refine bcase_intro (fun h => ?_) (fun h => ?_) <;> (try simp only [Bool.not_eq_true',Bool.not_eq_false',decide_eq_true_eq,decide_eq_false_iff_not,Bool.not_eq_true,Bool.not_eq_false,Decidable.not_not] at h)) | refine And.intro (by first | omega | exact rfl | assumption | exact ⟨rfl,rfl,rfl,rfl,rfl⟩ | exact ⟨rfl,rfl,rfl,rfl⟩ | exact ⟨rfl,by omega⟩ | exact oneAll_of rfl | exact ⟨rfl,oneAll_of rfl⟩ | exact Ref.refl _ | exact Thin.ref (.skip (Thin.refl _)) | exact Thin.ref (.skip (.skip (Thin.refl _))) | exact ⟨rfl,Nat.le_of_ble_eq_true rfl⟩ | ((try unfold maxLen); (try simp only [List.length_nil,List.length_cons,List.length_append]); omega) | (refine ⟨rfl,?_⟩; (try simp only [List.length_nil,List.length_cons,List.length_append]); omega)) ?_ | intro _)); (all_goals (conv => whnf))
  exact ⟨⟨_,(Ref.ownNil 811 ty_api_ID 1).trans (Ref.perm (.swap _ _ _)),[],none,0,fp,Rch.nil,rfl,rfl⟩⟩
theorem calls_reachT (hs : SortsI Tryz.prog fn_slices_Sort_Sl_api_ID_api_ID) (b : Nat) (S : Sto) (hw : WF S) (id : Int) (hk : known S id) (key : Nat) (fp : List Nat) (w : World) (hR : StR w key fp b S) :
    Calls Tryz.prog fn_P_intern_Store_reach #[pS b,.int .i64 id] w fun e w' => ∃ v L1,e = .returned v ∧ R w fp L1 w' ∧ rchQ key b S id v L1 := by
  by_cases h0 : id = 0
  · subst h0; exact calls_reach0 b w key fp S hR
  · exact calls_reach hs b S hw id (by have := hk.1; omega) hk.2 key fp w hR
def xpQ (key b : Nat) (S : Sto) (id : Int) (v : Value) (L1 : List Ent) : Prop :=
  ∃ L a c fp',Rch S id L ∧ v = .tuple #[.slice a (xg S L).length c,.nilIface] ∧ L1 = [packE key fp' (fS b S),.own 812 a (xg S L).length c ty_api_Rule 5 (rulsC (xg S L))]
structure XpG where
  i : Nat
  a : Option Addr
  c : Nat
theorem calls_Export (hs : SortsI Tryz.prog fn_slices_Sort_Sl_api_ID_api_ID) (b : Nat) (S : Sto) (hw : WF S) (id : Int) (hk : known S id) (key : Nat) (fp : List Nat) (w : World) (hR : StR w key fp b S) :
    Calls Tryz.prog fn_P_intern_Store_Export #[pS b,.int .i64 id] w fun e w' => ∃ v L1,e = .returned v ∧ R w fp L1 w' ∧ xpQ key b S id v L1 := by
  refine part_call [.v (pS b),.v (.int .i64 id)] ok_P_intern_Store_Export (by simp) (hR.key 77) ?_
  have c1 := calls_knownT b S hk
  have c2 := calls_reachT hs b S hw id hk
  have hsm := hw.small
  (repeat' ((conv => whnf); first | (refine CallK_pack (key := 77) rfl (fun w hR h0 => c1 _ _ _ h0) ?_; rintro _ _ ⟨rfl,fp',rfl⟩; refine ⟨.v _,rfl,?_⟩) | (refine CallK_packO (key := 77) 77 (fS b S) rfl (fun w hR h0 => c2 _ _ _ h0) ?_; rintro _ _ ⟨L,aL,cL,fp',hL,rfl,rfl⟩; refine ⟨_,_,rfl,?_⟩; rintro ⟨a,c,mb⟩ w' hRu; rw [fS_eq] at hRu ⊢; have hLl := hL.small hw hk; refine ⟨.v _,rfl,?_⟩) | (refine bcase_prop (fun h => ?_) (fun h => ?_) <;> try (exfalso; omega)) | (refine bcase_nprop (fun h => ?_) (fun h => ?_) <;> try (exfalso; omega)) | (refine bcase_intro (fun h => ?_) (fun h => ?_) <;> (try simp only [Bool.not_eq_true',Bool.not_eq_false',decide_eq_true_eq,decide_eq_false_iff_not,Bool.not_eq_true,Bool.not_eq_false,Decidable.not_not] at h)) | refine And.intro (by first | omega | exact rfl | assumption | exact ⟨rfl,rfl,rfl,rfl,rfl⟩ | exact ⟨rfl,rfl,rfl,rfl⟩ | exact ⟨rfl,by omega⟩ | exact oneAll_of rfl | exact ⟨rfl,oneAll_of rfl⟩ | exact Ref.refl _ | exact Thin.ref (.skip (Thin.refl _)) | exact Thin.ref (.skip (.skip (Thin.refl _))) | exact ⟨by omega,by omega,by omega,by unfold maxLen; omega⟩ | exact ⟨rfl,Nat.le_of_ble_eq_true rfl⟩ | ((try unfold maxLen); (try simp only [List.length_nil,List.length_cons,List.length_append]); omega) | (refine ⟨rfl,?_⟩; (try simp only [List.length_nil,List.length_cons,List.length_append]); omega)) ?_ | intro _)); (all_goals (conv => whnf))
  rename_i bm b8
  refine VC_loop XpG (fun x => [(0,.ptr 1000 b 0),(7,.mp 25 bm),(8,.sl 28 x.a x.i x.c),(29,.v (.slice aL L.length cL)),(30,.v (.int .i64 L.length)),(31,.v (.int .i64 x.i))])
    (fun x => [.own 28 x.a x.i x.c ty_api_Rule 5 (rulsC ((xg S L).take x.i)),.mapE 25 bm (.int .i64) (numM 0 (L.take x.i)),.box 1000 b [.int .i64 S.most,.slice a S.E.length c,.map (some mb)] ty_intern_Store,.own 1001 a S.E.length c ty_intern_entry 13 (ents S.E),.mapE 1002 mb kkR (mapOf S.E),.own 811 aL L.length cL ty_api_ID 1 (ints .i64 L)])
    (fun x => x.i ≤ L.length) (fun x => L.length - x.i) ⟨0,_,_⟩ (Nat.zero_le _) (by (repeat ((conv => whnf); refine And.intro (by first | exact rfl | exact vint_eq (by omega) | exact vint_eq (by (dsimp only; omega)) | exact vsl_eq (by omega) | exact vsl_eq (by first | (dsimp only; omega) | (simp; done) | (simp; omega))) ?_)); exact trivial) (Thin.ref (Thin.refl _)) ?_
  rintro ⟨i,a8,c8⟩ hi
  dsimp only at hi ⊢
  by_cases hlt : i < L.length
  · have hmem := getD_mem hlt
    obtain ⟨p1,p2⟩ := hL.pos _ hmem
    have hid := hk.2
    have hne := own_ne (key := 1001) hRu rfl (by omega)
    have hneL := own_ne (key := 811) hRu rfl (by omega)
    have hx0 : L.getD i 0 ∉ L.take i := fun hm => by
      obtain ⟨j,hj,he⟩ := List.getElem_of_mem hm
      rw [List.length_take] at hj
      have := asc_get hL.asc (i := j) (j := i) (by omega) hlt
      rw [List.getElem_take] at he
      rw [show L.getD j 0 = L[j] by rw [List.getD_eq_getElem?_getD,List.getElem?_eq_getElem (by omega)]; rfl] at this
      omega
    have hnum := num_set (n := 0) hx0
    rw [← take_snoc (d := 0) hlt,List.length_take,Nat.min_eq_left (by omega)] at hnum
    have hsn : rulsC ((xg S L).take i) ++ ruC (ren L (atE S.E (L.getD i 0)).r) = rulsC ((xg S L).take (i + 1)) := by
      rw [rulsC_snoc,take_snoc (d := rul0) (by rw [xg_length]; exact hlt),xg,getD_map (d := 0) hlt]
    have hok := hw.okAt p1 (by omega)
    have hlk : ∀ y,y ∈ refsL (atE S.E (L.getD i 0)).r → y < L.getD i 0 → mget (numM 0 (L.take (i + 1))) (.int .i64 y) = some (.int .i64 (posn L y)) := by
      intro y hy hlt'
      have hyL := hL.cls _ hmem y hy
      have hx := asc_idx hL.asc hlt hyL hlt'
      have hyt : y ∈ L.take (i + 1) := by
        have h2 := idxOf_getD hyL
        rw [List.mem_take_iff_getElem]
        refine ⟨L.idxOf y,by omega,?_⟩
        have := h2.2
        rw [List.getD_eq_getElem?_getD,List.getElem?_eq_getElem h2.1] at this
        exact this
      rw [num_some hyt,posn_mem hyL]
      have : (L.take (i + 1)).idxOf y = L.idxOf y := by
        conv => rhs; rw [← List.take_append_drop (i + 1) L]
        rw [List.idxOf_append,if_pos hyt]
      rw [this]
      congr 2
      push_cast; omega
    have hl0 : mget (numM 0 (L.take (i + 1))) (.int .i64 0) = none := num_none fun h0 => by
      have := (hL.pos 0 (List.mem_of_mem_take h0)).1; omega
    have hn0 : posn L 0 = 0 := posn_not fun h0 => by have := (hL.pos 0 h0).1; omega
    have hr1 : (ints .i64 L)[i]? = some (.int .i64 (L.getD i 0)) := ints_getD hlt
    have hat := ents_rule (E := S.E) (i := (L.getD i 0).toNat - 1) (by omega)
    have hxe : ((L.getD i 0 - 1).toNat) = (L.getD i 0).toNat - 1 := by omega
    have hae : S.E.getD ((L.getD i 0).toNat - 1) ent0 = atE S.E (L.getD i 0) := (atE_pos (by omega)).symm
    rw [hae] at hat
    have hc1 : (i : Int) + 1 = ((0 + i + 1 : Nat) : Int) := by omega
    generalize hx : L.getD i 0 = x at *
    generalize hrr : (atE S.E x).r = r at *
    obtain ⟨rk,rl,ra,rb,rt⟩ := r
    have h3 := hok
    unfold okR at h3
    rcases h3 with ⟨k1,k2,k3,_⟩ | ⟨k1,k2,k3,k4,k5,k6,k7⟩ | ⟨k1,k2,k3,k4,k5,k6⟩
    · simp only at k1 k2 k3
      subst k1 k2 k3
      simp only [ren,hn0] at hsn
      (repeat' ((conv => whnf); first | rw [hc1,hnum] | rw [hxe] | rw [Int.toNat_natCast] | rw [Nat.mul_one] | refine ⟨_,rdO 811 rfl hr1,?_⟩ | refine ⟨ruC ⟨_,_,_,_,_⟩,rfl,Rd.own (key := 1001) rfl (Nat.succ_pos _) hat,?_⟩ | refine lk_none hl0 ?_ | refine ⟨.mp 25 _,⟨rfl,rfl⟩,?_⟩ | refine ⟨_,⟨rfl,trivial⟩,?_⟩ | refine stop_and ?_ ?_ | (refine bcase_prop (fun h => ?_) (fun h => ?_) <;> try (exfalso; omega)) | (refine bcase_nprop (fun h => ?_) (fun h => ?_) <;> try (exfalso; omega)) | (refine bcase_intro (fun h => ?_) (fun h => ?_) <;> (try simp only [Bool.not_eq_true',Bool.not_eq_false',decide_eq_true_eq,decide_eq_false_iff_not,Bool.not_eq_true,Bool.not_eq_false,Decidable.not_not] at h)) | refine And.intro (by first | omega | exact rfl | assumption | exact ⟨rfl,rfl,rfl,rfl,rfl⟩ | exact ⟨rfl,rfl,rfl,rfl⟩ | exact ⟨rfl,by omega⟩ | exact oneAll_of rfl | exact ⟨rfl,oneAll_of rfl⟩ | exact Ref.refl _ | exact Thin.ref (.skip (Thin.refl _)) | exact Thin.ref (.skip (.skip (Thin.refl _))) | exact hne | exact hneL | exact fun h => absurd h Bool.false_ne_true | exact fun _ => Ref.refl _ | exact ⟨rfl,rfl,_,rfl⟩ | exact ⟨by unfold maxLen; omega,by omega⟩ | exact ⟨rfl,Nat.le_of_ble_eq_true rfl⟩ | ((try unfold maxLen); (try simp only [List.length_nil,List.length_cons,List.length_append]); omega) | (refine ⟨rfl,?_⟩; (try simp only [List.length_nil,List.length_cons,List.length_append]); omega)) ?_ | intro _)); (all_goals (conv => whnf))
      all_goals
        rename_i a' c'
        exact loop_next ⟨i + 1,a',c'⟩ (by ((try dsimp only); omega)) (by ((try dsimp only); omega)) (by (repeat ((conv => whnf); refine And.intro (by first | exact rfl | exact vint_eq (by omega) | exact vint_eq (by (dsimp only; omega)) | exact vsl_eq (by omega) | exact vsl_eq (by first | (dsimp only; omega) | (simp; done) | (simp; omega))) ?_)); exact trivial) (Thin.ref (.skip (.skip (.own rfl hsn (Thin.refl _)))))
    · simp only at k1
      subst k1
      have ha := hlk ra (by rw [refs_two rfl]; simp) k5
      have hb := hlk rb (by rw [refs_two rfl]; simp) k7
      simp only [ren] at hsn
      (repeat' ((conv => whnf); first | rw [hc1,hnum] | rw [hxe] | rw [Int.toNat_natCast] | rw [Nat.mul_one] | refine ⟨_,rdO 811 rfl hr1,?_⟩ | refine ⟨ruC ⟨_,_,_,_,_⟩,rfl,Rd.own (key := 1001) rfl (Nat.succ_pos _) hat,?_⟩ | refine lk_some ha ?_ | refine lk_some hb ?_ | refine ⟨.mp 25 _,⟨rfl,rfl⟩,?_⟩ | refine ⟨_,⟨rfl,trivial⟩,?_⟩ | refine stop_and ?_ ?_ | (refine bcase_prop (fun h => ?_) (fun h => ?_) <;> try (exfalso; omega)) | (refine bcase_nprop (fun h => ?_) (fun h => ?_) <;> try (exfalso; omega)) | (refine bcase_intro (fun h => ?_) (fun h => ?_) <;> (try simp only [Bool.not_eq_true',Bool.not_eq_false',decide_eq_true_eq,decide_eq_false_iff_not,Bool.not_eq_true,Bool.not_eq_false,Decidable.not_not] at h)) | refine And.intro (by first | omega | exact rfl | assumption | exact ⟨rfl,rfl,rfl,rfl,rfl⟩ | exact ⟨rfl,rfl,rfl,rfl⟩ | exact ⟨rfl,by omega⟩ | exact oneAll_of rfl | exact ⟨rfl,oneAll_of rfl⟩ | exact Ref.refl _ | exact Thin.ref (.skip (Thin.refl _)) | exact Thin.ref (.skip (.skip (Thin.refl _))) | exact hne | exact hneL | exact fun h => absurd h Bool.false_ne_true | exact fun _ => Ref.refl _ | exact ⟨rfl,rfl,_,rfl⟩ | exact ⟨by unfold maxLen; omega,by omega⟩ | exact ⟨rfl,Nat.le_of_ble_eq_true rfl⟩ | ((try unfold maxLen); (try simp only [List.length_nil,List.length_cons,List.length_append]); omega) | (refine ⟨rfl,?_⟩; (try simp only [List.length_nil,List.length_cons,List.length_append]); omega)) ?_ | intro _)); (all_goals (conv => whnf))
      all_goals
        rename_i a' c'
        exact loop_next ⟨i + 1,a',c'⟩ (by ((try dsimp only); omega)) (by ((try dsimp only); omega)) (by (repeat ((conv => whnf); refine And.intro (by first | exact rfl | exact vint_eq (by omega) | exact vint_eq (by (dsimp only; omega)) | exact vsl_eq (by omega) | exact vsl_eq (by first | (dsimp only; omega) | (simp; done) | (simp; omega))) ?_)); exact trivial) (Thin.ref (.skip (.skip (.own rfl hsn (Thin.refl _)))))
    · simp only at k1 k3
      subst k1 k3
      have ha := hlk ra (by rw [refs_one rfl]; simp) k6
      simp only [ren,hn0] at hsn
      (repeat' ((conv => whnf); first | rw [hc1,hnum] | rw [hxe] | rw [Int.toNat_natCast] | rw [Nat.mul_one] | refine ⟨_,rdO 811 rfl hr1,?_⟩ | refine ⟨ruC ⟨_,_,_,_,_⟩,rfl,Rd.own (key := 1001) rfl (Nat.succ_pos _) hat,?_⟩ | refine lk_none hl0 ?_ | refine lk_some ha ?_ | refine ⟨.mp 25 _,⟨rfl,rfl⟩,?_⟩ | refine ⟨_,⟨rfl,trivial⟩,?_⟩ | refine stop_and ?_ ?_ | (refine bcase_prop (fun h => ?_) (fun h => ?_) <;> try (exfalso; omega)) | (refine bcase_nprop (fun h => ?_) (fun h => ?_) <;> try (exfalso; omega)) | (refine bcase_intro (fun h => ?_) (fun h => ?_) <;> (try simp only [Bool.not_eq_true',Bool.not_eq_false',decide_eq_true_eq,decide_eq_false_iff_not,Bool.not_eq_true,Bool.not_eq_false,Decidable.not_not] at h)) | refine And.intro (by first | omega | exact rfl | assumption | exact ⟨rfl,rfl,rfl,rfl,rfl⟩ | exact ⟨rfl,rfl,rfl,rfl⟩ | exact ⟨rfl,by omega⟩ | exact oneAll_of rfl | exact ⟨rfl,oneAll_of rfl⟩ | exact Ref.refl _ | exact Thin.ref (.skip (Thin.refl _)) | exact Thin.ref (.skip (.skip (Thin.refl _))) | exact hne | exact hneL | exact fun h => absurd h Bool.false_ne_true | exact fun _ => Ref.refl _ | exact ⟨rfl,rfl,_,rfl⟩ | exact ⟨by unfold maxLen; omega,by omega⟩ | exact ⟨rfl,Nat.le_of_ble_eq_true rfl⟩ | ((try unfold maxLen); (try simp only [List.length_nil,List.length_cons,List.length_append]); omega) | (refine ⟨rfl,?_⟩; (try simp only [List.length_nil,List.length_cons,List.length_append]); omega)) ?_ | intro _)); (all_goals (conv => whnf))
      all_goals
        rename_i a' c'
        exact loop_next ⟨i + 1,a',c'⟩ (by ((try dsimp only); omega)) (by ((try dsimp only); omega)) (by (repeat ((conv => whnf); refine And.intro (by first | exact rfl | exact vint_eq (by omega) | exact vint_eq (by (dsimp only; omega)) | exact vsl_eq (by omega) | exact vsl_eq (by first | (dsimp only; omega) | (simp; done) | (simp; omega))) ?_)); exact trivial) (Thin.ref (.skip (.skip (.own rfl hsn (Thin.refl _)))))
  · have hil : i = L.length := by omega
    subst hil
    have hxl : (xg S L).length = L.length := xg_length S L
    have hxt : (xg S L).take L.length = xg S L := List.take_of_length_le (by rw [hxl]; exact Nat.le_refl _)
    (repeat' ((conv => whnf); first | (refine bcase_prop (fun h => ?_) (fun h => ?_) <;> try (exfalso; omega)) | (refine bcase_nprop (fun h => ?_) (fun h => ?_) <;> try (exfalso; omega)) | (refine bcase_intro (fun h => ?_) (fun h => ?_) <;> (try simp only [Bool.not_eq_true',Bool.not_eq_false',decide_eq_true_eq,decide_eq_false_iff_not,Bool.not_eq_true,Bool.not_eq_false,Decidable.not_not] at h)) | refine And.intro (by first | omega | exact rfl | assumption | exact ⟨rfl,rfl,rfl,rfl,rfl⟩ | exact ⟨rfl,rfl,rfl,rfl⟩ | exact ⟨rfl,by omega⟩ | exact oneAll_of rfl | exact ⟨rfl,oneAll_of rfl⟩ | exact Ref.refl _ | exact Thin.ref (.skip (Thin.refl _)) | exact Thin.ref (.skip (.skip (Thin.refl _))) | exact ⟨rfl,Nat.le_of_ble_eq_true rfl⟩ | ((try unfold maxLen); (try simp only [List.length_nil,List.length_cons,List.length_append]); omega) | (refine ⟨rfl,?_⟩; (try simp only [List.length_nil,List.length_cons,List.length_append]); omega)) ?_ | intro _)); (all_goals (conv => whnf))
    refine ⟨⟨_,(Thin.ref (.own (k' := 812) hxl.symm (congrArg rulsC hxt) (.skip (.keep rfl (fun _ h => h) (.keep rfl (fun _ h => h) (.keep rfl (fun _ h => h) (.nil _))))))).trans ((Ref.perm (List.perm_append_comm (l₁ := [_]))).trans (Ref.packs (key := key) (f := fS b S) (a,c,mb) (Thin.refl _))),L,a8,c8,fps (fS b S (a,c,mb)),hL,by rw [hxl],rfl⟩⟩
end Go.Proofs.YtkkhpdkfploodaaGreatDoor
