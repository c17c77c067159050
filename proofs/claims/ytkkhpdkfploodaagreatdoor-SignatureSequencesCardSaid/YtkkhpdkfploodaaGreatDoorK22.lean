/- Runs from the left, one more at a time. Plain Lean: no program in sight. -/
import Derived.Test.YtkkhpdkfploodaaGreatDoorK16
import Derived.Test.YtkkhpdkfploodaaGreatDoorK5
import Derived.Test.YtkkhpdkfploodaaGreatDoorK20
import Derived.Test.YtkkhpdkfploodaaGreatDoorK21
namespace Go.Proofs.YtkkhpdkfploodaaGreatDoor
open Go.EG
set_option linter.unusedSimpArgs false
set_option linter.unusedVariables false
theorem pushI_cons (g h : Int × Int) (q : List (Int × Int)) (x t : Int) : pushI (g :: h :: q) x t = g :: pushI (h :: q) x t := by
  rcases List.eq_nil_or_concat (h :: q) with e | ⟨l,⟨y,u⟩,e⟩
  · cases e
  · rw [List.concat_eq_append] at e
    rw [e,← List.cons_append,pushI_snoc,pushI_snoc]
    split <;> rfl
theorem runs_snoc (x : Int) : ∀ xs : List Int,runs (xs ++ [x]) = pushI (runs xs) x 1
  | [] => rfl
  | y :: ys => by
    have ih := runs_snoc x ys
    have e1 : runs (y :: (ys ++ [x])) = match runs (ys ++ [x]) with
      | [] => [(y,1)]
      | (z,t) :: q => if y = z then (z,t + 1) :: q else (y,1) :: (z,t) :: q := rfl
    have e2 : runs (y :: ys) = match runs ys with
      | [] => [(y,1)]
      | (z,t) :: q => if y = z then (z,t + 1) :: q else (y,1) :: (z,t) :: q := rfl
    rw [List.cons_append,e1,e2,ih]
    cases hr : runs ys with
    | nil =>
      simp only [pushI,List.getLast?_nil,List.getLast?_singleton]
      by_cases hyx : y = x
      · rw [if_pos hyx,if_pos hyx,hyx]; rfl
      · rw [if_neg hyx,if_neg hyx]; rfl
    | cons g q =>
      obtain ⟨z,t⟩ := g
      cases q with
      | nil =>
        simp only
        by_cases hyz : y = z
        · subst hyz
          simp only [pushI,List.getLast?_singleton,if_true,List.dropLast_singleton,List.nil_append,List.singleton_append]
          by_cases hyx : y = x
          · rw [if_pos hyx,if_pos hyx]
            simp only [if_true]
          · rw [if_neg hyx,if_neg hyx]
            simp only [if_true]
        · rw [if_neg hyz,pushI_cons]
          simp only [pushI,List.getLast?_singleton,List.dropLast_singleton,List.nil_append,List.singleton_append]
          by_cases hzx : z = x
          · rw [if_pos hzx]
            simp only [if_neg hyz]
          · rw [if_neg hzx]
            simp only [if_neg hyz]
      | cons h q =>
        rw [pushI_cons]
        simp only
        by_cases hyz : y = z
        · rw [if_pos hyz,if_pos hyz,pushI_cons]
        · rw [if_neg hyz,if_neg hyz,pushI_cons,pushI_cons]
theorem pushI_last (gl : List (Int × Int)) (x t : Int) : ∃ l u,pushI gl x t = l ++ [(x,u)] := by
  rcases List.eq_nil_or_concat gl with rfl | ⟨l,⟨y,u⟩,rfl⟩
  · exact ⟨[],t,rfl⟩
  · rw [List.concat_eq_append,pushI_snoc]
    split
    · rename_i h
      exact ⟨l,u + t,by rw [h]⟩
    · exact ⟨l ++ [(y,u)],t,by simp⟩
theorem runs_last (xs : List Int) (x : Int) : ∃ l u,runs (xs ++ [x]) = l ++ [(x,u)] := by rw [runs_snoc]; exact pushI_last _ _ _
theorem ruls_snoc (E : List Entr) (x : Entr) : ruls (E ++ [x]) = ruls E ++ [x.r] := by simp [ruls]
theorem putNew {S : Sto} {r : Rul} (h0 : idOf r S.E = 0) (hroom : S.E.length < S.most) : stPut S r = (addS S (mkE S.E r),((S.E.length + 1 : Nat) : Int),0) := by
  unfold stPut
  rw [if_pos h0,if_neg (by omega)]
theorem putOld {S : Sto} (hw : WF S) {r : Rul} {i : Nat} (h1 : 1 ≤ i) (h2 : i ≤ S.E.length) (h : (atE S.E i).r = r) : stPut S r = (S,(i : Int),0) := by
  have hid := (hw.at_ (n := (i : Int)) (by omega) (by omega)).2.2.2.2
  rw [h] at hid
  unfold stPut
  rw [if_neg (by omega),hid,Int.toNat_natCast]
theorem putNone {S : Sto} {r : Rul} (h : ∀ j : Nat,1 ≤ j → j ≤ S.E.length → (atE S.E j).r ≠ r) : idOf r S.E = 0 := by
  refine Decidable.byContradiction fun hc => ?_
  have := idOf_at hc
  exact h (idOf r S.E) (by omega) this.2 this.1
end Go.Proofs.YtkkhpdkfploodaaGreatDoor
/- The reference's parse: the program. -/
namespace Go.Proofs.YtkkhpdkfploodaaGreatDoor
open Go.EG
attribute [local irreducible] CallK QCall Go.Calls
set_option linter.unusedSimpArgs false
set_option linter.unusedVariables false
set_option maxRecDepth 20000
set_option maxHeartbeats 4000000
theorem rul_ext {p q : Rul} (h1 : p.k = q.k) (h2 : p.l = q.l) (h3 : p.a = q.a) (h4 : p.b = q.b) (h5 : p.t = q.t) : p = q := by
  obtain ⟨_,_,_,_,_⟩ := p
  obtain ⟨_,_,_,_,_⟩ := q
  simp only at h1 h2 h3 h4 h5
  subst h1 h2 h3 h4 h5
  rfl
abbrev fA (b : Nat) (S : Sto) (sv lv : Value) (ar : Option Addr) (cr : Nat) : List Ent := [.box 4000 b [.slice ar (S.E.length + 1) cr,sv,lv] ty_evergreenref22_Parse,.own 4001 ar (S.E.length + 1) cr ty_api_Rule 5 (rulsC (ruls S.E))]
def adQ (b : Nat) (S : Sto) (r : Rul) (sv lv : Value) (v : Value) (L1 : List Ent) : Prop :=
  ∃ S' x ar cr,Made S S' x (mkT S.E r) ∧ S'.most = S.most ∧ v = .int .i64 x ∧ L1 = fA b S' sv lv ar cr
theorem calls_add22 (b : Nat) (S : Sto) (hw : WF S) (r : Rul) (hr : Fit S r) (hroom : S.E.length < S.most) (n1 c1 : Nat) (a1 : Option Addr) (lv : Int) (ar : Option Addr) (cr : Nat) (fp : List Nat) (w : World) (hR : R w fp (fA b S (.slice a1 n1 c1) (.int .i64 lv) ar cr) w) :
    Calls Tryz.prog fn_P_evergreenref22_Parse_add #[pS b,ruV r] w fun e w' => ∃ v L1,e = .returned v ∧ R w fp L1 w' ∧ adQ b S r (.slice a1 n1 c1) (.int .i64 lv) v L1 := by
  refine part_call [.ptr 4000 b 0,.v (ruV r)] ok_P_evergreenref22_Parse_add (by simp) hR ?_
  have hsm := hw.small
  have hne := own_ne (key := 4001) hR rfl (by omega)
  (repeat' ((conv => whnf); first | (refine bcase_prop (fun h => ?_) (fun h => ?_) <;> try (exfalso; omega)) | (refine bcase_nprop (fun h => ?_) (fun h => ?_) <;> try (exfalso; omega)) | (refine bcase_intro (fun h => ?_) (fun h => ?_) <;> (try simp only [Bool.not_eq_true',Bool.not_eq_false',decide_eq_true_eq,decide_eq_false_iff_not,Bool.not_eq_true,Bool.not_eq_false,Decidable.not_not] at h)) | refine And.intro (by first | omega | exact rfl | assumption | exact ⟨rfl,rfl,rfl,rfl,rfl⟩ | exact ⟨rfl,rfl,rfl,rfl⟩ | exact ⟨rfl,by omega⟩ | exact oneAll_of rfl | exact ⟨rfl,oneAll_of rfl⟩ | exact Ref.refl _ | exact Thin.ref (.skip (Thin.refl _)) | exact Thin.ref (.skip (.skip (Thin.refl _))) | exact ⟨rfl,Nat.le_of_ble_eq_true rfl⟩ | ((try unfold maxLen); (try simp only [List.length_nil,List.length_cons,List.length_append]); omega) | (refine ⟨rfl,?_⟩; (try simp only [List.length_nil,List.length_cons,List.length_append]); omega)) ?_ | intro _)); (all_goals (conv => whnf))
  all_goals first | (exfalso; omega) | skip
  rename_i b3
  refine VC_loop Nat (fun i => [(0,.ptr 4000 b 0),(3,.ptr 3 b3 0),(5,.v (.int .i64 i))]) (fun _ => fA b S (.slice a1 n1 c1) (.int .i64 lv) ar cr ++ [.box 3 b3 (ruC r) ty_api_Rule]) (fun i => 1 ≤ i ∧ i ≤ S.E.length + 1 ∧ ∀ j : Nat,1 ≤ j → j < i → (atE S.E j).r ≠ r) (fun i => S.E.length + 1 - i) 1 ⟨Nat.le_refl _,by omega,fun j h1 h2 => by omega⟩ (by (repeat ((conv => whnf); refine And.intro (by first | exact rfl | exact vint_eq (by omega) | exact vint_eq (by (dsimp only; omega)) | exact vsl_eq (by omega) | exact vsl_eq (by first | (dsimp only; omega) | (simp; done) | (simp; omega))) ?_)); exact trivial) (Ref.takes [4000,4001,3] rfl (Thin.refl _)) ?_
  rintro i ⟨h1,h2,h3⟩
  by_cases hlt : i ≤ S.E.length
  · have hrow := rulsC_at (g := ruls S.E) (i := i) (by rw [ruls_length]; omega)
    rw [ruls_at h1 hlt] at hrow
    by_cases hrr : (atE S.E i).r = r
    · have hp := putOld hw h1 hlt hrr
      rw [hrr] at hrow
      (repeat' ((conv => whnf); first | rw [Int.toNat_natCast] | refine ⟨.sl 4001 _ _ _,⟨rfl,rfl,rfl,rfl⟩,?_⟩ | refine ldRow hrow ?_ | refine ⟨_,⟨rfl,trivial⟩,?_⟩ | (refine bcase_prop (fun h => ?_) (fun h => ?_) <;> try (exfalso; omega)) | (refine bcase_nprop (fun h => ?_) (fun h => ?_) <;> try (exfalso; omega)) | (refine bcase_intro (fun h => ?_) (fun h => ?_) <;> (try simp only [Bool.not_eq_true',Bool.not_eq_false',decide_eq_true_eq,decide_eq_false_iff_not,Bool.not_eq_true,Bool.not_eq_false,Decidable.not_not] at h)) | refine And.intro (by first | omega | exact rfl | assumption | exact ⟨rfl,rfl,rfl,rfl,rfl⟩ | exact ⟨rfl,rfl,rfl,rfl⟩ | exact ⟨rfl,by omega⟩ | exact oneAll_of rfl | exact ⟨rfl,oneAll_of rfl⟩ | exact Ref.refl _ | exact Thin.ref (.skip (Thin.refl _)) | exact Thin.ref (.skip (.skip (Thin.refl _))) | exact hne | exact ⟨rfl,Nat.le_of_ble_eq_true rfl⟩ | ((try unfold maxLen); (try simp only [List.length_nil,List.length_cons,List.length_append]); omega) | (refine ⟨rfl,?_⟩; (try simp only [List.length_nil,List.length_cons,List.length_append]); omega)) ?_ | intro _)); (all_goals (conv => whnf))
      all_goals first | (exfalso; omega) | skip
      have htm := (hw.at_ (n := (i : Int)) (by omega) (by omega)).2.2.1
      rw [hrr] at htm
      exact ⟨⟨_,Ref.takes [4000,4001] rfl (Thin.refl _),S,i,ar,cr,⟨hw,Grow.refl _,by omega,by omega,htm,by omega,.inl rfl⟩,rfl,rfl,rfl⟩⟩
    · (repeat' ((conv => whnf); first | rw [Int.toNat_natCast] | refine ⟨.sl 4001 _ _ _,⟨rfl,rfl,rfl,rfl⟩,?_⟩ | refine ldRow hrow ?_ | refine ⟨_,⟨rfl,trivial⟩,?_⟩ | (refine bcase_prop (fun h => ?_) (fun h => ?_) <;> try (exfalso; omega)) | (refine bcase_nprop (fun h => ?_) (fun h => ?_) <;> try (exfalso; omega)) | (refine bcase_intro (fun h => ?_) (fun h => ?_) <;> (try simp only [Bool.not_eq_true',Bool.not_eq_false',decide_eq_true_eq,decide_eq_false_iff_not,Bool.not_eq_true,Bool.not_eq_false,Decidable.not_not] at h)) | refine And.intro (by first | omega | exact rfl | assumption | exact ⟨rfl,rfl,rfl,rfl,rfl⟩ | exact ⟨rfl,rfl,rfl,rfl⟩ | exact ⟨rfl,by omega⟩ | exact oneAll_of rfl | exact ⟨rfl,oneAll_of rfl⟩ | exact Ref.refl _ | exact Thin.ref (.skip (Thin.refl _)) | exact Thin.ref (.skip (.skip (Thin.refl _))) | exact hne | exact ⟨rfl,Nat.le_of_ble_eq_true rfl⟩ | ((try unfold maxLen); (try simp only [List.length_nil,List.length_cons,List.length_append]); omega) | (refine ⟨rfl,?_⟩; (try simp only [List.length_nil,List.length_cons,List.length_append]); omega)) ?_ | intro _)); (all_goals (conv => whnf))
      all_goals first | (exfalso; omega) | skip
      all_goals first | (refine (hrr (rul_ext ?_ ?_ ?_ ?_ ?_)).elim <;> assumption) | skip
      all_goals exact loop_next (i + 1) ⟨by ((try dsimp only); omega),by ((try dsimp only); omega),fun j j1 j2 => by
        rcases (show j < i ∨ j = i by omega) with h | h
        · exact h3 j j1 h
        · rw [h]; exact hrr⟩ (by ((try dsimp only); omega)) (by (repeat ((conv => whnf); refine And.intro (by first | exact rfl | exact vint_eq (by omega) | exact vint_eq (by (dsimp only; omega)) | exact vsl_eq (by omega) | exact vsl_eq (by first | (dsimp only; omega) | (simp; done) | (simp; omega))) ?_)); exact trivial) (Ref.takes [4000,4001,3] rfl (Thin.refl _))
  · have h0 := putNone (S := S) (r := r) fun j j1 j2 => h3 j j1 (by omega)
    have hp := putNew h0 hroom
    (repeat' ((conv => whnf); first | refine ⟨.sl 4001 _ _ _,⟨rfl,rfl,rfl,rfl⟩,?_⟩ | refine ⟨_,⟨rfl,trivial⟩,?_⟩ | refine stop_and ?_ ?_ | (refine bcase_prop (fun h => ?_) (fun h => ?_) <;> try (exfalso; omega)) | (refine bcase_nprop (fun h => ?_) (fun h => ?_) <;> try (exfalso; omega)) | (refine bcase_intro (fun h => ?_) (fun h => ?_) <;> (try simp only [Bool.not_eq_true',Bool.not_eq_false',decide_eq_true_eq,decide_eq_false_iff_not,Bool.not_eq_true,Bool.not_eq_false,Decidable.not_not] at h)) | refine And.intro (by first | omega | exact rfl | assumption | exact ⟨rfl,rfl,rfl,rfl,rfl⟩ | exact ⟨rfl,rfl,rfl,rfl⟩ | exact ⟨rfl,by omega⟩ | exact oneAll_of rfl | exact ⟨rfl,oneAll_of rfl⟩ | exact Ref.refl _ | exact Thin.ref (.skip (Thin.refl _)) | exact Thin.ref (.skip (.skip (Thin.refl _))) | exact fun h => Bool.noConfusion h | exact fun _ => Ref.refl _ | exact ⟨rfl,Nat.le_of_ble_eq_true rfl⟩ | ((try unfold maxLen); (try simp only [List.length_nil,List.length_cons,List.length_append]); omega) | (refine ⟨rfl,?_⟩; (try simp only [List.length_nil,List.length_cons,List.length_append]); omega)) ?_ | intro _)); (all_goals (conv => whnf))
    all_goals first | (exfalso; omega) | skip
    rename_i b31 ar' cr'
    have hlen : (S.E ++ [mkE S.E r]).length = S.E.length + 1 := by simp
    have hsp := stPut_spec hw hr
    rw [hp] at hsp
    obtain ⟨q1,q2,q3,_,q5⟩ := hsp
    obtain ⟨k1,k2,k3,k4⟩ := q3 rfl
    refine ⟨⟨_,Ref.takes [4000,4001] rfl (.box ?_ (.own (k' := 4001) ?_ ?_ (.nil _))),addS S (mkE S.E r),((S.E.length + 1 : Nat) : Int),ar',cr',⟨q1,q2,k1,k2.2,k3,q5,.inr ?_⟩,rfl,?_,rfl⟩⟩
    · rw [hlen]
    · rw [hlen]
    · have := rulsC_snoc (ruls S.E) r
      rw [show ruls (addS S (mkE S.E r)).E = ruls S.E ++ [r] from ruls_snoc S.E (mkE S.E r),← this]
    · rw [show (addS S (mkE S.E r)).E = S.E ++ [mkE S.E r] from rfl,hlen]
    · congr 1; omega
structure GrG where
  i : Nat
  a : Option Addr
  c : Nat
theorem calls_Groups (w : World) (a : Option Addr) (c : Nat) (xs : List Int) (hx : In w [] a (ints .i64 xs)) (hl : xs.length ≤ 1048576) :
    Calls Tryz.prog fn_evergreenref22_Groups #[.slice a xs.length c] w (RetS ty_api_Group 2 (runs xs).length (prs .i64 (runs xs)) w) := by
  refine slice_call [.v (.slice a xs.length c)] w ok_evergreenref22_Groups (by simp) ?_
  (repeat' ((conv => whnf); first | (refine bcase_prop (fun h => ?_) (fun h => ?_) <;> try (exfalso; omega)) | (refine bcase_nprop (fun h => ?_) (fun h => ?_) <;> try (exfalso; omega)) | (refine bcase_intro (fun h => ?_) (fun h => ?_) <;> (try simp only [Bool.not_eq_true',Bool.not_eq_false',decide_eq_true_eq,decide_eq_false_iff_not,Bool.not_eq_true,Bool.not_eq_false,Decidable.not_not] at h)) | refine And.intro (by first | omega | exact rfl | assumption | exact ⟨rfl,rfl,rfl,rfl,rfl⟩ | exact ⟨rfl,rfl,rfl,rfl⟩ | exact ⟨rfl,by omega⟩ | exact oneAll_of rfl | exact ⟨rfl,oneAll_of rfl⟩ | exact Ref.refl _ | exact Thin.ref (.skip (Thin.refl _)) | exact Thin.ref (.skip (.skip (Thin.refl _))) | exact ⟨rfl,Nat.le_of_ble_eq_true rfl⟩ | ((try unfold maxLen); (try simp only [List.length_nil,List.length_cons,List.length_append]); omega) | (refine ⟨rfl,?_⟩; (try simp only [List.length_nil,List.length_cons,List.length_append]); omega)) ?_ | intro _)); (all_goals (conv => whnf))
  refine VC_loop GrG (fun y => [(0,.v (.slice a xs.length c)),(3,.sl 3 y.a (runs (xs.take y.i)).length y.c),(4,.v (.int .i64 y.i))]) (fun y => [.own 3 y.a (runs (xs.take y.i)).length y.c ty_api_Group 2 (prs .i64 (runs (xs.take y.i)))])
    (fun y => y.i ≤ xs.length) (fun y => xs.length - y.i) ⟨0,none,0⟩ (Nat.zero_le _) (by (repeat ((conv => whnf); refine And.intro (by first | exact rfl | exact vint_eq (by omega) | exact vint_eq (by (dsimp only; omega)) | exact vsl_eq (by omega) | exact vsl_eq (by first | (dsimp only; omega) | (simp; done) | (simp; omega))) ?_)); exact trivial) ((Ref.ownNil 3 ty_api_Group 2).trans (Ref.takes [3] rfl (Thin.refl _))) ?_
  rintro ⟨i,a3,c3⟩ hi
  dsimp only at hi ⊢
  by_cases hlt : i < xs.length
  · have hne := neI hx (by omega)
    have r1 := fun {L : List Ent} => rdI (L := L) hx hlt
    have htk : xs.take (i + 1) = xs.take i ++ [xs.getD i 0] := take_nextD hlt
    have hru := runs_snoc (xs.getD i 0) (xs.take i)
    rw [← htk] at hru
    have hrl := runs_length (xs.take i)
    rw [List.length_take] at hrl
    by_cases hi0 : i = 0
    · subst hi0
      have hru2 : runs (xs.take (0 + 1)) = [(xs.getD 0 0,1)] := by rw [hru]; rfl
      (repeat' ((conv => whnf); first | refine ⟨_,r1,?_⟩ | rw [Int.toNat_natCast] | rw [Nat.mul_one] | (refine bcase_prop (fun h => ?_) (fun h => ?_) <;> try (exfalso; omega)) | (refine bcase_nprop (fun h => ?_) (fun h => ?_) <;> try (exfalso; omega)) | (refine bcase_intro (fun h => ?_) (fun h => ?_) <;> (try simp only [Bool.not_eq_true',Bool.not_eq_false',decide_eq_true_eq,decide_eq_false_iff_not,Bool.not_eq_true,Bool.not_eq_false,Decidable.not_not] at h)) | refine And.intro (by first | omega | exact rfl | assumption | exact ⟨rfl,rfl,rfl,rfl,rfl⟩ | exact ⟨rfl,rfl,rfl,rfl⟩ | exact ⟨rfl,by omega⟩ | exact oneAll_of rfl | exact ⟨rfl,oneAll_of rfl⟩ | exact Ref.refl _ | exact Thin.ref (.skip (Thin.refl _)) | exact Thin.ref (.skip (.skip (Thin.refl _))) | exact hne | exact ⟨rfl,Nat.le_of_ble_eq_true rfl⟩ | ((try unfold maxLen); (try simp only [List.length_nil,List.length_cons,List.length_append]); omega) | (refine ⟨rfl,?_⟩; (try simp only [List.length_nil,List.length_cons,List.length_append]); omega)) ?_ | intro _)); (all_goals (conv => whnf))
      all_goals first | (exfalso; omega) | skip
      rename_i b' a' c'
      have hq : (runs (xs.take (0 + 1))).length = (runs (xs.take 0)).length + 1 := by rw [hru2]; rfl
      refine loop_next ⟨0 + 1,a',c'⟩ (by ((try dsimp only); omega)) (by ((try dsimp only); omega)) ?_ (Ref.takes [3] rfl (.own hq.symm (by rw [hru2]; rfl) (.nil _)))
      dsimp only
      rw [hq]
      (repeat ((conv => whnf); refine And.intro (by first | exact rfl | exact vint_eq (by omega) | exact vint_eq (by (dsimp only; omega)) | exact vsl_eq (by omega) | exact vsl_eq (by first | (dsimp only; omega) | (simp; done) | (simp; omega))) ?_)); exact trivial
    · have hi1 : i - 1 < xs.length := by omega
      have hprev : xs.take i = xs.take (i - 1) ++ [xs.getD (i - 1) 0] := by
        have := take_nextD (d := (0 : Int)) hi1
        rwa [show i - 1 + 1 = i by omega] at this
      obtain ⟨l,u,hlu⟩ := runs_last (xs.take (i - 1)) (xs.getD (i - 1) 0)
      rw [← hprev] at hlu
      have r2 := fun {L : List Ent} => rdI (L := L) hx hi1
      have hne3 : ((i : Int) - 1).toNat = i - 1 := by omega
      have hex := expand_runs (xs.take i)
      rw [hlu] at hex hru hrl ⊢
      have hul : u.toNat ≤ i := by
        have := congrArg List.length hex
        simp only [expand,List.flatMap_append,List.flatMap_cons,List.flatMap_nil,List.length_append,List.length_replicate,List.append_nil,List.length_take] at this
        omega
      have hup : 1 ≤ u := by
        have := runs_pos (xs.take i) (xs.getD (i - 1) 0,u) (by rw [hlu]; simp)
        exact this
      rw [pushI_snoc] at hru
      generalize xs.getD i 0 = x at *
      generalize xs.getD (i - 1) 0 = y at *
      have hn : (l ++ [(y,u)]).length = l.length + 1 := by simp
      have e2 : Go.EG.intOf (atL (prs .i64 (l ++ [(y,u)])) (l.length * 2 + 1)) = u := by rw [intOf_prs2 (by omega),getD_snoc rfl]
      have k2 := isK_prs2 (k := .i64) (l := l ++ [(y,u)]) (i := l.length) (by omega)
      have hii : ((((l ++ [(y,u)]).length : Nat) : Int) - 1).toNat = l.length := by omega
      have hsp := prs_last (k := .i64) l y u (u + 1)
      have hb2 : l.length * 2 + 1 + 1 ≤ (prs .i64 (l ++ [(y,u)])).length := by rw [prs_len]; omega
      by_cases hyx : y = x
      · rw [if_pos hyx] at hru
        subst hyx
        have hq : (runs (xs.take (i + 1))).length = (l ++ [(y,u)]).length := by rw [hru]; simp
        (repeat' ((conv => whnf); first | refine ⟨_,r1,?_⟩ | rw [hne3] | refine ⟨_,r2,?_⟩ | rw [hii] | rw [e2] | rw [hsp] | rw [Int.toNat_natCast] | rw [Nat.mul_one] | (refine bcase_prop (fun h => ?_) (fun h => ?_) <;> try (exfalso; omega)) | (refine bcase_nprop (fun h => ?_) (fun h => ?_) <;> try (exfalso; omega)) | (refine bcase_intro (fun h => ?_) (fun h => ?_) <;> (try simp only [Bool.not_eq_true',Bool.not_eq_false',decide_eq_true_eq,decide_eq_false_iff_not,Bool.not_eq_true,Bool.not_eq_false,Decidable.not_not] at h)) | refine And.intro (by first | omega | exact rfl | assumption | exact ⟨rfl,rfl,rfl,rfl,rfl⟩ | exact ⟨rfl,rfl,rfl,rfl⟩ | exact ⟨rfl,by omega⟩ | exact oneAll_of rfl | exact ⟨rfl,oneAll_of rfl⟩ | exact Ref.refl _ | exact Thin.ref (.skip (Thin.refl _)) | exact Thin.ref (.skip (.skip (Thin.refl _))) | exact hne | exact k2 | exact hb2 | exact ⟨rfl,Nat.le_of_ble_eq_true rfl⟩ | ((try unfold maxLen); (try simp only [List.length_nil,List.length_cons,List.length_append]); omega) | (refine ⟨rfl,?_⟩; (try simp only [List.length_nil,List.length_cons,List.length_append]); omega)) ?_ | intro _)); (all_goals (conv => whnf))
        all_goals first | (exfalso; omega) | skip
        refine loop_next ⟨i + 1,a3,c3⟩ (by ((try dsimp only); omega)) (by ((try dsimp only); omega)) ?_ (Ref.takes [3] rfl (.own hq.symm (by rw [hru]) (.nil _)))
        dsimp only
        rw [hq]
        (repeat ((conv => whnf); refine And.intro (by first | exact rfl | exact vint_eq (by omega) | exact vint_eq (by (dsimp only; omega)) | exact vsl_eq (by omega) | exact vsl_eq (by first | (dsimp only; omega) | (simp; done) | (simp; omega))) ?_)); exact trivial
      · rw [if_neg hyx] at hru
        have hq : (runs (xs.take (i + 1))).length = (l ++ [(y,u)]).length + 1 := by rw [hru]; simp
        have hsn := prs_snoc (k := .i64) (l := l ++ [(y,u)]) (x := x) (y := 1)
        rw [List.append_assoc] at hsn
        (repeat' ((conv => whnf); first | refine ⟨_,r1,?_⟩ | rw [hne3] | refine ⟨_,r2,?_⟩ | rw [Int.toNat_natCast] | rw [Nat.mul_one] | (refine bcase_prop (fun h => ?_) (fun h => ?_) <;> try (exfalso; omega)) | (refine bcase_nprop (fun h => ?_) (fun h => ?_) <;> try (exfalso; omega)) | (refine bcase_intro (fun h => ?_) (fun h => ?_) <;> (try simp only [Bool.not_eq_true',Bool.not_eq_false',decide_eq_true_eq,decide_eq_false_iff_not,Bool.not_eq_true,Bool.not_eq_false,Decidable.not_not] at h)) | refine And.intro (by first | omega | exact rfl | assumption | exact ⟨rfl,rfl,rfl,rfl,rfl⟩ | exact ⟨rfl,rfl,rfl,rfl⟩ | exact ⟨rfl,by omega⟩ | exact oneAll_of rfl | exact ⟨rfl,oneAll_of rfl⟩ | exact Ref.refl _ | exact Thin.ref (.skip (Thin.refl _)) | exact Thin.ref (.skip (.skip (Thin.refl _))) | exact hne | exact ⟨rfl,Nat.le_of_ble_eq_true rfl⟩ | ((try unfold maxLen); (try simp only [List.length_nil,List.length_cons,List.length_append]); omega) | (refine ⟨rfl,?_⟩; (try simp only [List.length_nil,List.length_cons,List.length_append]); omega)) ?_ | intro _)); (all_goals (conv => whnf))
        all_goals first | (exfalso; omega) | skip
        rename_i b' a' c'
        refine loop_next ⟨i + 1,a',c'⟩ (by ((try dsimp only); omega)) (by ((try dsimp only); omega)) ?_ (Ref.takes [3] rfl (.own hq.symm (by rw [hru]; exact hsn) (.nil _)))
        dsimp only
        rw [hq]
        (repeat ((conv => whnf); refine And.intro (by first | exact rfl | exact vint_eq (by omega) | exact vint_eq (by (dsimp only; omega)) | exact vsl_eq (by omega) | exact vsl_eq (by first | (dsimp only; omega) | (simp; done) | (simp; omega))) ?_)); exact trivial
  · have hil : i = xs.length := by omega
    have : xs.take i = xs := by rw [hil,List.take_length]
    rw [this]
    (repeat' ((conv => whnf); first | refine ⟨.sl 3 _ _ _,⟨rfl,rfl,rfl,rfl⟩,?_⟩ | (refine bcase_prop (fun h => ?_) (fun h => ?_) <;> try (exfalso; omega)) | (refine bcase_nprop (fun h => ?_) (fun h => ?_) <;> try (exfalso; omega)) | (refine bcase_intro (fun h => ?_) (fun h => ?_) <;> (try simp only [Bool.not_eq_true',Bool.not_eq_false',decide_eq_true_eq,decide_eq_false_iff_not,Bool.not_eq_true,Bool.not_eq_false,Decidable.not_not] at h)) | refine And.intro (by first | omega | exact rfl | assumption | exact ⟨rfl,rfl,rfl,rfl,rfl⟩ | exact ⟨rfl,rfl,rfl,rfl⟩ | exact ⟨rfl,by omega⟩ | exact oneAll_of rfl | exact ⟨rfl,oneAll_of rfl⟩ | exact Ref.refl _ | exact Thin.ref (.skip (Thin.refl _)) | exact Thin.ref (.skip (.skip (Thin.refl _))) | exact ⟨rfl,Nat.le_of_ble_eq_true rfl⟩ | ((try unfold maxLen); (try simp only [List.length_nil,List.length_cons,List.length_append]); omega) | (refine ⟨rfl,?_⟩; (try simp only [List.length_nil,List.length_cons,List.length_append]); omega)) ?_ | intro _)); (all_goals (conv => whnf))
    all_goals first | (exfalso; omega) | skip
    exact ⟨⟨_,_,rfl,Thin.ref (.own (k' := 0) rfl rfl (.nil _))⟩⟩
abbrev pL (b : Nat) (S : Sto) (ids : List Int) (lv : Int) (ai : Option Addr) (ci : Nat) (ar : Option Addr) (cr : Nat) : List Ent := fA b S (.slice ai ids.length ci) (.int .i64 lv) ar cr ++ [.own 4002 ai ids.length ci ty_api_ID 1 (ints .i64 ids)]
def paQ (b : Nat) (S : Sto) (B : Nat) (ts : List Tm) (lv : Int) (v : Value) (L1 : List Ent) : Prop :=
  ∃ S' ids' ai ci ar cr,Row S S' ids' ts ∧ S'.E.length + ids'.length ≤ B ∧ v = .tuple #[] ∧ L1 = pL b S' ids' lv ai ci ar cr
structure RuG where
  i : Nat
  S : Sto
  out : List Int
  a2 : Option Addr
  c2 : Nat
  ar : Option Addr
  cr : Nat
structure RuI (S : Sto) (ids : List Int) (B : Nat) (x : RuG) : Prop where
  le : x.i ≤ (runs ids).length
  row : Row S x.S x.out (((runsT (tms S ids)).take x.i).map powT)
  len : x.out.length = x.i
  most : x.S.E.length + x.i + (ids.length - atR ids x.i) ≤ B
theorem calls_runs22 (b : Nat) (S : Sto) (hw : WF S) (ids : List Int) (hs : Seq S ids) (hpos : 0 < ids.length) (hl : ids.length ≤ 1000) (htx : (txtOf (tms S ids)).length ≤ 65536) (B : Nat) (hB : S.E.length + ids.length ≤ B) (hBm : B ≤ S.most) (lv : Int) (ai : Option Addr) (ci : Nat) (ar : Option Addr) (cr : Nat) (fp : List Nat) (w : World)
    (hR : R w fp (pL b S ids lv ai ci ar cr) w) :
    Calls Tryz.prog fn_P_evergreenref22_Parse_runs #[pS b] w fun e w' => ∃ v L1,e = .returned v ∧ R w fp L1 w' ∧ paQ b S B (runT (tms S ids)) lv v L1 := by
  refine part_call [.ptr 4000 b 0] ok_P_evergreenref22_Parse_runs (by simp) hR ?_
  have cR := fun w h => calls_Groups w ai ci ids h (by omega)
  (repeat' ((conv => whnf); first | refine ⟨.sl 4002 _ _ _,⟨rfl,rfl,rfl,rfl⟩,?_⟩ | refine ⟨_,⟨rfl,trivial⟩,?_⟩ | refine CallK_slice 900 (fun w' hR => cR w' (In.ownR (key := 4002) hR rfl)) ?_ | (refine bcase_prop (fun h => ?_) (fun h => ?_) <;> try (exfalso; omega)) | (refine bcase_nprop (fun h => ?_) (fun h => ?_) <;> try (exfalso; omega)) | (refine bcase_intro (fun h => ?_) (fun h => ?_) <;> (try simp only [Bool.not_eq_true',Bool.not_eq_false',decide_eq_true_eq,decide_eq_false_iff_not,Bool.not_eq_true,Bool.not_eq_false,Decidable.not_not] at h)) | refine And.intro (by first | omega | exact rfl | assumption | exact ⟨rfl,rfl,rfl,rfl,rfl⟩ | exact ⟨rfl,rfl,rfl,rfl⟩ | exact ⟨rfl,by omega⟩ | exact oneAll_of rfl | exact ⟨rfl,oneAll_of rfl⟩ | exact Ref.refl _ | exact Thin.ref (.skip (Thin.refl _)) | exact Thin.ref (.skip (.skip (Thin.refl _))) | exact ⟨rfl,Nat.le_of_ble_eq_true rfl⟩ | ((try unfold maxLen); (try simp only [List.length_nil,List.length_cons,List.length_append]); omega) | (refine ⟨rfl,?_⟩; (try simp only [List.length_nil,List.length_cons,List.length_append]); omega)) ?_ | intro _)); (all_goals (conv => whnf))
  rename_i ag cg
  refine VC_loop RuG (fun x => [(0,.ptr 4000 b 0),(2,.sl 890 x.a2 x.i x.c2),(3,.sl 900 ag (runs ids).length cg),(4,.v (.int .i64 x.i))])
    (fun x => fA b x.S (.slice ai ids.length ci) (.int .i64 lv) x.ar x.cr ++ [.own 4002 ai ids.length ci ty_api_ID 1 (ints .i64 ids),.own 900 ag (runs ids).length cg ty_api_Group 2 (prs .i64 (runs ids)),.own 890 x.a2 x.i x.c2 ty_api_ID 1 (ints .i64 x.out)])
    (RuI S ids B) (fun x => (runs ids).length - x.i) ⟨0,S,[],none,0,ar,cr⟩ ⟨Nat.zero_le _,⟨hw,Grow.refl _,fun x hx => by simp at hx,rfl,News.refl _ _⟩,rfl,by rw [atR_zero]; dsimp only; omega⟩ (by (repeat ((conv => whnf); refine And.intro (by first | exact rfl | exact vint_eq (by omega) | exact vint_eq (by (dsimp only; omega)) | exact vsl_eq (by omega) | exact vsl_eq (by first | (dsimp only; omega) | (simp; done) | (simp; omega))) ?_)); exact trivial) ((Ref.ownNil 890 ty_api_ID 1).trans (Ref.takes [4000,4001,4002,900,890] rfl (Thin.refl _))) ?_
  rintro ⟨i,S1,out,a2,c2,ar1,cr1⟩ ⟨h1,h2,h3,h4⟩
  dsimp only at h1 h2 h3 h4 ⊢
  have hgm := h2.grow.most
  by_cases hlt : i < (runs ids).length
  · obtain ⟨q1,q2,q3,q4⟩ := atR_next hlt
    have q5 := atR_ge (xs := ids) (i := i) h1
    have hrt := runs_tms hw hs
    have htk : ((runsT (tms S ids)).take (i + 1)).map powT = ((runsT (tms S ids)).take i).map powT ++ [powT (tm S.E ((runs ids).getD i (0,0)).1,((runs ids).getD i (0,0)).2.toNat)] := by
      rw [hrt,← List.map_take,← List.map_take,take_nextD (d := (0,0)) hlt,List.map_append,List.map_append]; rfl
    have hmem : (tm S.E ((runs ids).getD i (0,0)).1,((runs ids).getD i (0,0)).2.toNat) ∈ runsT (tms S ids) := by
      rw [hrt]
      refine List.mem_map.2 ⟨(runs ids).getD i (0,0),?_,rfl⟩
      rw [List.getD_eq_getElem?_getD,List.getElem?_eq_getElem hlt]
      exact List.getElem_mem hlt
    have hlr := len_run hmem
    have e1 := intOf_prs1 (k := .i64) hlt
    have e2 := intOf_prs2 (k := .i64) hlt
    have i1 := isK_prs1 (k := .i64) hlt
    have i2 := isK_prs2 (k := .i64) hlt
    have hat : atR ids i < ids.length := by omega
    have hid := hs.get hat
    rw [q4] at hid
    have hidS1 := (hs.grow h2.grow).get hat
    rw [q4] at hidS1
    have htm1 : tm S1.E ((runs ids).getD i (0,0)).1 = tm S.E ((runs ids).getD i (0,0)).1 := h2.grow.tm hid.2
    have hrl := runs_length ids
    generalize hgg : (runs ids).getD i (0,0) = g at *
    by_cases hg1 : g.2 = 1
    · have hpw : powT (tm S.E g.1,g.2.toNat) = tm S.E g.1 := by rw [hg1]; rfl
      rw [hpw] at htk
      (repeat' ((conv => whnf); first | rw [Int.toNat_natCast] | rw [Nat.mul_one] | rw [e1] | rw [e2] | refine ⟨_,⟨rfl,trivial⟩,?_⟩ | (refine bcase_prop (fun h => ?_) (fun h => ?_) <;> try (exfalso; omega)) | (refine bcase_nprop (fun h => ?_) (fun h => ?_) <;> try (exfalso; omega)) | (refine bcase_intro (fun h => ?_) (fun h => ?_) <;> (try simp only [Bool.not_eq_true',Bool.not_eq_false',decide_eq_true_eq,decide_eq_false_iff_not,Bool.not_eq_true,Bool.not_eq_false,Decidable.not_not] at h)) | refine And.intro (by first | omega | exact rfl | assumption | exact ⟨rfl,rfl,rfl,rfl,rfl⟩ | exact ⟨rfl,rfl,rfl,rfl⟩ | exact ⟨rfl,by omega⟩ | exact oneAll_of rfl | exact ⟨rfl,oneAll_of rfl⟩ | exact Ref.refl _ | exact Thin.ref (.skip (Thin.refl _)) | exact Thin.ref (.skip (.skip (Thin.refl _))) | exact i1 | exact i2 | exact ⟨rfl,Nat.le_of_ble_eq_true rfl⟩ | ((try unfold maxLen); (try simp only [List.length_nil,List.length_cons,List.length_append]); omega) | (refine ⟨rfl,?_⟩; (try simp only [List.length_nil,List.length_cons,List.length_append]); omega)) ?_ | intro _)); (all_goals (conv => whnf))
      all_goals first | (exfalso; omega) | skip
      rename_i b' a' c'
      refine loop_next ⟨i + 1,S1,out ++ [g.1],a',c',ar1,cr1⟩ ⟨hlt,⟨h2.wf,h2.grow,h2.seq.snoc hidS1,?_,h2.news.more _⟩,by simp [h3],?_⟩ ?_ (by (repeat ((conv => whnf); refine And.intro (by first | exact rfl | exact vint_eq (by omega) | exact vint_eq (by (dsimp only; omega)) | exact vsl_eq (by omega) | exact vsl_eq (by first | (dsimp only; omega) | (simp; done) | (simp; omega))) ?_)); exact trivial) (Ref.takes [4000,4001,4002,900,890] rfl (.keep rfl (fun _ h => h) (.keep rfl (fun _ h => h) (.keep rfl (fun _ h => h) (.keep rfl (fun _ h => h) (.own rfl Go.EG.ints_snoc (.nil _)))))))
      · rw [tms_append,h2.tms,htk]; simp [tms,htm1]
      · dsimp only; omega
      · dsimp only; omega
    · have hpw : powT (tm S.E g.1,g.2.toNat) = .pw (tm S.E g.1) g.2.toNat := if_neg (by dsimp only; omega)
      rw [hpw] at htk
      have hft := fit_pow (S := S1) (i := g.1) (k := g.2) hidS1.1 hidS1.2 (by omega) (by rw [htm1]; dsimp only at hlr; have : LM = 1152921504606846976 := rfl; omega)
      have hmk : mkT S1.E (powR g.1 g.2) = .pw (tm S1.E g.1) g.2.toNat := by simp [mkT,powR]
      (repeat' ((conv => whnf); first | rw [Int.toNat_natCast] | rw [Nat.mul_one] | rw [e1] | rw [e2] | (refine CallK_sub [4000,4001] rfl (fun w hR h0 => calls_add22 b S1 h2.wf (powR g.1 g.2) hft (by omega) _ _ _ lv _ _ _ w h0) ?_; rintro _ _ ⟨S2,x,ar2,cr2,hM,hmost,rfl,rfl⟩; refine ⟨.v _,rfl,?_⟩) | refine ⟨_,⟨rfl,trivial⟩,?_⟩ | refine stop_and ?_ ?_ | (refine bcase_prop (fun h => ?_) (fun h => ?_) <;> try (exfalso; omega)) | (refine bcase_nprop (fun h => ?_) (fun h => ?_) <;> try (exfalso; omega)) | (refine bcase_intro (fun h => ?_) (fun h => ?_) <;> (try simp only [Bool.not_eq_true',Bool.not_eq_false',decide_eq_true_eq,decide_eq_false_iff_not,Bool.not_eq_true,Bool.not_eq_false,Decidable.not_not] at h)) | refine And.intro (by first | omega | exact rfl | assumption | exact ⟨rfl,rfl,rfl,rfl,rfl⟩ | exact ⟨rfl,rfl,rfl,rfl⟩ | exact ⟨rfl,by omega⟩ | exact oneAll_of rfl | exact ⟨rfl,oneAll_of rfl⟩ | exact Ref.refl _ | exact Thin.ref (.skip (Thin.refl _)) | exact Thin.ref (.skip (.skip (Thin.refl _))) | exact i1 | exact i2 | exact fun h => Bool.noConfusion h | exact fun _ => Ref.refl _ | exact ⟨rfl,Nat.le_of_ble_eq_true rfl⟩ | ((try unfold maxLen); (try simp only [List.length_nil,List.length_cons,List.length_append]); omega) | (refine ⟨rfl,?_⟩; (try simp only [List.length_nil,List.length_cons,List.length_append]); omega)) ?_ | intro _)); (all_goals (conv => whnf))
      all_goals first | (exfalso; omega) | skip
      rename_i b' a' c'
      have hM2 := hM.len
      have hg := hM.grow
      have hxt : tm S2.E x = .pw (tm S.E g.1) g.2.toNat := by rw [hM.tm,hmk,htm1]
      refine loop_next ⟨i + 1,S2,out ++ [x],a',c',ar2,cr2⟩ ⟨hlt,⟨hM.wf,h2.grow.trans hg,(h2.seq.grow hg).snoc ⟨hM.pos,hM.le⟩,?_,h2.news.made hM⟩,by simp [h3],?_⟩ ?_ (by (repeat ((conv => whnf); refine And.intro (by first | exact rfl | exact vint_eq (by omega) | exact vint_eq (by (dsimp only; omega)) | exact vsl_eq (by omega) | exact vsl_eq (by first | (dsimp only; omega) | (simp; done) | (simp; omega))) ?_)); exact trivial) (Ref.takes [4000,4001,4002,900,890] rfl (.keep rfl (fun _ h => h) (.keep rfl (fun _ h => h) (.keep rfl (fun _ h => h) (.keep rfl (fun _ h => h) (.own rfl Go.EG.ints_snoc (.nil _)))))))
      · rw [tms_append,tms_grow h2.seq hg,h2.tms,htk]; simp [tms,hxt]
      · dsimp only; omega
      · dsimp only; omega
  · have hin : i = (runs ids).length := by omega
    (repeat' ((conv => whnf); first | refine ⟨_,⟨rfl,trivial⟩,?_⟩ | (refine bcase_prop (fun h => ?_) (fun h => ?_) <;> try (exfalso; omega)) | (refine bcase_nprop (fun h => ?_) (fun h => ?_) <;> try (exfalso; omega)) | (refine bcase_intro (fun h => ?_) (fun h => ?_) <;> (try simp only [Bool.not_eq_true',Bool.not_eq_false',decide_eq_true_eq,decide_eq_false_iff_not,Bool.not_eq_true,Bool.not_eq_false,Decidable.not_not] at h)) | refine And.intro (by first | omega | exact rfl | assumption | exact ⟨rfl,rfl,rfl,rfl,rfl⟩ | exact ⟨rfl,rfl,rfl,rfl⟩ | exact ⟨rfl,by omega⟩ | exact oneAll_of rfl | exact ⟨rfl,oneAll_of rfl⟩ | exact Ref.refl _ | exact Thin.ref (.skip (Thin.refl _)) | exact Thin.ref (.skip (.skip (Thin.refl _))) | exact ⟨rfl,Nat.le_of_ble_eq_true rfl⟩ | ((try unfold maxLen); (try simp only [List.length_nil,List.length_cons,List.length_append]); omega) | (refine ⟨rfl,?_⟩; (try simp only [List.length_nil,List.length_cons,List.length_append]); omega)) ?_ | intro _)); (all_goals (conv => whnf))
    all_goals first | (exfalso; omega) | skip
    have hnl : (runs ids).length ≤ ids.length := runs_length ids
    have hrt := runs_tms hw hs
    have hall : ((runsT (tms S ids)).take i).map powT = runT (tms S ids) := by
      unfold runT
      rw [hin,List.take_of_length_le (by rw [hrt,List.length_map]; omega)]
    rw [hall] at h2
    subst h3
    exact ⟨⟨pL b S1 out lv a2 c2 ar1 cr1,Ref.takes [4000,4001,890] rfl (.keep rfl (fun _ h => h) (.keep rfl (fun _ h => h) (.keep rfl (fun _ h => h) (.nil _)))),S1,out,a2,c2,ar1,cr1,h2,by omega,rfl,rfl⟩⟩
structure NxG where
  i : Nat
  S : Sto
  out : List Int
  a2 : Option Addr
  c2 : Nat
  ar : Option Addr
  cr : Nat
structure NxI (S : Sto) (ids : List Int) (l B : Nat) (x : NxG) : Prop where
  le : x.i ≤ ids.length
  wf : WF x.S
  grow : Grow S x.S
  seq : Seq x.S x.out
  news : News S x.S x.out
  tms : tms x.S x.out ++ pairT ((tms S ids).drop x.i) l = pairT (tms S ids) l
  len : x.out.length ≤ x.i
  most : x.S.E.length + x.out.length + (ids.length - x.i) ≤ B
theorem calls_Next (b : Nat) (S : Sto) (hw : WF S) (ids : List Int) (hs : Seq S ids) (hpos : 0 < ids.length) (hl : ids.length ≤ 1000) (htx : (txtOf (tms S ids)).length ≤ 65536) (B : Nat) (hB : S.E.length + ids.length ≤ B) (hBm : B ≤ S.most) (l : Nat) (hlv : l ≤ 1000000000) (ai : Option Addr) (ci : Nat) (ar : Option Addr) (cr : Nat) (fp : List Nat) (w : World)
    (hR : R w fp (pL b S ids l ai ci ar cr) w) :
    Calls Tryz.prog fn_P_evergreenref22_Parse_Next #[pS b] w fun e w' => ∃ v L1,e = .returned v ∧ R w fp L1 w' ∧ paQ b S B (stepT (l + 1) (tms S ids)) ((l + 1 : Nat) : Int) v L1 := by
  refine part_call [.ptr 4000 b 0] ok_P_evergreenref22_Parse_Next (by simp) hR ?_
  have e1 : ((l + 1 : Nat) : Int) = (l : Int) + 1 := by omega
  rw [e1]
  by_cases hodd : (l + 1) % 2 = 1
  · rw [stepT_odd hodd]
    (repeat' ((conv => whnf); first | (refine CallK_sub [4000,4001,4002] rfl (fun w hR h0 => calls_runs22 b S hw ids hs hpos hl htx B hB hBm ((l : Int) + 1) ai ci ar cr _ w h0) ?_; rintro _ _ ⟨S2,ids2,ai2,ci2,ar2,cr2,hrow,hlen,rfl,rfl⟩; refine ⟨.v _,rfl,?_⟩) | refine ⟨_,⟨rfl,trivial⟩,?_⟩ | (refine bcase_prop (fun h => ?_) (fun h => ?_) <;> try (exfalso; omega)) | (refine bcase_nprop (fun h => ?_) (fun h => ?_) <;> try (exfalso; omega)) | (refine bcase_intro (fun h => ?_) (fun h => ?_) <;> (try simp only [Bool.not_eq_true',Bool.not_eq_false',decide_eq_true_eq,decide_eq_false_iff_not,Bool.not_eq_true,Bool.not_eq_false,Decidable.not_not] at h)) | refine And.intro (by first | omega | exact rfl | assumption | exact ⟨rfl,rfl,rfl,rfl,rfl⟩ | exact ⟨rfl,rfl,rfl,rfl⟩ | exact ⟨rfl,by omega⟩ | exact oneAll_of rfl | exact ⟨rfl,oneAll_of rfl⟩ | exact Ref.refl _ | exact Thin.ref (.skip (Thin.refl _)) | exact Thin.ref (.skip (.skip (Thin.refl _))) | exact ⟨rfl,Nat.le_of_ble_eq_true rfl⟩ | ((try unfold maxLen); (try simp only [List.length_nil,List.length_cons,List.length_append]); omega) | (refine ⟨rfl,?_⟩; (try simp only [List.length_nil,List.length_cons,List.length_append]); omega)) ?_ | intro _)); (all_goals (conv => whnf))
    all_goals first | (exfalso; omega) | skip
    exact ⟨⟨pL b S2 ids2 ((l : Int) + 1) ai2 ci2 ar2 cr2,Ref.takes [4000,4001,4002] rfl (Thin.refl _),S2,ids2,ai2,ci2,ar2,cr2,hrow,hlen,rfl,rfl⟩⟩
  · rw [stepT_even (by omega)]
    have cK := fun w h => calls_r20Keys S hw ar cr w h
    have hsm := hw.small
    (repeat' ((conv => whnf); first | (refine CallK_slice 905 (fun w' hR => cK w' (In.ownR (key := 4001) hR rfl)) ?_) | refine ⟨_,⟨rfl,trivial⟩,?_⟩ | (refine bcase_prop (fun h => ?_) (fun h => ?_) <;> try (exfalso; omega)) | (refine bcase_nprop (fun h => ?_) (fun h => ?_) <;> try (exfalso; omega)) | (refine bcase_intro (fun h => ?_) (fun h => ?_) <;> (try simp only [Bool.not_eq_true',Bool.not_eq_false',decide_eq_true_eq,decide_eq_false_iff_not,Bool.not_eq_true,Bool.not_eq_false,Decidable.not_not] at h)) | refine And.intro (by first | omega | exact rfl | assumption | exact ⟨rfl,rfl,rfl,rfl,rfl⟩ | exact ⟨rfl,rfl,rfl,rfl⟩ | exact ⟨rfl,by omega⟩ | exact oneAll_of rfl | exact ⟨rfl,oneAll_of rfl⟩ | exact Ref.refl _ | exact Thin.ref (.skip (Thin.refl _)) | exact Thin.ref (.skip (.skip (Thin.refl _))) | exact ⟨rfl,Nat.le_of_ble_eq_true rfl⟩ | ((try unfold maxLen); (try simp only [List.length_nil,List.length_cons,List.length_append]); omega) | (refine ⟨rfl,?_⟩; (try simp only [List.length_nil,List.length_cons,List.length_append]); omega)) ?_ | intro _)); (all_goals (conv => whnf))
    all_goals first | (exfalso; omega) | skip
    rename_i ak ck
    refine VC_loop NxG (fun x => [(0,.ptr 4000 b 0),(2,.sl 905 ak (S.E.length + 1) ck),(3,.sl 890 x.a2 x.out.length x.c2),(4,.v (.int .i64 x.i))])
      (fun x => fA b x.S (.slice ai ids.length ci) (.int .i64 ((l : Int) + 1)) x.ar x.cr ++ [.own 4002 ai ids.length ci ty_api_ID 1 (ints .i64 ids),.own 905 ak (S.E.length + 1) ck ty_evergreenref20_Key 2 (kvsC (kvL S.E (S.E.length + 1))),.own 890 x.a2 x.out.length x.c2 ty_api_ID 1 (ints .i64 x.out)])
      (NxI S ids (l + 1) B) (fun x => ids.length - x.i) ⟨0,S,[],none,0,ar,cr⟩ ⟨Nat.zero_le _,hw,Grow.refl _,fun x hx => by simp at hx,News.refl _ _,rfl,Nat.le_refl _,by dsimp only [List.length_nil]; omega⟩ (by (repeat ((conv => whnf); refine And.intro (by first | exact rfl | exact vint_eq (by omega) | exact vint_eq (by (dsimp only; omega)) | exact vsl_eq (by omega) | exact vsl_eq (by first | (dsimp only; omega) | (simp; done) | (simp; omega))) ?_)); exact trivial) ((Ref.ownNil 890 ty_api_ID 1).trans (Ref.takes [4000,4001,4002,905,890] rfl (Thin.refl _))) ?_
    rintro ⟨i,S1,out,a2,c2,ar1,cr1⟩ ⟨h1,h2,h3,h4,h5,h6,h7,h8⟩
    dsimp only at h1 h2 h3 h4 h5 h6 h7 h8 ⊢
    have hgm := h3.most
    have htl := tms_len S ids
    have kat : ∀ x : Int,1 ≤ x → x ≤ S.E.length → (kvsC (kvL S.E (S.E.length + 1)))[x.toNat * 2]? = some (.int .u64 ((tm S.E x).key : Int)) := fun x x1 x2 => by
      have := kvsC_at (g := kvL S.E (S.E.length + 1)) (i := x.toNat) (by rw [kvL_length]; omega)
      rw [kvL_at (by omega),show ((x.toNat : Nat) : Int) = x by omega] at this
      have h0 := congrArg (fun l => l[0]?) this
      simpa [List.getElem?_take,List.getElem?_drop] using h0
    have dropc : ∀ j,j < ids.length → (tms S ids).drop j = tm S.E (ids.getD j 0) :: (tms S ids).drop (j + 1) := fun j hj => by
      rw [List.drop_eq_getElem_cons (by rw [tms_len]; exact hj)]
      congr 1
      rw [← tms_get S hj,List.getD_eq_getElem?_getD,List.getElem?_eq_getElem (by rw [tms_len]; exact hj)]; rfl
    by_cases hlt : i < ids.length
    · have hx1 := hs.get hlt
      have rx := ints_getD (k := .i64) hlt
      have hd0 := dropc i hlt
      have kx := kat _ hx1.1 hx1.2
      have hxS := (hs.grow h3).get hlt
      have htx1 := h3.tm hx1.2
      by_cases hlast : i + 1 < ids.length
      · have hy1 := hs.get hlast
        have ry := ints_getD (k := .i64) hlast
        have hd1 := dropc (i + 1) hlast
        have ky := kat _ hy1.1 hy1.2
        have hyS := (hs.grow h3).get hlast
        have hty1 := h3.tm hy1.2
        have hi1 : ((i : Int) + 1).toNat = i + 1 := by omega
        have hl2 := len_two (ts := tms S ids) (i := i) (by rw [tms_len]; exact hlast)
        rw [tms_get S hlt,tms_get S hlast] at hl2
        have cF := calls_rFits (tm S.E (ids.getD i 0)).key (tm S.E (ids.getD (i + 1) 0)).key ((l : Int) + 1)
        have b1 := (tm S.E (ids.getD i 0)).key_lt'
        have b2 := (tm S.E (ids.getD (i + 1) 0)).key_lt'
        rw [hd0,hd1] at h6
        generalize ids.getD i 0 = x at *
        generalize ids.getD (i + 1) 0 = y at *
        cases hf : fitsF (tm S.E x).key (tm S.E y).key ((l + 1 : Nat) : Int) with
        | true =>
          rw [pairT_take hf] at h6
          rw [e1] at hf
          rw [hf] at cF
          have hft := fit_pair (S := S1) (i := x) (j := y) hxS.1 hxS.2 hyS.1 hyS.2 (by rw [htx1,hty1]; have : LM = 1152921504606846976 := rfl; omega)
          have hmk : mkT S1.E (pairR x y) = .pr (tm S1.E x) (tm S1.E y) := by simp [mkT,pairR]
          (repeat' ((conv => whnf); first | rw [hi1] | rw [Int.toNat_natCast] | rw [Nat.mul_one] | refine ⟨.sl 4002 _ _ _,⟨rfl,rfl,rfl,rfl⟩,?_⟩ | refine ldCell rx ?_ | refine ldCell ry ?_ | refine ldCell kx ?_ | refine ldCell ky ?_ | (refine QCall_pure (.v _) (fun w hR => cF w (by omega) (by omega) (by omega)) ?_) | (refine CallK_sub [4000,4001] rfl (fun w hR h0 => calls_add22 b S1 h2 (pairR x y) hft (by omega) _ _ _ ((l : Int) + 1) _ _ _ w h0) ?_; rintro _ _ ⟨S2,z,ar2,cr2,hM,hmost,rfl,rfl⟩; refine ⟨.v _,rfl,?_⟩) | refine ⟨_,⟨rfl,trivial⟩,?_⟩ | refine stop_and ?_ ?_ | (refine bcase_prop (fun h => ?_) (fun h => ?_) <;> try (exfalso; omega)) | (refine bcase_nprop (fun h => ?_) (fun h => ?_) <;> try (exfalso; omega)) | (refine bcase_intro (fun h => ?_) (fun h => ?_) <;> (try simp only [Bool.not_eq_true',Bool.not_eq_false',decide_eq_true_eq,decide_eq_false_iff_not,Bool.not_eq_true,Bool.not_eq_false,Decidable.not_not] at h)) | refine And.intro (by first | omega | exact rfl | assumption | exact ⟨rfl,rfl,rfl,rfl,rfl⟩ | exact ⟨rfl,rfl,rfl,rfl⟩ | exact ⟨rfl,by omega⟩ | exact oneAll_of rfl | exact ⟨rfl,oneAll_of rfl⟩ | exact Ref.refl _ | exact Thin.ref (.skip (Thin.refl _)) | exact Thin.ref (.skip (.skip (Thin.refl _))) | exact fun h => Bool.noConfusion h | exact fun _ => Ref.refl _ | exact ⟨rfl,Nat.le_of_ble_eq_true rfl⟩ | ((try unfold maxLen); (try simp only [List.length_nil,List.length_cons,List.length_append]); omega) | (refine ⟨rfl,?_⟩; (try simp only [List.length_nil,List.length_cons,List.length_append]); omega)) ?_ | intro _)); (all_goals (conv => whnf))
          all_goals first | (exfalso; omega) | skip
          rename_i b' a' c'
          have hM2 := hM.len
          have hg := hM.grow
          have hzt : tm S2.E z = .pr (tm S.E x) (tm S.E y) := by rw [hM.tm,hmk,htx1,hty1]
          refine loop_next ⟨i + 2,S2,out ++ [z],a',c',ar2,cr2⟩ ⟨by ((try dsimp only); omega),hM.wf,h3.trans hg,(h4.grow hg).snoc ⟨hM.pos,hM.le⟩,h5.made hM,?_,?_,?_⟩ (by ((try dsimp only); omega)) (by (repeat ((conv => whnf); refine And.intro (by first | exact rfl | exact vint_eq (by omega) | exact vint_eq (by (dsimp only; omega)) | exact vsl_eq (by omega) | exact vsl_eq (by first | (dsimp only; omega) | (simp; done) | (simp; omega))) ?_)); exact trivial) (Ref.takes [4000,4001,4002,905,890] rfl (.keep rfl (fun _ h => h) (.keep rfl (fun _ h => h) (.keep rfl (fun _ h => h) (.keep rfl (fun _ h => h) (.own (by simp) Go.EG.ints_snoc (.nil _)))))))
          · dsimp only
            rw [← h6,tms_append,tms_grow h4 hg]
            simp [tms,hzt]
          · dsimp only; rw [List.length_append,List.length_singleton]; omega
          · dsimp only; rw [List.length_append,List.length_singleton]; omega
        | false =>
          rw [pairT_skip hf] at h6
          rw [e1] at hf
          rw [hf] at cF
          (repeat' ((conv => whnf); first | rw [hi1] | rw [Int.toNat_natCast] | rw [Nat.mul_one] | refine ⟨.sl 4002 _ _ _,⟨rfl,rfl,rfl,rfl⟩,?_⟩ | refine ldCell rx ?_ | refine ldCell ry ?_ | refine ldCell kx ?_ | refine ldCell ky ?_ | (refine QCall_pure (.v _) (fun w hR => cF w (by omega) (by omega) (by omega)) ?_) | refine ⟨_,⟨rfl,trivial⟩,?_⟩ | refine stop_and ?_ ?_ | (refine bcase_prop (fun h => ?_) (fun h => ?_) <;> try (exfalso; omega)) | (refine bcase_nprop (fun h => ?_) (fun h => ?_) <;> try (exfalso; omega)) | (refine bcase_intro (fun h => ?_) (fun h => ?_) <;> (try simp only [Bool.not_eq_true',Bool.not_eq_false',decide_eq_true_eq,decide_eq_false_iff_not,Bool.not_eq_true,Bool.not_eq_false,Decidable.not_not] at h)) | refine And.intro (by first | omega | exact rfl | assumption | exact ⟨rfl,rfl,rfl,rfl,rfl⟩ | exact ⟨rfl,rfl,rfl,rfl⟩ | exact ⟨rfl,by omega⟩ | exact oneAll_of rfl | exact ⟨rfl,oneAll_of rfl⟩ | exact Ref.refl _ | exact Thin.ref (.skip (Thin.refl _)) | exact Thin.ref (.skip (.skip (Thin.refl _))) | exact fun h => Bool.noConfusion h | exact fun _ => Ref.refl _ | exact ⟨rfl,Nat.le_of_ble_eq_true rfl⟩ | ((try unfold maxLen); (try simp only [List.length_nil,List.length_cons,List.length_append]); omega) | (refine ⟨rfl,?_⟩; (try simp only [List.length_nil,List.length_cons,List.length_append]); omega)) ?_ | intro _)); (all_goals (conv => whnf))
          all_goals first | (exfalso; omega) | skip
          rename_i b' a' c'
          refine loop_next ⟨i + 1,S1,out ++ [x],a',c',ar1,cr1⟩ ⟨by ((try dsimp only); omega),h2,h3,h4.snoc hxS,h5.more _,?_,?_,?_⟩ (by ((try dsimp only); omega)) (by (repeat ((conv => whnf); refine And.intro (by first | exact rfl | exact vint_eq (by omega) | exact vint_eq (by (dsimp only; omega)) | exact vsl_eq (by omega) | exact vsl_eq (by first | (dsimp only; omega) | (simp; done) | (simp; omega))) ?_)); exact trivial) (Ref.takes [4000,4001,4002,905,890] rfl (.keep rfl (fun _ h => h) (.keep rfl (fun _ h => h) (.keep rfl (fun _ h => h) (.keep rfl (fun _ h => h) (.own (by simp) Go.EG.ints_snoc (.nil _)))))))
          · dsimp only
            rw [hd1,← h6,tms_append]
            simp [tms,htx1]
          · dsimp only; rw [List.length_append,List.length_singleton]; omega
          · dsimp only; rw [List.length_append,List.length_singleton]; omega
      · have hdn : (tms S ids).drop (i + 1) = [] := List.drop_of_length_le (by omega)
        rw [hd0,hdn,pairT_one] at h6
        generalize ids.getD i 0 = x at *
        (repeat' ((conv => whnf); first | rw [Int.toNat_natCast] | rw [Nat.mul_one] | refine ⟨.sl 4002 _ _ _,⟨rfl,rfl,rfl,rfl⟩,?_⟩ | refine ldCell rx ?_ | refine ldCell kx ?_ | refine ⟨_,⟨rfl,trivial⟩,?_⟩ | refine stop_and ?_ ?_ | (refine bcase_prop (fun h => ?_) (fun h => ?_) <;> try (exfalso; omega)) | (refine bcase_nprop (fun h => ?_) (fun h => ?_) <;> try (exfalso; omega)) | (refine bcase_intro (fun h => ?_) (fun h => ?_) <;> (try simp only [Bool.not_eq_true',Bool.not_eq_false',decide_eq_true_eq,decide_eq_false_iff_not,Bool.not_eq_true,Bool.not_eq_false,Decidable.not_not] at h)) | refine And.intro (by first | omega | exact rfl | assumption | exact ⟨rfl,rfl,rfl,rfl,rfl⟩ | exact ⟨rfl,rfl,rfl,rfl⟩ | exact ⟨rfl,by omega⟩ | exact oneAll_of rfl | exact ⟨rfl,oneAll_of rfl⟩ | exact Ref.refl _ | exact Thin.ref (.skip (Thin.refl _)) | exact Thin.ref (.skip (.skip (Thin.refl _))) | exact fun h => Bool.noConfusion h | exact fun _ => Ref.refl _ | exact ⟨rfl,Nat.le_of_ble_eq_true rfl⟩ | ((try unfold maxLen); (try simp only [List.length_nil,List.length_cons,List.length_append]); omega) | (refine ⟨rfl,?_⟩; (try simp only [List.length_nil,List.length_cons,List.length_append]); omega)) ?_ | intro _)); (all_goals (conv => whnf))
        all_goals first | (exfalso; omega) | skip
        rename_i b' a' c'
        refine loop_next ⟨i + 1,S1,out ++ [x],a',c',ar1,cr1⟩ ⟨by ((try dsimp only); omega),h2,h3,h4.snoc hxS,h5.more _,?_,?_,?_⟩ (by ((try dsimp only); omega)) (by (repeat ((conv => whnf); refine And.intro (by first | exact rfl | exact vint_eq (by omega) | exact vint_eq (by (dsimp only; omega)) | exact vsl_eq (by omega) | exact vsl_eq (by first | (dsimp only; omega) | (simp; done) | (simp; omega))) ?_)); exact trivial) (Ref.takes [4000,4001,4002,905,890] rfl (.keep rfl (fun _ h => h) (.keep rfl (fun _ h => h) (.keep rfl (fun _ h => h) (.keep rfl (fun _ h => h) (.own (by simp) Go.EG.ints_snoc (.nil _)))))))
        · dsimp only
          rw [hdn,pairT_nil,← h6,tms_append]
          simp [tms,htx1]
        · dsimp only; rw [List.length_append,List.length_singleton]; omega
        · dsimp only; rw [List.length_append,List.length_singleton]; omega
    · have hil : i = ids.length := by omega
      have hdn : (tms S ids).drop i = [] := List.drop_of_length_le (by omega)
      rw [hdn,pairT_nil,List.append_nil] at h6
      (repeat' ((conv => whnf); first | refine ⟨.sl 4002 _ _ _,⟨rfl,rfl,rfl,rfl⟩,?_⟩ | refine ⟨_,⟨rfl,trivial⟩,?_⟩ | (refine bcase_prop (fun h => ?_) (fun h => ?_) <;> try (exfalso; omega)) | (refine bcase_nprop (fun h => ?_) (fun h => ?_) <;> try (exfalso; omega)) | (refine bcase_intro (fun h => ?_) (fun h => ?_) <;> (try simp only [Bool.not_eq_true',Bool.not_eq_false',decide_eq_true_eq,decide_eq_false_iff_not,Bool.not_eq_true,Bool.not_eq_false,Decidable.not_not] at h)) | refine And.intro (by first | omega | exact rfl | assumption | exact ⟨rfl,rfl,rfl,rfl,rfl⟩ | exact ⟨rfl,rfl,rfl,rfl⟩ | exact ⟨rfl,by omega⟩ | exact oneAll_of rfl | exact ⟨rfl,oneAll_of rfl⟩ | exact Ref.refl _ | exact Thin.ref (.skip (Thin.refl _)) | exact Thin.ref (.skip (.skip (Thin.refl _))) | exact ⟨rfl,Nat.le_of_ble_eq_true rfl⟩ | ((try unfold maxLen); (try simp only [List.length_nil,List.length_cons,List.length_append]); omega) | (refine ⟨rfl,?_⟩; (try simp only [List.length_nil,List.length_cons,List.length_append]); omega)) ?_ | intro _)); (all_goals (conv => whnf))
      all_goals first | (exfalso; omega) | skip
      exact ⟨⟨pL b S1 out ((l : Int) + 1) a2 c2 ar1 cr1,Ref.takes [4000,4001,890] rfl (.keep rfl (fun _ h => h) (.keep rfl (fun _ h => h) (.keep rfl (fun _ h => h) (.nil _)))),S1,out,a2,c2,ar1,cr1,⟨h2,h3,h4,h6,h5⟩,by omega,rfl,rfl⟩⟩
def bgQ (t : List Nat) (v : Value) (L1 : List Ent) : Prop :=
  ∃ b S ids ai ci ar cr,Row ⟨1048576,[]⟩ S ids (t.map .lt) ∧ S.E.length + ids.length ≤ 2 * t.length ∧ v = pS b ∧ L1 = pL b S ids 0 ai ci ar cr
structure BgG where
  i : Nat
  S : Sto
  ids : List Int
  ai : Option Addr
  ci : Nat
  ar : Option Addr
  cr : Nat
structure BgI (t : List Nat) (x : BgG) : Prop where
  le : x.i ≤ t.length
  row : Row ⟨1048576,[]⟩ x.S x.ids ((t.take x.i).map .lt)
  len : x.ids.length = x.i
  most : x.S.E.length ≤ x.i
theorem calls_Begin (t : List Nat) (hb : ∀ x ∈ t,x < 256) (hl : t.length ≤ 1000) (a : Option Addr) (c : Nat) (w : World) (hin : In w [] a (bytesV t)) :
    Calls Tryz.prog fn_evergreenref22_Begin #[.slice a t.length c] w fun e w' => ∃ v L1,e = .returned v ∧ R w [] L1 w' ∧ bgQ t v L1 := by
  refine new_call [.v (.slice a t.length c)] ok_evergreenref22_Begin (by simp) ?_
  have hw0 : WF ⟨1048576,[]⟩ := WF.new _ (Nat.le_refl _)
  (repeat' ((conv => whnf); first | (refine bcase_prop (fun h => ?_) (fun h => ?_) <;> try (exfalso; omega)) | (refine bcase_nprop (fun h => ?_) (fun h => ?_) <;> try (exfalso; omega)) | (refine bcase_intro (fun h => ?_) (fun h => ?_) <;> (try simp only [Bool.not_eq_true',Bool.not_eq_false',decide_eq_true_eq,decide_eq_false_iff_not,Bool.not_eq_true,Bool.not_eq_false,Decidable.not_not] at h)) | refine And.intro (by first | omega | exact rfl | assumption | exact ⟨rfl,rfl,rfl,rfl,rfl⟩ | exact ⟨rfl,rfl,rfl,rfl⟩ | exact ⟨rfl,by omega⟩ | exact oneAll_of rfl | exact ⟨rfl,oneAll_of rfl⟩ | exact Ref.refl _ | exact Thin.ref (.skip (Thin.refl _)) | exact Thin.ref (.skip (.skip (Thin.refl _))) | exact ⟨rfl,Nat.le_of_ble_eq_true rfl⟩ | ((try unfold maxLen); (try simp only [List.length_nil,List.length_cons,List.length_append]); omega) | (refine ⟨rfl,?_⟩; (try simp only [List.length_nil,List.length_cons,List.length_append]); omega)) ?_ | intro _)); (all_goals (conv => whnf))
  rename_i b6 b8
  refine VC_loop BgG (fun x => [(0,.v (.slice a t.length c)),(3,.ptr 4000 b8 0),(4,.v (.int .i64 x.i))]) (fun x => pL b8 x.S x.ids 0 x.ai x.ci x.ar x.cr) (BgI t) (fun x => t.length - x.i)
    ⟨0,⟨1048576,[]⟩,[],none,0,some ⟨b6,0,none⟩,1⟩ ⟨Nat.zero_le _,⟨hw0,Grow.refl _,fun x hx => by simp at hx,rfl,News.refl _ _⟩,rfl,Nat.le_refl _⟩ (by (repeat ((conv => whnf); refine And.intro (by first | exact rfl | exact vint_eq (by omega) | exact vint_eq (by (dsimp only; omega)) | exact vsl_eq (by omega) | exact vsl_eq (by first | (dsimp only; omega) | (simp; done) | (simp; omega))) ?_)); exact trivial) ((Ref.ownNil 4002 ty_api_ID 1).trans (Ref.takes [8,6,4002] rfl (.keep rfl (fun _ h => h) (.own (k' := 4001) rfl rfl (.keep rfl (fun _ h => h) (.nil _)))))) ?_
  rintro ⟨i,S,ids,ai,ci,ar,cr⟩ ⟨h1,h2,h3,h4⟩
  dsimp only at h1 h2 h3 h4 ⊢
  have hm := h2.grow.most
  dsimp only at hm
  by_cases hlt : i < t.length
  · have hne : a ≠ none := hin.ne' (k := i) (by simp [bytesV]; omega)
    have rd := fun {L : List Ent} => hin.rd (L := L) (bytC_at hlt)
    have hx : t.getD i 0 < 256 := hb _ (by rw [List.getD_eq_getElem?_getD,List.getElem?_eq_getElem hlt]; exact List.getElem_mem hlt)
    have htk := take_nextD (d := 0) hlt
    have hft := fit_let S hx
    generalize t.getD i 0 = l at *
    have hmk : mkT S.E (letR l) = .lt l := by simp [mkT,letR]
    (repeat' ((conv => whnf); first | rw [Int.toNat_natCast] | rw [Nat.mul_one] | refine ⟨_,rd,?_⟩ | refine ⟨.sl 4002 _ _ _,⟨rfl,rfl,rfl,rfl⟩,?_⟩ | (refine CallK_sub [4000,4001] rfl (fun w hR h0 => calls_add22 b8 S h2.wf (letR l) hft (by omega) _ _ _ 0 _ _ _ w h0) ?_; rintro _ _ ⟨S2,x,ar2,cr2,hM,hmost,rfl,rfl⟩; refine ⟨.v _,rfl,?_⟩) | refine ⟨_,⟨rfl,trivial⟩,?_⟩ | refine stop_and ?_ ?_ | refine VC_base [] (Ref.takes [] rfl (.nil _)) ?_ | (refine bcase_prop (fun h => ?_) (fun h => ?_) <;> try (exfalso; omega)) | (refine bcase_nprop (fun h => ?_) (fun h => ?_) <;> try (exfalso; omega)) | (refine bcase_intro (fun h => ?_) (fun h => ?_) <;> (try simp only [Bool.not_eq_true',Bool.not_eq_false',decide_eq_true_eq,decide_eq_false_iff_not,Bool.not_eq_true,Bool.not_eq_false,Decidable.not_not] at h)) | refine And.intro (by first | omega | exact rfl | assumption | exact ⟨rfl,rfl,rfl,rfl,rfl⟩ | exact ⟨rfl,rfl,rfl,rfl⟩ | exact ⟨rfl,by omega⟩ | exact oneAll_of rfl | exact ⟨rfl,oneAll_of rfl⟩ | exact Ref.refl _ | exact Thin.ref (.skip (Thin.refl _)) | exact Thin.ref (.skip (.skip (Thin.refl _))) | exact hne | exact fun h => Bool.noConfusion h | exact Ref.takes [] rfl (.nil _) | exact fun _ => Ref.takes [] rfl (.nil _) | exact ⟨rfl,Nat.le_of_ble_eq_true rfl⟩ | ((try unfold maxLen); (try simp only [List.length_nil,List.length_cons,List.length_append]); omega) | (refine ⟨rfl,?_⟩; (try simp only [List.length_nil,List.length_cons,List.length_append]); omega)) ?_ | intro _)); (all_goals (conv => whnf))
    all_goals first | (exfalso; omega) | skip
    all_goals
      rename_i b' a' c'
      have hln : (ids ++ [x]).length = ids.length + 1 := by simp
      have hM2 := hM.len
      have hxt : tm S2.E x = .lt l := hM.tm.trans hmk
      refine loop_next ⟨i + 1,S2,ids ++ [x],a',c',ar2,cr2⟩ ⟨hlt,⟨hM.wf,h2.grow.trans hM.grow,(h2.seq.grow hM.grow).snoc ⟨hM.pos,hM.le⟩,?_,h2.news.made hM⟩,by simp [h3],?_⟩ (by ((try dsimp only); omega)) (by (repeat ((conv => whnf); refine And.intro (by first | exact rfl | exact vint_eq (by omega) | exact vint_eq (by (dsimp only; omega)) | exact vsl_eq (by omega) | exact vsl_eq (by first | (dsimp only; omega) | (simp; done) | (simp; omega))) ?_)); exact trivial) (Ref.takes [4000,4001,4002] rfl (.box (by rw [hln]) (.keep rfl (fun _ h => h) (.own hln.symm Go.EG.ints_snoc (.nil _)))))
      · rw [tms_append,tms_grow h2.seq hM.grow,h2.tms,htk,List.map_append]
        simp [tms,hxt]
      · dsimp only; omega
  · have hil : i = t.length := by omega
    subst hil
    (repeat' ((conv => whnf); first | refine ⟨_,⟨rfl,trivial⟩,?_⟩ | (refine bcase_prop (fun h => ?_) (fun h => ?_) <;> try (exfalso; omega)) | (refine bcase_nprop (fun h => ?_) (fun h => ?_) <;> try (exfalso; omega)) | (refine bcase_intro (fun h => ?_) (fun h => ?_) <;> (try simp only [Bool.not_eq_true',Bool.not_eq_false',decide_eq_true_eq,decide_eq_false_iff_not,Bool.not_eq_true,Bool.not_eq_false,Decidable.not_not] at h)) | refine And.intro (by first | omega | exact rfl | assumption | exact ⟨rfl,rfl,rfl,rfl,rfl⟩ | exact ⟨rfl,rfl,rfl,rfl⟩ | exact ⟨rfl,by omega⟩ | exact oneAll_of rfl | exact ⟨rfl,oneAll_of rfl⟩ | exact Ref.refl _ | exact Thin.ref (.skip (Thin.refl _)) | exact Thin.ref (.skip (.skip (Thin.refl _))) | exact ⟨rfl,Nat.le_of_ble_eq_true rfl⟩ | ((try unfold maxLen); (try simp only [List.length_nil,List.length_cons,List.length_append]); omega) | (refine ⟨rfl,?_⟩; (try simp only [List.length_nil,List.length_cons,List.length_append]); omega)) ?_ | intro _)); (all_goals (conv => whnf))
    all_goals first | (exfalso; omega) | skip
    rw [List.take_length] at h2
    exact ⟨⟨_,Ref.refl _,b8,S,ids,ai,ci,ar,cr,h2,by omega,rfl,rfl⟩⟩
structure OrG where
  g : OfG
  ai : Option Addr
  ci : Nat
  ar : Option Addr
  cr : Nat
end Go.Proofs.YtkkhpdkfploodaaGreatDoor
/- The signature has the structure of the reference's parse: the program. -/
namespace Go.Proofs.YtkkhpdkfploodaaGreatDoor
open Go.EG
attribute [local irreducible] CallK QCall Go.Calls
set_option linter.unusedSimpArgs false
set_option linter.unusedVariables false
set_option maxRecDepth 20000
set_option maxHeartbeats 4000000
theorem WF.grn {S : Sto} (hw : WF S) : Grn (S.E.map (·.r)) (S.E.map (·.m)) := by
  have hat : ∀ i : Nat,i < S.E.length → (S.E.map (·.m)).getD i .nil = tm S.E ((i : Int) + 1) ∧ (S.E.map (·.r)).getD i rul0 = (atE S.E ((i : Int) + 1)).r := fun i hi => by
    rw [getD_map (d := ent0) hi,getD_map (d := ent0) hi]
    unfold tm
    rw [atE_succ]
    exact ⟨rfl,rfl⟩
  have hm : ∀ n : Int,n ≤ S.E.length → mAt (S.E.map (·.m)) n = tm S.E n := fun n hn => by
    by_cases h0 : n ≤ 0
    · unfold mAt tm atE
      rw [if_pos h0,if_pos h0]; rfl
    · obtain ⟨i,rfl⟩ : ∃ i : Nat,n = (i : Int) + 1 := ⟨(n - 1).toNat,by omega⟩
      rw [mAt_succ]
      exact (hat i (by omega)).1
  refine ⟨⟨by simp,by rw [List.length_map]; exact hw.small,fun i hi => ?_,fun i hi => ?_,fun i hi => ?_,fun i hi => ?_⟩,fun i j hi hj he => ?_⟩
  · rw [List.length_map] at hi
    rw [(hat i hi).2]
    exact hw.okAt (by omega) (by omega)
  · rw [List.length_map] at hi
    rw [(hat i hi).2]
    exact hw.letAt (by omega) (by omega)
  · rw [List.length_map] at hi
    rw [(hat i hi).1]
    exact ⟨hw.pos1 (by omega) (by omega),hw.le (by omega)⟩
  · rw [List.length_map] at hi
    rw [(hat i hi).1,(hat i hi).2,hw.tmAt (by omega) (by omega)]
    have hok := hw.okAt (x := (i : Int) + 1) (by omega) (by omega)
    generalize (atE S.E ((i : Int) + 1)).r = r at *
    unfold mkT gT
    rcases hok with ⟨h1,_⟩ | ⟨h1,h2,h3,h4,h5,h6,h7⟩ | ⟨h1,h2,h3,h4,h5,h6⟩
    · rw [if_pos h1,if_pos h1]
    · rw [if_neg (by omega),if_pos h1,if_neg (by omega),if_pos h1,hm _ (by omega),hm _ (by omega)]
    · rw [if_neg (by omega),if_neg (by omega),if_neg (by omega),if_neg (by omega),hm _ (by omega)]
  · rw [List.length_map] at hi hj
    rw [(hat i hi).1,(hat j hj).1] at he
    have := (hw.inj_iff (by omega) (by omega) (by omega) (by omega)).1 he
    omega
theorem WF.mAt {S : Sto} {n : Int} (hn : n ≤ S.E.length) : mAt (S.E.map (·.m)) n = tm S.E n := by
  by_cases h0 : n ≤ 0
  · unfold Go.Proofs.YtkkhpdkfploodaaGreatDoor.mAt tm atE
    rw [if_pos h0,if_pos h0]; rfl
  · obtain ⟨i,rfl⟩ : ∃ i : Nat,n = (i : Int) + 1 := ⟨(n - 1).toNat,by omega⟩
    rw [mAt_succ,getD_map (d := ent0) (by omega)]
    unfold tm
    rw [atE_succ]
theorem calls_refCanonS (S : Sto) (hw : WF S) (a : Option Addr) (c : Nat) (x : Int) (h1 : 0 ≤ x) (h2 : x ≤ S.E.length) (w : World) (hin : In w [] a (rulsC (ruls S.E))) :
    Calls Tryz.prog fn_evergreenref22_Canon #[.slice a (S.E.length + 1) c,.int .i64 x] w fun e w' => ∃ v L1,e = .returned v ∧ R w [] L1 w' ∧ cnQ (tm S.E x) v L1 := by
  have h := calls_refCanon (S.E.map fun e : Entr => e.r) (S.E.map fun e : Entr => e.m) hw.grn a c x.toNat (by rw [List.length_map]; omega) w hin
  rw [List.length_map,show ((x.toNat : Nat) : Int) = x by omega,WF.mAt h2] at h
  exact h
end Go.Proofs.YtkkhpdkfploodaaGreatDoor
