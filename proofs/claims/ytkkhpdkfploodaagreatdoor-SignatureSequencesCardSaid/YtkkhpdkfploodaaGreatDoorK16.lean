/- The store's weights and depths. -/
import Derived.Test.YtkkhpdkfploodaaGreatDoorK4
import Derived.Test.YtkkhpdkfploodaaGreatDoorK5
import Derived.Test.YtkkhpdkfploodaaGreatDoorK12
import Derived.Test.YtkkhpdkfploodaaGreatDoorK15
import Derived.Test.YtkkhpdkfploodaaGreatDoorK10
namespace Go.Proofs.YtkkhpdkfploodaaGreatDoor
open Go.EG
attribute [local irreducible] CallK QCall Go.Calls
set_option linter.unusedSimpArgs false
set_option linter.unusedVariables false
set_option maxRecDepth 20000
set_option maxHeartbeats 1000000
abbrev wt0 : Value := .agg #[.int .i64 0,.int .i64 0,.int .i64 0,.int .i64 0,.int .u64 0,.int .u64 0]
def wtRes (S : Sto) (n : Int) : Value := if known S n then .tuple #[wtV (tm S.E n).txt,.nilIface] else .tuple #[wt0,errV 1]
theorem wtRes_ok {S : Sto} {n : Int} (h : known S n) : wtRes S n = .tuple #[wtV (tm S.E n).txt,.nilIface] := if_pos h
theorem calls_SWeight (b : Nat) (S : Sto) (n : Int) (hE : S.E.length ≤ 1048576) : SC fn_P_intern_Store_Weight #[pS b,.int .i64 n] b S S (wtRes S n) := by
  intro key fp w hR
  refine part_call [.v (pS b),.v (.int .i64 n)] ok_P_intern_Store_Weight (by simp) (hR.key 77) ?_
  unfold wtRes
  by_cases h : known S n
  · rw [if_pos h]
    have c1 := calls_knownT b S h
    have c2 := calls_atN b S h hE
    unfold tm
    generalize atE S.E n = x at *
    (repeat' ((conv => whnf); first | (refine CallK_pack (key := 77) rfl (fun w hR h0 => c1 _ _ _ h0) ?_; rintro _ _ ⟨rfl,fp',rfl⟩; refine ⟨.v _,rfl,?_⟩) | (refine CallK_pack (key := 77) rfl (fun w hR h0 => c2 _ _ _ h0) ?_; rintro _ _ ⟨rfl,fp',rfl⟩; refine ⟨.v _,rfl,?_⟩) | (refine bcase_prop (fun h => ?_) (fun h => ?_) <;> try (exfalso; omega)) | (refine bcase_nprop (fun h => ?_) (fun h => ?_) <;> try (exfalso; omega)) | (refine bcase_intro (fun h => ?_) (fun h => ?_) <;> (try simp only [Bool.not_eq_true',Bool.not_eq_false',decide_eq_true_eq,decide_eq_false_iff_not,Bool.not_eq_true,Bool.not_eq_false,Decidable.not_not] at h)) | refine And.intro (by first | omega | exact rfl | assumption | exact ⟨rfl,rfl,rfl,rfl,rfl⟩ | exact ⟨rfl,rfl,rfl,rfl⟩ | exact ⟨rfl,by omega⟩ | exact oneAll_of rfl | exact ⟨rfl,oneAll_of rfl⟩ | exact Ref.refl _ | exact Thin.ref (.skip (Thin.refl _)) | exact Thin.ref (.skip (.skip (Thin.refl _))) | exact Nat.le_of_ble_eq_true rfl | exact ⟨rfl,Nat.le_of_ble_eq_true rfl⟩ | ((try unfold maxLen); (try simp only [List.length_nil,List.length_cons,List.length_append]); omega) | (refine ⟨rfl,?_⟩; (try simp only [List.length_nil,List.length_cons,List.length_append]); omega)) ?_ | intro _)); (all_goals (conv => whnf))
    exact ⟨endP (by (repeat (first | exact Thin.nil _ | exact Thin.refl _ | refine Thin.keep rfl (fun _ h => h) ?_ | refine Thin.skip ?_))) rfl⟩
  · rw [if_neg h]
    have c1 := calls_knownF b S h
    (repeat' ((conv => whnf); first | (refine CallK_pack (key := 77) rfl (fun w hR h0 => c1 _ _ _ h0) ?_; rintro _ _ ⟨rfl,fp',rfl⟩; refine ⟨.v _,rfl,?_⟩) | (refine bcase_prop (fun h => ?_) (fun h => ?_) <;> try (exfalso; omega)) | (refine bcase_nprop (fun h => ?_) (fun h => ?_) <;> try (exfalso; omega)) | (refine bcase_intro (fun h => ?_) (fun h => ?_) <;> (try simp only [Bool.not_eq_true',Bool.not_eq_false',decide_eq_true_eq,decide_eq_false_iff_not,Bool.not_eq_true,Bool.not_eq_false,Decidable.not_not] at h)) | refine And.intro (by first | omega | exact rfl | assumption | exact ⟨rfl,rfl,rfl,rfl,rfl⟩ | exact ⟨rfl,rfl,rfl,rfl⟩ | exact ⟨rfl,by omega⟩ | exact oneAll_of rfl | exact ⟨rfl,oneAll_of rfl⟩ | exact Ref.refl _ | exact Thin.ref (.skip (Thin.refl _)) | exact Thin.ref (.skip (.skip (Thin.refl _))) | exact ⟨rfl,Nat.le_of_ble_eq_true rfl⟩ | ((try unfold maxLen); (try simp only [List.length_nil,List.length_cons,List.length_append]); omega) | (refine ⟨rfl,?_⟩; (try simp only [List.length_nil,List.length_cons,List.length_append]); omega)) ?_ | intro _)); (all_goals (conv => whnf))
    exact ⟨endP (by (repeat (first | exact Thin.nil _ | exact Thin.refl _ | refine Thin.keep rfl (fun _ h => h) ?_ | refine Thin.skip ?_))) rfl⟩
end Go.Proofs.YtkkhpdkfploodaaGreatDoor
/- 246 levels on; runs apart. Plain Lean: no program in sight. -/
namespace Go.Proofs.YtkkhpdkfploodaaGreatDoor
open Go.EG
set_option linter.unusedSimpArgs false
set_option linter.unusedVariables false
theorem stepT_odd {l : Nat} (h : l % 2 = 1) (ts : List Tm) : stepT l ts = runT ts := if_pos h
theorem stepT_even {l : Nat} (h : l % 2 = 0) (ts : List Tm) : stepT l ts = pairT ts l := if_neg (by omega)
end Go.Proofs.YtkkhpdkfploodaaGreatDoor
/- A symbol's sequence in a store: what is remembered,what is left to do. Plain Lean: no program in sight. -/
namespace Go.Proofs.YtkkhpdkfploodaaGreatDoor
open Go.EG
set_option linter.unusedSimpArgs false
set_option linter.unusedVariables false
theorem WF.Pos {S : Sto} (hw : WF S) : ∀ {k : Nat} {i : Int},i = k → 1 ≤ i → i ≤ S.E.length → Pos (tm S.E i) := fun {k} => by
  induction k using Nat.strongRecOn with
  | ind k ih =>
    intro i hk h1 h2
    obtain ⟨hr,_,ht,_⟩ := hw.at_ h1 h2
    rw [ht]
    unfold mkT
    rcases hr with ⟨k1,_⟩ | ⟨k1,_,_,k4,k5,k6,k7⟩ | ⟨k1,_,_,k4,k5,k6⟩
    · rw [if_pos k1]; trivial
    · rw [if_neg (by omega),if_pos k1]
      exact ⟨ih (atE S.E i).r.a.toNat (by omega) (by omega) k4 (by omega),ih (atE S.E i).r.b.toNat (by omega) (by omega) k6 (by omega)⟩
    · rw [if_neg (by omega),if_neg (by omega)]
      exact ⟨by omega,ih (atE S.E i).r.a.toNat (by omega) (by omega) k5 (by omega)⟩
theorem WF.pos_ {S : Sto} (hw : WF S) {i : Int} (h1 : 1 ≤ i) (h2 : i ≤ S.E.length) : Go.Proofs.YtkkhpdkfploodaaGreatDoor.Pos (tm S.E i) := hw.Pos (k := i.toNat) (by omega) h1 h2
theorem WF.inj0 {S : Sto} (hw : WF S) {i j : Int} (h1 : 0 ≤ i) (h2 : i ≤ S.E.length) (h3 : 0 ≤ j) (h4 : j ≤ S.E.length) : tm S.E i = tm S.E j ↔ i = j := by
  by_cases hi : i = 0
  · by_cases hj : j = 0
    · rw [hi,hj]; simp
    · constructor
      · intro h
        have := hw.pos_ (i := j) (by omega) h4
        rw [← h,hi,tm_zero] at this
        exact this.elim
      · omega
  · by_cases hj : j = 0
    · constructor
      · intro h
        have := hw.pos_ (i := i) (by omega) h2
        rw [h,hj,tm_zero] at this
        exact this.elim
      · omega
    · exact hw.inj_iff (by omega) h2 (by omega) h4
theorem WF.nil_iff {S : Sto} (hw : WF S) {i : Int} (h1 : 0 ≤ i) (h2 : i ≤ S.E.length) : tm S.E i = .nil ↔ i = 0 := by
  have := hw.inj0 h1 h2 (Int.le_refl 0) (by omega)
  rwa [tm_zero] at this
def onM (om : List (Int × Int)) : List (Value × Value) := om.map fun p => (.int .i64 p.1,.int .i64 p.2)
def onG : List (Int × Int) → Int → Option Int
  | [],_ => none
  | (x,v) :: om,y => if y = x then some v else onG om y
theorem on_get (om : List (Int × Int)) (y : Int) : mget (onM om) (.int .i64 y) = (onG om y).map fun v => .int .i64 v := by
  induction om with
  | nil => rfl
  | cons p om ih =>
    obtain ⟨x,v⟩ := p
    simp only [onM,List.map_cons,mget,onG] at ih ⊢
    by_cases hx : y = x
    · rw [if_pos (keyEq_int.2 hx),if_pos hx]; rfl
    · rw [if_neg (fun hk => hx (keyEq_int.1 hk)),if_neg hx]; exact ih
theorem on_none {om : List (Int × Int)} {y : Int} (h : onG om y = none) : mget (onM om) (.int .i64 y) = none := by rw [on_get,h]; rfl
theorem on_some {om : List (Int × Int)} {y v : Int} (h : onG om y = some v) : mget (onM om) (.int .i64 y) = some (.int .i64 v) := by rw [on_get,h]; rfl
theorem on_set {om : List (Int × Int)} {y : Int} (v : Int) (h : onG om y = none) : mset (onM om) (.int .i64 y) (.int .i64 v) = onM (om ++ [(y,v)]) := by
  induction om with
  | nil => rfl
  | cons p om ih =>
    obtain ⟨x,u⟩ := p
    simp only [onG] at h
    by_cases hx : y = x
    · rw [if_pos hx] at h; cases h
    · rw [if_neg hx] at h
      have ih := ih h
      simp only [onM,List.map_cons,mset,if_neg (fun hk => hx (keyEq_int.1 hk)),List.cons_append] at ih ⊢
      rw [ih]
theorem onG_snoc {om : List (Int × Int)} {y v x : Int} (h : onG om y = none) : onG (om ++ [(y,v)]) x = if x = y then some v else onG om x := by
  induction om with
  | nil => simp [onG]
  | cons p om ih =>
    obtain ⟨z,u⟩ := p
    simp only [onG] at h
    by_cases hy : y = z
    · rw [if_pos hy] at h; cases h
    · rw [if_neg hy] at h
      have ih := ih h
      simp only [List.cons_append,onG,ih]
      by_cases hz : x = z
      · rw [if_pos hz,if_pos hz,if_neg (by omega)]
      · rw [if_neg hz,if_neg hz]
structure On (S : Sto) (n : Int) (om : List (Int × Int)) : Prop where
  ok : ∀ y v,onG om y = some v → (1 ≤ y ∧ y ≤ S.E.length) ∧ (0 ≤ v ∧ v ≤ S.E.length) ∧ tm S.E v = oneT n (tm S.E y)
  nodup : (om.map (·.1)).Nodup
theorem onG_mem {om : List (Int × Int)} {y : Int} : (onG om y).isSome = true ↔ y ∈ om.map (·.1) := by
  induction om with
  | nil => simp [onG]
  | cons p om ih =>
    obtain ⟨x,v⟩ := p
    simp only [onG,List.map_cons,List.mem_cons]
    by_cases h : y = x
    · rw [if_pos h]; simp [h]
    · rw [if_neg h,ih]; simp [h]
theorem onG_out {om : List (Int × Int)} {y : Int} : onG om y = none ↔ y ∉ om.map (·.1) := by
  rw [← onG_mem]
  cases onG om y <;> simp
theorem On.nil (S : Sto) (n : Int) : On S n [] := ⟨fun y v h => by simp [onG] at h,.nil⟩
theorem On.snoc {S : Sto} {n : Int} {om : List (Int × Int)} (h : On S n om) {y v : Int} (hy : onG om y = none) (h1 : 1 ≤ y ∧ y ≤ S.E.length) (h2 : 0 ≤ v ∧ v ≤ S.E.length) (h3 : tm S.E v = oneT n (tm S.E y)) : On S n (om ++ [(y,v)]) := by
  refine ⟨fun x u hx => ?_,?_⟩
  · rw [onG_snoc hy] at hx
    split at hx
    · rename_i he
      simp only [Option.some.injEq] at hx
      subst he hx
      exact ⟨h1,h2,h3⟩
    · exact h.ok x u hx
  · rw [List.map_append]
    refine List.nodup_append.2 ⟨h.nodup,by simp,fun a ha b hb => ?_⟩
    simp only [List.map_cons,List.map_nil,List.mem_singleton] at hb
    rw [hb]
    exact fun he => (onG_out.1 hy) (he ▸ ha)
theorem On.len {S : Sto} {n : Int} {om : List (Int × Int)} (h : On S n om) : om.length ≤ S.E.length := by
  have := nodup_len h.nodup fun x hx => by
    have := onG_mem.2 hx
    obtain ⟨v,hv⟩ := Option.isSome_iff_exists.1 this
    exact (h.ok x v hv).1
  simpa using this
theorem On.lt {S : Sto} {n : Int} {om : List (Int × Int)} (h : On S n om) {y : Int} (hy : onG om y = none) (h1 : 1 ≤ y ∧ y ≤ S.E.length) : om.length < S.E.length := by
  have := (h.snoc (v := 0) hy h1 ⟨Int.le_refl _,by omega⟩) 
  have h2 := nodup_len (n := S.E.length) (L := y :: om.map (·.1)) (List.nodup_cons.2 ⟨onG_out.1 hy,h.nodup⟩) fun x hx => by
    rcases List.mem_cons.1 hx with rfl | hx
    · exact h1
    · have := onG_mem.2 hx
      obtain ⟨v,hv⟩ := Option.isSome_iff_exists.1 this
      exact (h.ok x v hv).1
  rw [List.length_cons,List.length_map] at h2
  omega
structure Stk (S : Sto) (n id : Int) (om : List (Int × Int)) (todo : List Int) : Prop where
  ok : ∀ x ∈ todo,1 ≤ x ∧ x ≤ S.E.length ∧ Lvd (tm S.E x)
  desc : todo.Pairwise (· > ·)
  out : ∀ x ∈ todo.dropLast,onG om x = none
  fin : todo = [] → (onG om id).isSome = true
  top : todo ≠ [] → todo.head? = some id
theorem Stk.len {S : Sto} {n id : Int} {om : List (Int × Int)} {todo : List Int} (h : Stk S n id om todo) : todo.length ≤ S.E.length := by
  have h1 : todo.Nodup := h.desc.imp fun hab he => by omega
  exact nodup_len h1 fun x hx => ⟨(h.ok x hx).1,(h.ok x hx).2.1⟩
def Stk.mu (N : Nat) (om : List (Int × Int)) (todo : List Int) : Nat :=
  (N - om.length) * (N + 10) + (match todo.getLast? with | none => 0 | some x => if (onG om x).isSome then N + 5 else x.toNat)
theorem Stk.start {S : Sto} {n id : Int} (om : List (Int × Int)) (h1 : 1 ≤ id) (h2 : id ≤ S.E.length) (h3 : Lvd (tm S.E id)) : Stk S n id om [id] :=
  ⟨fun x hx => by rw [List.mem_singleton.1 hx]; exact ⟨h1,h2,h3⟩,by simp,by simp,by simp,by simp⟩
theorem Stk.pop {S : Sto} {n id : Int} {om : List (Int × Int)} {rest : List Int} {x : Int} (h : Stk S n id om (rest ++ [x])) (hx : (onG om x).isSome = true) :
    Stk S n id om rest ∧ Stk.mu S.E.length om rest < Stk.mu S.E.length om (rest ++ [x]) := by
  have hd := h.out
  rw [List.dropLast_concat] at hd
  refine ⟨⟨fun y hy => h.ok y (List.mem_append_left _ hy),(List.pairwise_append.1 h.desc).1,fun y hy => hd y (List.dropLast_subset _ hy),fun he => ?_,fun hne => ?_⟩,?_⟩
  · subst he
    have := h.top (by simp)
    simp only [List.nil_append,List.head?_cons,Option.some.injEq] at this
    rw [← this]; exact hx
  · have := h.top (by simp)
    cases rest with
    | nil => exact absurd rfl hne
    | cons a r => simpa using this
  · unfold Stk.mu
    rw [List.getLast?_concat]
    simp only [hx,if_true]
    cases hl : rest.getLast? with
    | none => simp
    | some y =>
      have hy : y ∈ rest := List.mem_of_getLast? hl
      have h1 := h.ok y (List.mem_append_left _ hy)
      simp only [hd y hy,Option.isSome_none,Bool.false_eq_true,if_false]
      omega
theorem Stk.mem {S : Sto} {n id : Int} {om : List (Int × Int)} {rest : List Int} {x v : Int} (h : Stk S n id om (rest ++ [x])) (hO : On S n om) (hx : onG om x = none) :
    Stk S n id (om ++ [(x,v)]) (rest ++ [x]) ∧ Stk.mu S.E.length (om ++ [(x,v)]) (rest ++ [x]) < Stk.mu S.E.length om (rest ++ [x]) := by
  have hd := h.out
  rw [List.dropLast_concat] at hd
  have hk := h.ok x (by simp)
  refine ⟨⟨h.ok,h.desc,fun y hy => ?_,by simp,h.top⟩,?_⟩
  · rw [List.dropLast_concat] at hy
    rw [onG_snoc hx,if_neg,hd y hy]
    intro he
    subst he
    have := (List.pairwise_append.1 h.desc).2.2 y hy y (by simp)
    omega
  · unfold Stk.mu
    rw [List.getLast?_concat]
    have e : onG (om ++ [(x,v)]) x = some v := by rw [onG_snoc hx,if_pos rfl]
    simp only [e,hx,Option.isSome_some,Option.isSome_none,Bool.false_eq_true,if_true,if_false]
    have := hO.lt hx ⟨hk.1,hk.2.1⟩
    rw [List.length_append,List.length_singleton]
    have e2 : (S.E.length - om.length) * (S.E.length + 10) = (S.E.length - (om.length + 1)) * (S.E.length + 10) + (S.E.length + 10) := by
      rw [show S.E.length - om.length = (S.E.length - (om.length + 1)) + 1 by omega,Nat.succ_mul]
    omega
theorem Stk.push {S : Sto} {n id : Int} {om : List (Int × Int)} {rest : List Int} {x y : Int} (h : Stk S n id om (rest ++ [x])) (hx : onG om x = none) (hy : onG om y = none) (h1 : 1 ≤ y) (h2 : y < x) (h3 : Lvd (tm S.E y)) :
    Stk S n id om (rest ++ [x] ++ [y]) ∧ Stk.mu S.E.length om (rest ++ [x] ++ [y]) < Stk.mu S.E.length om (rest ++ [x]) := by
  have hd := h.out
  rw [List.dropLast_concat] at hd
  have hk := h.ok x (by simp)
  refine ⟨⟨fun z hz => ?_,?_,fun z hz => ?_,by simp,fun _ => ?_⟩,?_⟩
  · rcases List.mem_append.1 hz with hz | hz
    · exact h.ok z hz
    · rw [List.mem_singleton.1 hz]; exact ⟨h1,by omega,h3⟩
  · refine List.pairwise_append.2 ⟨h.desc,by simp,fun a ha b hb => ?_⟩
    rw [List.mem_singleton.1 hb]
    rcases List.mem_append.1 ha with ha | ha
    · have := (List.pairwise_append.1 h.desc).2.2 a ha x (by simp)
      omega
    · rw [List.mem_singleton.1 ha]; omega
  · rw [List.dropLast_concat] at hz
    rcases List.mem_append.1 hz with hz | hz
    · exact hd z hz
    · rw [List.mem_singleton.1 hz]; exact hx
  · have := h.top (by simp)
    cases rest with
    | nil => simpa using this
    | cons a r => simpa using this
  · unfold Stk.mu
    rw [List.getLast?_concat,List.getLast?_concat]
    simp only [hx,hy,Option.isSome_none,Bool.false_eq_true,if_false]
    omega
def grT (S : Sto) (g : Int × Int) : Tm × Nat := (tm S.E g.1,g.2.toNat)
def pushI (gl : List (Int × Int)) (x t : Int) : List (Int × Int) := match gl.getLast? with
  | some (y,u) => if y = x then gl.dropLast ++ [(y,u + t)] else gl ++ [(x,t)]
  | none => [(x,t)]
theorem pushT_snoc (e : Tm) (c : Nat) : ∀ (l : List (Tm × Nat)) (y : Tm) (u : Nat),pushT (l ++ [(y,u)]) e c = if y = e then l ++ [(y,u + c)] else l ++ [(y,u),(e,c)]
  | [],y,u => by
    rw [List.nil_append,pushT]
    split
    · rfl
    · rfl
  | [g],y,u => by
    have := pushT_snoc e c [] y u
    rw [List.nil_append] at this
    rw [List.singleton_append,pushT,this]
    split <;> simp
  | g :: h :: r,y,u => by
    have := pushT_snoc e c (h :: r) y u
    rw [List.cons_append] at this
    rw [List.cons_append,List.cons_append,pushT,this]
    split <;> simp
theorem pushI_snoc (l : List (Int × Int)) (y u x t : Int) : pushI (l ++ [(y,u)]) x t = if y = x then l ++ [(y,u + t)] else l ++ [(y,u),(x,t)] := by
  unfold pushI
  rw [List.getLast?_concat]
  simp only [List.dropLast_concat]
  split
  · rfl
  · rw [List.append_assoc]; rfl
structure Gok (S : Sto) (gl : List (Int × Int)) : Prop where
  ok : ∀ g ∈ gl,(1 ≤ g.1 ∧ g.1 ≤ S.E.length) ∧ 1 ≤ g.2
theorem Gok.nil (S : Sto) : Gok S [] := ⟨fun g h => by simp at h⟩
theorem Gok.push {S : Sto} {gl : List (Int × Int)} (h : Gok S gl) {x t : Int} (h1 : 1 ≤ x) (h2 : x ≤ S.E.length) (h3 : 1 ≤ t) : Gok S (pushI gl x t) := by
  rcases List.eq_nil_or_concat gl with rfl | ⟨l,⟨y,u⟩,rfl⟩
  · exact ⟨fun g hg => by
      have : g = (x,t) := by simpa [pushI] using hg
      rw [this]; exact ⟨⟨h1,h2⟩,h3⟩⟩
  · rw [List.concat_eq_append] at h ⊢
    rw [pushI_snoc]
    have hy := h.ok (y,u) (by simp)
    dsimp only at hy
    refine ⟨fun g hg => ?_⟩
    split at hg
    · rcases List.mem_append.1 hg with hg | hg
      · exact h.ok g (List.mem_append_left _ hg)
      · rw [List.mem_singleton.1 hg]; exact ⟨hy.1,by dsimp only; omega⟩
    · rcases List.mem_append.1 hg with hg | hg
      · exact h.ok g (List.mem_append_left _ hg)
      · simp only [List.mem_cons,List.not_mem_nil,or_false] at hg
        rcases hg with rfl | rfl
        · exact hy
        · exact ⟨⟨h1,h2⟩,h3⟩
theorem pushI_map {S : Sto} (hw : WF S) {gl : List (Int × Int)} (h : Gok S gl) {x t : Int} (h1 : 1 ≤ x) (h2 : x ≤ S.E.length) (h3 : 1 ≤ t) : (pushI gl x t).map (grT S) = pushT (gl.map (grT S)) (tm S.E x) t.toNat := by
  rcases List.eq_nil_or_concat gl with rfl | ⟨l,⟨y,u⟩,rfl⟩
  · rfl
  · rw [List.concat_eq_append] at h ⊢
    have hy := h.ok (y,u) (by simp)
    dsimp only at hy
    have e : (l ++ [(y,u)]).map (grT S) = l.map (grT S) ++ [(tm S.E y,u.toNat)] := by simp [grT]
    rw [pushI_snoc,e,pushT_snoc]
    by_cases hyx : y = x
    · rw [if_pos hyx,if_pos (by rw [hyx])]
      simp only [List.map_append,List.map_cons,List.map_nil,grT]
      rw [show (u + t).toNat = u.toNat + t.toNat by omega]
    · rw [if_neg hyx,if_neg (fun he => hyx ((hw.inj_iff hy.1.1 hy.1.2 h1 h2).1 he))]
      simp only [List.map_append,List.map_cons,List.map_nil,grT]
structure Grp (S : Sto) (n id : Int) (gl todo : List (Int × Int)) (ds : List Tm) : Prop where
  tok : ∀ g ∈ todo,(1 ≤ g.1 ∧ g.1 ≤ S.E.length) ∧ 1 ≤ g.2 ∧ Lvd (tm S.E g.1)
  gok : Gok S gl
  runs : gl.map (grT S) = runsT ds
  all : ds ++ leftT n (todo.map (grT S)) = expT n (tm S.E id)
  idx : ∀ i,i < todo.length → (i : Int) + 2 * (todo.getD i (0,0)).1 ≤ 2 * id
  most : gl.length ≤ 65536
theorem reps_one (ts : List Tm) : (List.replicate 1 ts).flatten = ts := by simp
theorem Grp.start {S : Sto} {n id : Int} (h1 : 1 ≤ id) (h2 : id ≤ S.E.length) (h3 : Lvd (tm S.E id)) : Grp S n id [] [(id,1)] [] := by
  refine ⟨fun g hg => ?_,.nil S,rfl,?_,fun i hi => ?_,Nat.zero_le _⟩
  · rw [List.mem_singleton.1 hg]; exact ⟨⟨h1,h2⟩,Int.le_refl _,h3⟩
  · simp [leftT,grT]
  · have : i = 0 := by simpa using hi
    subst this
    simp
theorem leftT_txt (n : Int) : ∀ (todo : List (Tm × Nat)) {g : Tm × Nat},g ∈ todo → g.2 * g.1.len ≤ (txtOf (leftT n todo)).length := fun todo {g} hg => by
  obtain ⟨p,q,rfl⟩ := List.append_of_mem hg
  unfold leftT
  simp only [List.reverse_append,List.reverse_cons,List.flatMap_append,List.flatMap_cons,List.flatMap_nil,txtOf_append,List.length_append,txt_reps,rep_length,expT_txt,List.append_nil]
  have : txtOf (expT n g.1) = g.1.txt := expT_txt n g.1
  unfold Tm.len
  omega
theorem Grp.small {S : Sto} (hw : WF S) {n id : Int} {gl todo : List (Int × Int)} {ds : List Tm} (h : Grp S n id gl todo ds) (h2 : id ≤ S.E.length) : (∀ g ∈ todo,g.2 * ((tm S.E g.1).len : Int) ≤ LM) ∧ ∀ g ∈ gl,g.2 ≤ LM := by
  have hT := congrArg txtOf h.all
  rw [txtOf_append,expT_txt] at hT
  have hl := congrArg List.length hT
  rw [List.length_append] at hl
  have hle := hw.le h2
  unfold Tm.len at hle
  refine ⟨fun g hg => ?_,fun g hg => ?_⟩
  · have h3 := leftT_txt n (todo.map (grT S)) (List.mem_map.2 ⟨g,hg,rfl⟩)
    have h4 := (h.tok g hg).2.1
    simp only [grT] at h3
    have h5 : ((g.2.toNat * (tm S.E g.1).len : Nat) : Int) = g.2 * ((tm S.E g.1).len : Int) := by
      rw [Int.natCast_mul,show ((g.2.toNat : Nat) : Int) = g.2 by omega]
    omega
  · have h3 : grT S g ∈ runsT ds := by rw [← h.runs]; exact List.mem_map.2 ⟨g,hg,rfl⟩
    have h4 := len_run h3
    have h5 := (h.gok.ok g hg)
    have h6 := (hw.pos_ h5.1.1 h5.1.2).len
    simp only [grT] at h4
    have h7 := Nat.mul_le_mul_right g.2.toNat h6
    omega
theorem Grp.deep {S : Sto} {n id : Int} {gl todo : List (Int × Int)} {ds : List Tm} (h : Grp S n id gl todo ds) (h2 : id ≤ S.E.length) : todo.length ≤ 2 * S.E.length := by
  refine Decidable.byContradiction fun hc => ?_
  have h1 := h.idx (todo.length - 1) (by omega)
  have h3 : todo.getD (todo.length - 1) (0,0) ∈ todo := by
    rw [List.getD_eq_getElem?_getD,List.getElem?_eq_getElem (by omega)]
    exact List.getElem_mem _
  have h4 := (h.tok _ h3).1.1
  omega
def Grp.mu (S : Sto) (todo : List (Int × Int)) : Nat := leftS (todo.map (grT S))
theorem grp_mu_snoc (S : Sto) (rest : List (Int × Int)) (x t : Int) : Grp.mu S (rest ++ [(x,t)]) = Grp.mu S rest + t.toNat * (tm S.E x).sz := by
  unfold Grp.mu
  rw [List.map_append,List.map_cons,List.map_nil,leftS_snoc]
  rfl
theorem left_snoc (S : Sto) (n : Int) (rest : List (Int × Int)) (x t : Int) : leftT n ((rest ++ [(x,t)]).map (grT S)) = (List.replicate t.toNat (expT n (tm S.E x))).flatten ++ leftT n (rest.map (grT S)) := by
  rw [List.map_append,List.map_cons,List.map_nil,leftT_snoc]
  rfl
theorem idx_snoc {rest : List (Int × Int)} {g : Int × Int} {id : Int} : (∀ i,i < (rest ++ [g]).length → (i : Int) + 2 * ((rest ++ [g]).getD i (0,0)).1 ≤ 2 * id) ↔ (∀ i,i < rest.length → (i : Int) + 2 * (rest.getD i (0,0)).1 ≤ 2 * id) ∧ (rest.length : Int) + 2 * g.1 ≤ 2 * id := by
  constructor
  · intro h
    refine ⟨fun i hi => ?_,?_⟩
    · have := h i (by rw [List.length_append]; omega)
      rwa [getD_append_left hi] at this
    · have := h rest.length (by simp)
      rwa [getD_snoc rfl] at this
  · rintro ⟨h1,h2⟩ i hi
    rw [List.length_append,List.length_singleton] at hi
    by_cases hc : i < rest.length
    · rw [getD_append_left hc]; exact h1 i hc
    · have : i = rest.length := by omega
      subst this
      rw [getD_snoc rfl]; exact h2
theorem Grp.one {S : Sto} (hw : WF S) {n id : Int} {gl rest : List (Int × Int)} {x t y : Int} {ds : List Tm} (h : Grp S n id gl (rest ++ [(x,t)]) ds) (hy : 1 ≤ y ∧ y ≤ S.E.length) (he : tm S.E y = oneT n (tm S.E x)) (hid : id ≤ S.E.length) :
    let c : Int := ((tm S.E x).len : Int) / ((tm S.E y).len : Int)
    1 ≤ c ∧ 1 ≤ t * c ∧ t * c ≤ LM ∧ Grp.mu S rest < Grp.mu S (rest ++ [(x,t)]) ∧ (∀ l z u,gl = l ++ [(z,u)] → z = y → u + t * c ≤ LM) ∧
    ∃ ds',(runsT ds').length = (pushI gl y (t * c)).length ∧ (∃ r,ds' ++ r = expT n (tm S.E id)) ∧ ((pushI gl y (t * c)).length ≤ 65536 → Grp S n id (pushI gl y (t * c)) rest ds') := by
  have hx := h.tok (x,t) (by simp)
  dsimp only at hx
  have hsm := (h.small hw hid).1 (x,t) (by simp)
  dsimp only at hsm
  have hpx := hw.pos_ hx.1.1 hx.1.2
  have hpy := hw.pos_ hy.1 hy.2
  have hne : oneT n (tm S.E x) ≠ .nil := by rw [← he]; exact hpy.ne
  obtain ⟨c,c1,c2,c3⟩ := one_copies hpx hne
  rw [← he] at c2 c3
  have hly := hpy.len
  have hdiv : ((tm S.E x).len : Int) / ((tm S.E y).len : Int) = (c : Int) := by
    rw [c3,← Int.natCast_ediv,Nat.mul_div_cancel _ hly]
  have hcl : (c : Int) ≤ ((tm S.E x).len : Int) := by
    have := Nat.le_mul_of_pos_right c hly
    omega
  have htc : t * (c : Int) ≤ LM := Int.le_trans (Int.mul_le_mul_of_nonneg_left hcl (by omega)) hsm
  have htc1 : 1 ≤ t * (c : Int) := by
    have := Int.mul_le_mul hx.2.1 (show (1 : Int) ≤ c by omega) (by omega) (by omega)
    omega
  obtain ⟨k,hk⟩ : ∃ k : Nat,t * (c : Int) = ((k + 1 : Nat) : Int) := ⟨(t * (c : Int) - 1).toNat,by omega⟩
  have hkt : t.toNat * c = k + 1 := by
    have : ((t.toNat * c : Nat) : Int) = t * (c : Int) := by rw [Int.natCast_mul,show ((t.toNat : Nat) : Int) = t by omega]
    omega
  have hleft := left_snoc S n rest x t
  rw [c2,flatten_reps,hkt] at hleft
  have hall := h.all
  rw [hleft] at hall
  have hmap := pushI_map hw h.gok hy.1 hy.2 htc1
  rw [h.runs,show (t * (c : Int)).toNat = k + 1 by omega,← runsT_push] at hmap
  dsimp only
  rw [hdiv]
  refine ⟨by omega,htc1,htc,?_,fun l z u hg hz => ?_,ds ++ List.replicate (k + 1) (tm S.E y),?_,⟨leftT n (rest.map (grT S)),by rw [List.append_assoc]; exact hall⟩,fun hm => ⟨fun g hg => h.tok g (List.mem_append_left _ hg),h.gok.push hy.1 hy.2 htc1,hmap,by rw [List.append_assoc]; exact hall,(idx_snoc.1 h.idx).1,hm⟩⟩
  · rw [grp_mu_snoc]
    have := Nat.mul_le_mul (show 1 ≤ t.toNat by omega) (tm S.E x).sz_pos
    omega
  · subst hg
    rw [pushI_snoc,if_pos hz] at hmap
    have hzz := (h.gok.ok (z,u) (by simp))
    dsimp only at hzz
    have h3 : grT S (z,u + t * (c : Int)) ∈ runsT (ds ++ List.replicate (k + 1) (tm S.E y)) := by
      rw [← hmap]; exact List.mem_map.2 ⟨_,by simp,rfl⟩
    have h4 := len_run h3
    simp only [grT] at h4
    have h6 := (hw.pos_ hzz.1.1 hzz.1.2).len
    have h7 := Nat.mul_le_mul_right (u + t * (c : Int)).toNat h6
    have hT := congrArg txtOf hall
    rw [← List.append_assoc,txtOf_append,expT_txt] at hT
    have hl := congrArg List.length hT
    rw [List.length_append] at hl
    have hle := hw.le hid
    unfold Tm.len at hle
    omega
  · rw [← hmap,List.length_map]
theorem Grp.over {S : Sto} {n id : Int} {ds' r : List Tm} (h : ds' ++ r = expT n (tm S.E id)) (hl : 65536 < (runsT ds').length) : 65536 < (runsT (expT n (tm S.E id))).length := by
  rw [← h]
  exact Nat.lt_of_lt_of_le hl (runsT_mono ds' r)
theorem Grp.pow {S : Sto} (hw : WF S) {n id : Int} {gl rest : List (Int × Int)} {x t a k : Int} {ds : List Tm} (h : Grp S n id gl (rest ++ [(x,t)]) ds) (ha : 1 ≤ a ∧ a < x) (hk : 2 ≤ k) (he : tm S.E x = .pw (tm S.E a) k.toNat) (hlev : ¬ (tm S.E x).level ≤ n) (hid : id ≤ S.E.length) :
    t * k ≤ LM ∧ Grp S n id gl (rest ++ [(a,t * k)]) ds ∧ Grp.mu S (rest ++ [(a,t * k)]) < Grp.mu S (rest ++ [(x,t)]) := by
  have hx := h.tok (x,t) (by simp)
  dsimp only at hx
  have hsm := (h.small hw hid).1 (x,t) (by simp)
  dsimp only at hsm
  have hpa := hw.pos_ (i := a) ha.1 (by omega)
  have hla := hpa.len
  have htk1 : 1 ≤ t * k := by
    have := Int.mul_le_mul hx.2.1 (show (1 : Int) ≤ k by omega) (by omega) (by omega)
    omega
  have htn : (t * k).toNat = t.toNat * k.toNat := by
    have : ((t.toNat * k.toNat : Nat) : Int) = t * k := by rw [Int.natCast_mul,show ((t.toNat : Nat) : Int) = t by omega,show ((k.toNat : Nat) : Int) = k by omega]
    omega
  have htk : t * k ≤ LM := by
    rw [he,len_pw1] at hsm
    have h1 : (k : Int) ≤ ((k.toNat * (tm S.E a).len : Nat) : Int) := by
      have := Nat.mul_le_mul_left k.toNat hla
      omega
    exact Int.le_trans (Int.mul_le_mul_of_nonneg_left h1 (by omega)) hsm
  refine ⟨htk,⟨fun g hg => ?_,h.gok,h.runs,?_,?_,h.most⟩,?_⟩
  · rcases List.mem_append.1 hg with hg | hg
    · exact h.tok g (List.mem_append_left _ hg)
    · rw [List.mem_singleton.1 hg]
      refine ⟨⟨ha.1,by dsimp only; omega⟩,htk1,?_⟩
      have := hx.2.2
      rw [he] at this
      exact this.pw
  · have h1 := h.all
    rw [left_snoc] at h1 ⊢
    rw [he,expT,if_neg (by rw [← he]; exact hlev),reps_reps,← htn] at h1
    exact h1
  · have := idx_snoc.1 h.idx
    exact idx_snoc.2 ⟨this.1,by have := this.2; dsimp only at this ⊢; omega⟩
  · rw [grp_mu_snoc,grp_mu_snoc,he,htn]
    have e : (Tm.pw (tm S.E a) k.toNat).sz = 1 + k.toNat * (tm S.E a).sz := rfl
    rw [e,Nat.mul_add,Nat.mul_assoc]
    omega
theorem Grp.pair {S : Sto} (hw : WF S) {n id : Int} {gl rest : List (Int × Int)} {x t a b : Int} {ds : List Tm} (h : Grp S n id gl (rest ++ [(x,t)]) ds) (ha : 1 ≤ a ∧ a < x) (hb : 1 ≤ b ∧ b < x) (he : tm S.E x = .pr (tm S.E a) (tm S.E b)) (hlev : ¬ (tm S.E x).level ≤ n) :
    (t = 1 → Grp S n id gl (rest ++ [(b,1)] ++ [(a,1)]) ds ∧ Grp.mu S (rest ++ [(b,1)] ++ [(a,1)]) < Grp.mu S (rest ++ [(x,t)])) ∧
    (1 < t → Grp S n id gl (rest ++ [(x,t - 1)] ++ [(b,1)] ++ [(a,1)]) ds ∧ Grp.mu S (rest ++ [(x,t - 1)] ++ [(b,1)] ++ [(a,1)]) < Grp.mu S (rest ++ [(x,t)])) := by
  have hx := h.tok (x,t) (by simp)
  dsimp only at hx
  have hlv := hx.2.2
  rw [he] at hlv
  have hex : expT n (tm S.E x) = expT n (tm S.E a) ++ expT n (tm S.E b) := by rw [he,expT,if_neg (by rw [← he]; exact hlev)]
  have hsz : (tm S.E x).sz = 1 + (tm S.E a).sz + (tm S.E b).sz := by rw [he]; rfl
  have hi := idx_snoc.1 h.idx
  have hall := h.all
  rw [left_snoc] at hall
  have one1 : (1 : Int).toNat = 1 := rfl
  refine ⟨fun ht => ?_,fun ht => ?_⟩
  · subst ht
    refine ⟨⟨fun g hg => ?_,h.gok,h.runs,?_,?_,h.most⟩,?_⟩
    · simp only [List.mem_append,List.mem_singleton] at hg
      rcases hg with (hg | rfl) | rfl
      · exact h.tok g (List.mem_append_left _ hg)
      · exact ⟨⟨hb.1,by dsimp only; omega⟩,Int.le_refl _,hlv.pr.2⟩
      · exact ⟨⟨ha.1,by dsimp only; omega⟩,Int.le_refl _,hlv.pr.1⟩
    · rw [left_snoc,left_snoc,one1,reps_one,reps_one]
      rw [one1,reps_one,hex,List.append_assoc] at hall
      exact hall
    · refine idx_snoc.2 ⟨idx_snoc.2 ⟨hi.1,?_⟩,?_⟩
      · have := hi.2; dsimp only at this ⊢; omega
      · have := hi.2; rw [List.length_append,List.length_singleton]; dsimp only at this ⊢; omega
    · rw [grp_mu_snoc,grp_mu_snoc,grp_mu_snoc,hsz,one1]
      omega
  · obtain ⟨m,hm⟩ : ∃ m,t.toNat = m + 1 := ⟨t.toNat - 1,by omega⟩
    have htm : (t - 1).toNat = m := by omega
    refine ⟨⟨fun g hg => ?_,h.gok,h.runs,?_,?_,h.most⟩,?_⟩
    · simp only [List.mem_append,List.mem_singleton] at hg
      rcases hg with ((hg | rfl) | rfl) | rfl
      · exact h.tok g (List.mem_append_left _ hg)
      · exact ⟨hx.1,by dsimp only; omega,hx.2.2⟩
      · exact ⟨⟨hb.1,by dsimp only; omega⟩,Int.le_refl _,hlv.pr.2⟩
      · exact ⟨⟨ha.1,by dsimp only; omega⟩,Int.le_refl _,hlv.pr.1⟩
    · rw [left_snoc,left_snoc,left_snoc,one1,reps_one,reps_one,htm]
      rw [hm,reps_append,hex] at hall
      rw [hex]
      simpa using hall
    · refine idx_snoc.2 ⟨idx_snoc.2 ⟨idx_snoc.2 ⟨hi.1,hi.2⟩,?_⟩,?_⟩
      · have := hi.2; rw [List.length_append,List.length_singleton]; dsimp only at this ⊢; omega
      · have := hi.2; rw [List.length_append,List.length_append,List.length_singleton,List.length_singleton]; dsimp only at this ⊢; omega
    · have e : (m + 1) * (1 + (tm S.E a).sz + (tm S.E b).sz) = m * (1 + (tm S.E a).sz + (tm S.E b).sz) + (1 + (tm S.E a).sz + (tm S.E b).sz) := Nat.succ_mul _ _
      rw [grp_mu_snoc,grp_mu_snoc,grp_mu_snoc,grp_mu_snoc,hsz,one1,htm,hm]
      omega
end Go.Proofs.YtkkhpdkfploodaaGreatDoor
/- A symbol's sequence at a level: the program. -/
namespace Go.Proofs.YtkkhpdkfploodaaGreatDoor
open Go.EG
attribute [local irreducible] CallK QCall Go.Calls
set_option linter.unusedSimpArgs false
set_option linter.unusedVariables false
set_option maxRecDepth 20000
set_option maxHeartbeats 4000000
theorem prs_len (k : IntKind) : ∀ l : List (Int × Int),(prs k l).length = l.length * 2
  | [] => rfl
  | g :: l => by
    have := prs_len k l
    simp only [prs,List.flatMap_cons,List.length_append,List.length_cons,List.length_nil] at this ⊢
    omega
theorem prs_last {k : IntKind} (l : List (Int × Int)) (y u v : Int) : splice (prs k (l ++ [(y,u)])) (l.length * 2 + 1) [.int k v] = prs k (l ++ [(y,v)]) := by
  have e : prs k (l ++ [(y,u)]) = (prs k l ++ [.int k y]) ++ [.int k u] := by simp [prs]
  have h : (prs k l ++ [Value.int k y]).length = l.length * 2 + 1 := by simp [prs_len]
  rw [e]
  unfold splice
  rw [← h,List.take_left,List.drop_of_length_le (by simp)]
  simp [prs]
def pshQ (gl : List (Int × Int)) (x t : Int) (v : Value) (L1 : List Ent) : Prop :=
  ∃ a c,v = .slice a (pushI gl x t).length c ∧ L1 = [.own 860 a (pushI gl x t).length c ty_api_Group 2 (prs .i64 (pushI gl x t))]
theorem calls_push (gl : List (Int × Int)) (x t : Int) (hl : gl.length ≤ 65536) (ht : 0 ≤ t) (hs : ∀ g ∈ gl,0 ≤ g.2) (hb : ∀ l z u,gl = l ++ [(z,u)] → z = x → u + t ≤ 9223372036854775807) (a : Option Addr) (c : Nat) (fp : List Nat) (w : World)
    (hR : R w fp [.own 860 a gl.length c ty_api_Group 2 (prs .i64 gl)] w) :
    Calls Tryz.prog fn_signature_push #[.slice a gl.length c,.int .i64 x,.int .i64 t] w fun e w' => ∃ v L1,e = .returned v ∧ R w fp L1 w' ∧ pshQ gl x t v L1 := by
  refine part_call [.sl 860 a gl.length c,.v (.int .i64 x),.v (.int .i64 t)] ok_signature_push (by simp) hR ?_
  rcases List.eq_nil_or_concat gl with rfl | ⟨l,⟨y,u⟩,rfl⟩
  · (repeat' ((conv => whnf); first | (refine bcase_prop (fun h => ?_) (fun h => ?_) <;> try (exfalso; omega)) | (refine bcase_nprop (fun h => ?_) (fun h => ?_) <;> try (exfalso; omega)) | (refine bcase_intro (fun h => ?_) (fun h => ?_) <;> (try simp only [Bool.not_eq_true',Bool.not_eq_false',decide_eq_true_eq,decide_eq_false_iff_not,Bool.not_eq_true,Bool.not_eq_false,Decidable.not_not] at h)) | refine And.intro (by first | omega | exact rfl | assumption | exact ⟨rfl,rfl,rfl,rfl,rfl⟩ | exact ⟨rfl,rfl,rfl,rfl⟩ | exact ⟨rfl,by omega⟩ | exact oneAll_of rfl | exact ⟨rfl,oneAll_of rfl⟩ | exact Ref.refl _ | exact Thin.ref (.skip (Thin.refl _)) | exact Thin.ref (.skip (.skip (Thin.refl _))) | exact ⟨rfl,Nat.le_of_ble_eq_true rfl⟩ | ((try unfold maxLen); (try simp only [List.length_nil,List.length_cons,List.length_append]); omega) | (refine ⟨rfl,?_⟩; (try simp only [List.length_nil,List.length_cons,List.length_append]); omega)) ?_ | intro _)); (all_goals (conv => whnf))
    all_goals first | (exfalso; omega) | skip
    exact ⟨⟨_,Thin.ref (.skip (.own (k' := 860) rfl rfl (.nil _))),_,_,rfl,rfl⟩⟩
  · rw [List.concat_eq_append] at hl hs hR hb ⊢
    have hn : (l ++ [(y,u)]).length = l.length + 1 := by simp
    have hne := own_ne (key := 860) hR rfl (by omega)
    have e1 : intOf (atL (prs .i64 (l ++ [(y,u)])) (l.length * 2)) = y := by rw [intOf_prs1 (by omega),getD_snoc rfl]
    have e2 : intOf (atL (prs .i64 (l ++ [(y,u)])) (l.length * 2 + 1)) = u := by rw [intOf_prs2 (by omega),getD_snoc rfl]
    have k1 := isK_prs1 (k := .i64) (l := l ++ [(y,u)]) (i := l.length) (by omega)
    have k2 := isK_prs2 (k := .i64) (l := l ++ [(y,u)]) (i := l.length) (by omega)
    have hi : ((((l ++ [(y,u)]).length : Nat) : Int) - 1).toNat = l.length := by omega
    have hsp := prs_last (k := .i64) l y u (u + t)
    have hg := hs (y,u) (by simp)
    have hg2 := hb l y u rfl
    dsimp only at hg
    have hp := pushI_snoc l y u x t
    by_cases hyx : y = x
    · rw [if_pos hyx] at hp
      have hg3 := hg2 hyx
      have hb2 : l.length * 2 + 1 + 1 ≤ (prs .i64 (l ++ [(y,u)])).length := by rw [prs_len]; omega
      have hq : (l ++ [(y,u + t)]).length = (l ++ [(y,u)]).length := by simp
      (repeat' ((conv => whnf); first | rw [hi] | rw [e1] | rw [e2] | rw [hsp] | (refine bcase_prop (fun h => ?_) (fun h => ?_) <;> try (exfalso; omega)) | (refine bcase_nprop (fun h => ?_) (fun h => ?_) <;> try (exfalso; omega)) | (refine bcase_intro (fun h => ?_) (fun h => ?_) <;> (try simp only [Bool.not_eq_true',Bool.not_eq_false',decide_eq_true_eq,decide_eq_false_iff_not,Bool.not_eq_true,Bool.not_eq_false,Decidable.not_not] at h)) | refine And.intro (by first | omega | exact rfl | assumption | exact ⟨rfl,rfl,rfl,rfl,rfl⟩ | exact ⟨rfl,rfl,rfl,rfl⟩ | exact ⟨rfl,by omega⟩ | exact oneAll_of rfl | exact ⟨rfl,oneAll_of rfl⟩ | exact Ref.refl _ | exact Thin.ref (.skip (Thin.refl _)) | exact Thin.ref (.skip (.skip (Thin.refl _))) | exact hne | exact k1 | exact k2 | exact hb2 | exact ⟨rfl,Nat.le_of_ble_eq_true rfl⟩ | ((try unfold maxLen); (try simp only [List.length_nil,List.length_cons,List.length_append]); omega) | (refine ⟨rfl,?_⟩; (try simp only [List.length_nil,List.length_cons,List.length_append]); omega)) ?_ | intro _)); (all_goals (conv => whnf))
      all_goals first | (exfalso; omega) | skip
      exact ⟨⟨_,Thin.ref (.own (k' := 860) hq.symm rfl (.nil _)),a,c,by rw [hp,hq],by rw [hp]⟩⟩
    · rw [if_neg hyx] at hp
      have hq : (l ++ [(y,u),(x,t)]).length = (l ++ [(y,u)]).length + 1 := by simp
      have hsn := prs_snoc (k := .i64) (l := l ++ [(y,u)]) (x := x) (y := t)
      rw [List.append_assoc] at hsn
      (repeat' ((conv => whnf); first | rw [hi] | rw [e1] | rw [e2] | rw [hsp] | (refine bcase_prop (fun h => ?_) (fun h => ?_) <;> try (exfalso; omega)) | (refine bcase_nprop (fun h => ?_) (fun h => ?_) <;> try (exfalso; omega)) | (refine bcase_intro (fun h => ?_) (fun h => ?_) <;> (try simp only [Bool.not_eq_true',Bool.not_eq_false',decide_eq_true_eq,decide_eq_false_iff_not,Bool.not_eq_true,Bool.not_eq_false,Decidable.not_not] at h)) | refine And.intro (by first | omega | exact rfl | assumption | exact ⟨rfl,rfl,rfl,rfl,rfl⟩ | exact ⟨rfl,rfl,rfl,rfl⟩ | exact ⟨rfl,by omega⟩ | exact oneAll_of rfl | exact ⟨rfl,oneAll_of rfl⟩ | exact Ref.refl _ | exact Thin.ref (.skip (Thin.refl _)) | exact Thin.ref (.skip (.skip (Thin.refl _))) | exact hne | exact k1 | exact k2 | exact ⟨rfl,Nat.le_of_ble_eq_true rfl⟩ | ((try unfold maxLen); (try simp only [List.length_nil,List.length_cons,List.length_append]); omega) | (refine ⟨rfl,?_⟩; (try simp only [List.length_nil,List.length_cons,List.length_append]); omega)) ?_ | intro _)); (all_goals (conv => whnf))
      all_goals first | (exfalso; omega) | skip
      rename_i b' a' c'
      exact ⟨⟨_,Thin.ref (.skip (.own (k' := 860) hq.symm hsn (.nil _))),a',c',by rw [hp,hq],by rw [hp]; rfl⟩⟩
abbrev xpB (bx bp mb : Nat) (level : Int) : Ent := .box 3100 bx [pS bp,.int .i64 level,.map (some mb)] ty_signature_expansion
abbrev fX (bx bp bt bs mb : Nat) (level : Int) (S : Sto) (om : List (Int × Int)) (f1 f2 : List Nat) : List Ent := fP bp bt bs S f1 f2 ++ [xpB bx bp mb level,.mapE 3101 mb (.int .i64) (onM om)]
def XC (f : Nat) (args : Array Value) (bx bp bt bs mb : Nat) (level : Int) (S : Sto) (om : List (Int × Int)) (Q : Value → List (Int × Int) → Prop) : Prop :=
  ∀ (f1 f2 fp : List Nat) (w : World),R w fp (fX bx bp bt bs mb level S om f1 f2) w → TabF w fp → Calls Tryz.prog f args w fun e w' => ∃ v L1,e = .returned v ∧ R w fp L1 w' ∧ ∃ om' g1 g2,Q v om' ∧ L1 = fX bx bp bt bs mb level S om' g1 g2
theorem calls_times (bx bp bt bs mb : Nat) (level : Int) (S : Sto) (hw : WF S) (om : List (Int × Int)) (x y : Int) (hx : 1 ≤ x ∧ x ≤ S.E.length) (hy : 1 ≤ y ∧ y ≤ S.E.length) :
    XC fn_P_signature_expansion_times #[pS bx,.int .i64 x,.int .i64 y] bx bp bt bs mb level S om fun v om' => v = .tuple #[.int .i64 (((tm S.E x).len : Int) / ((tm S.E y).len : Int)),.nilIface] ∧ om' = om := by
  intro f1 f2 fp w hR hG
  refine part_call [.ptr 3100 bx 0,.v (.int .i64 x),.v (.int .i64 y)] ok_P_signature_expansion_times (by simp) hR ?_
  have c1 := calls_SWeight bs S x hw.small
  have c2 := calls_SWeight bs S y hw.small
  have hly := (hw.pos_ hy.1 hy.2).len
  have lx := hw.le hx.2
  have ly := hw.le hy.2
  have hLM : LM = 1152921504606846976 := rfl
  unfold Tm.len at hly lx ly ⊢
  rw [wtRes_ok ⟨by omega,hx.2⟩] at c1
  rw [wtRes_ok ⟨by omega,hy.2⟩] at c2
  (repeat' ((conv => whnf); first | (refine CallK_pack (key := 77) rfl (fun w hR h0 => c1 _ _ _ h0) ?_; rintro _ _ ⟨rfl,fp',rfl⟩; refine ⟨.v _,rfl,?_⟩) | (refine CallK_pack (key := 77) rfl (fun w hR h0 => c2 _ _ _ h0) ?_; rintro _ _ ⟨rfl,fp',rfl⟩; refine ⟨.v _,rfl,?_⟩) | refine ⟨.ptr 3000 bp 0,⟨rfl,rfl⟩,?_⟩ | refine ⟨_,⟨rfl,trivial⟩,?_⟩ | (refine bcase_prop (fun h => ?_) (fun h => ?_) <;> try (exfalso; omega)) | (refine bcase_nprop (fun h => ?_) (fun h => ?_) <;> try (exfalso; omega)) | (refine bcase_intro (fun h => ?_) (fun h => ?_) <;> (try simp only [Bool.not_eq_true',Bool.not_eq_false',decide_eq_true_eq,decide_eq_false_iff_not,Bool.not_eq_true,Bool.not_eq_false,Decidable.not_not] at h)) | refine And.intro (by first | omega | exact rfl | assumption | exact ⟨rfl,rfl,rfl,rfl,rfl⟩ | exact ⟨rfl,rfl,rfl,rfl⟩ | exact ⟨rfl,by omega⟩ | exact oneAll_of rfl | exact ⟨rfl,oneAll_of rfl⟩ | exact Ref.refl _ | exact Thin.ref (.skip (Thin.refl _)) | exact Thin.ref (.skip (.skip (Thin.refl _))) | simp | exact ⟨rfl,Nat.le_of_ble_eq_true rfl⟩ | ((try unfold maxLen); (try simp only [List.length_nil,List.length_cons,List.length_append]); omega) | (refine ⟨rfl,?_⟩; (try simp only [List.length_nil,List.length_cons,List.length_append]); omega)) ?_ | intro _)); (all_goals (conv => whnf))
  all_goals first | (exfalso; omega) | skip
  exact ⟨⟨_,Ref.takes [78,77,3000,3100,3101] rfl (Thin.refl _),om,_,_,⟨rfl,rfl⟩,rfl⟩⟩
structure SnG where
  om : List (Int × Int)
  todo : List Int
  a : Option Addr
  c : Nat
  f1 : List Nat
  f2 : List Nat
theorem last_ints {rest : List Int} {x : Int} : (ints .i64 (rest ++ [x]))[((((rest ++ [x]).length : Nat) : Int) - 1).toNat]? = some (.int .i64 x) := by
  have : ((((rest ++ [x]).length : Nat) : Int) - 1).toNat = rest.length := by simp
  rw [this]
  simp [ints]
theorem cut_ints {rest : List Int} {x : Int} : (ints .i64 (rest ++ [x])).take rest.length = ints .i64 rest := by
  simp [ints]
def snQ (S : Sto) (level : Int) (om : List (Int × Int)) (id : Int) (v : Value) (om' : List (Int × Int)) : Prop :=
  ∃ y : Int,v = .tuple #[.int .i64 y,.nilIface] ∧ (0 ≤ y ∧ y ≤ S.E.length) ∧ tm S.E y = oneT level (tm S.E id) ∧ On S level om'
theorem calls_single (bx bp bt bs mb : Nat) (level : Int) (h0 : 0 ≤ level) (S : Sto) (hw : WF S) (om : List (Int × Int)) (hO : On S level om) (id : Int) (h1 : 1 ≤ id) (h2 : id ≤ S.E.length) (hl : Lvd (tm S.E id)) :
    XC fn_P_signature_expansion_single #[pS bx,.int .i64 id] bx bp bt bs mb level S om (snQ S level om id) := by
  intro f1 f2 fp w hR hG
  refine part_call [.ptr 3100 bx 0,.v (.int .i64 id)] ok_P_signature_expansion_single (by simp) hR ?_
  have hsm := hw.small
  (repeat' ((conv => whnf); first | (refine bcase_prop (fun h => ?_) (fun h => ?_) <;> try (exfalso; omega)) | (refine bcase_nprop (fun h => ?_) (fun h => ?_) <;> try (exfalso; omega)) | (refine bcase_intro (fun h => ?_) (fun h => ?_) <;> (try simp only [Bool.not_eq_true',Bool.not_eq_false',decide_eq_true_eq,decide_eq_false_iff_not,Bool.not_eq_true,Bool.not_eq_false,Decidable.not_not] at h)) | refine And.intro (by first | omega | exact rfl | assumption | exact ⟨rfl,rfl,rfl,rfl,rfl⟩ | exact ⟨rfl,rfl,rfl,rfl⟩ | exact ⟨rfl,by omega⟩ | exact oneAll_of rfl | exact ⟨rfl,oneAll_of rfl⟩ | exact Ref.refl _ | exact Thin.ref (.skip (Thin.refl _)) | exact Thin.ref (.skip (.skip (Thin.refl _))) | exact ⟨rfl,Nat.le_of_ble_eq_true rfl⟩ | ((try unfold maxLen); (try simp only [List.length_nil,List.length_cons,List.length_append]); omega) | (refine ⟨rfl,?_⟩; (try simp only [List.length_nil,List.length_cons,List.length_append]); omega)) ?_ | intro _)); (all_goals (conv => whnf))
  rename_i b17
  refine VC_loop SnG (fun x => [(0,.ptr 3100 bx 0),(1,.v (.int .i64 id)),(6,.sl 17 x.a x.todo.length x.c)]) (fun x => fX bx bp bt bs mb level S x.om x.f1 x.f2 ++ [.own 17 x.a x.todo.length x.c ty_api_ID 1 (ints .i64 x.todo)])
    (fun x => On S level x.om ∧ Stk S level id x.om x.todo) (fun x => Stk.mu S.E.length x.om x.todo) ⟨om,[id],_,1,f1,f2⟩ ⟨hO,Stk.start om h1 h2 hl⟩ (by (repeat ((conv => whnf); refine And.intro (by first | exact rfl | exact vint_eq (by omega) | exact vint_eq (by (dsimp only; omega)) | exact vsl_eq (by omega) | exact vsl_eq (by first | (dsimp only; omega) | (simp; done) | (simp; omega))) ?_)); exact trivial) (Ref.takes [78,77,3000,3100,3101,17] rfl (Thin.refl _)) ?_
  clear hO hl
  rintro ⟨om,todo,a,c,g1,g2⟩ ⟨hO,hS⟩
  dsimp only at hO hS ⊢
  have hlen := hS.len
  rcases List.eq_nil_or_concat todo with rfl | ⟨rest,x,rfl⟩
  · obtain ⟨y,hy⟩ := Option.isSome_iff_exists.1 (hS.fin rfl)
    have hm := on_some hy
    obtain ⟨k1,k2,k3⟩ := hO.ok _ _ hy
    (repeat' ((conv => whnf); first | refine lk_some hm ?_ | refine ⟨.mp 3101 mb,⟨rfl,rfl⟩,?_⟩ | refine ⟨_,⟨rfl,trivial⟩,?_⟩ | (refine bcase_prop (fun h => ?_) (fun h => ?_) <;> try (exfalso; omega)) | (refine bcase_nprop (fun h => ?_) (fun h => ?_) <;> try (exfalso; omega)) | (refine bcase_intro (fun h => ?_) (fun h => ?_) <;> (try simp only [Bool.not_eq_true',Bool.not_eq_false',decide_eq_true_eq,decide_eq_false_iff_not,Bool.not_eq_true,Bool.not_eq_false,Decidable.not_not] at h)) | refine And.intro (by first | omega | exact rfl | assumption | exact ⟨rfl,rfl,rfl,rfl,rfl⟩ | exact ⟨rfl,rfl,rfl,rfl⟩ | exact ⟨rfl,by omega⟩ | exact oneAll_of rfl | exact ⟨rfl,oneAll_of rfl⟩ | exact Ref.refl _ | exact Thin.ref (.skip (Thin.refl _)) | exact Thin.ref (.skip (.skip (Thin.refl _))) | exact ⟨rfl,rfl,_,rfl⟩ | exact ⟨rfl,Nat.le_of_ble_eq_true rfl⟩ | ((try unfold maxLen); (try simp only [List.length_nil,List.length_cons,List.length_append]); omega) | (refine ⟨rfl,?_⟩; (try simp only [List.length_nil,List.length_cons,List.length_append]); omega)) ?_ | intro _)); (all_goals (conv => whnf))
    all_goals first | (exfalso; omega) | skip
    exact ⟨⟨_,Ref.takes [78,77,3000,3100,3101] rfl (Thin.refl _),om,_,_,⟨y,rfl,k2,k3,hO⟩,rfl⟩⟩
  · rw [List.concat_eq_append] at hS hlen ⊢
    have hk := hS.ok x (by simp)
    have hi : ((((rest ++ [x]).length : Nat) : Int) - 1).toNat = rest.length := by simp
    have hr1 := last_ints (rest := rest) (x := x)
    rw [hi] at hr1
    have hlr : (rest ++ [x]).length = rest.length + 1 := by simp
    have hct := cut_ints (rest := rest) (x := x)
    have hsn := fun z => Go.EG.ints_snoc (k := .i64) (zs := rest ++ [x]) (z := z)
    have hln := fun z : Int => show (rest ++ [x] ++ [z]).length = (rest ++ [x]).length + 1 by simp
    by_cases hx : (onG om x).isSome = true
    · obtain ⟨y,hy⟩ := Option.isSome_iff_exists.1 hx
      have hm := on_some hy
      obtain ⟨q1,q2⟩ := hS.pop hx
      (repeat' ((conv => whnf); first | rw [hi] | refine ldCell hr1 ?_ | refine lk_some hm ?_ | refine ⟨.mp 3101 mb,⟨rfl,rfl⟩,?_⟩ | refine ⟨.ptr 3000 bp 0,⟨rfl,rfl⟩,?_⟩ | refine ⟨.sl 17 _ _ _,⟨rfl,rfl,rfl,rfl⟩,?_⟩ | refine ⟨_,⟨rfl,trivial⟩,?_⟩ | (refine bcase_prop (fun h => ?_) (fun h => ?_) <;> try (exfalso; omega)) | (refine bcase_nprop (fun h => ?_) (fun h => ?_) <;> try (exfalso; omega)) | (refine bcase_intro (fun h => ?_) (fun h => ?_) <;> (try simp only [Bool.not_eq_true',Bool.not_eq_false',decide_eq_true_eq,decide_eq_false_iff_not,Bool.not_eq_true,Bool.not_eq_false,Decidable.not_not] at h)) | refine And.intro (by first | omega | exact rfl | assumption | exact ⟨rfl,rfl,rfl,rfl,rfl⟩ | exact ⟨rfl,rfl,rfl,rfl⟩ | exact ⟨rfl,by omega⟩ | exact oneAll_of rfl | exact ⟨rfl,oneAll_of rfl⟩ | exact Ref.refl _ | exact Thin.ref (.skip (Thin.refl _)) | exact Thin.ref (.skip (.skip (Thin.refl _))) | exact ⟨rfl,rfl,_,rfl⟩ | exact ⟨rfl,Nat.le_of_ble_eq_true rfl⟩ | ((try unfold maxLen); (try simp only [List.length_nil,List.length_cons,List.length_append]); omega) | (refine ⟨rfl,?_⟩; (try simp only [List.length_nil,List.length_cons,List.length_append]); omega)) ?_ | intro _)); (all_goals (conv => whnf))
      all_goals first | (exfalso; omega) | skip
      exact loop_next ⟨om,rest,a,c,g1,g2⟩ ⟨hO,q1⟩ q2 (by (repeat ((conv => whnf); refine And.intro (by first | exact rfl | exact vint_eq (by omega) | exact vint_eq (by (dsimp only; omega)) | exact vsl_eq (by omega) | exact vsl_eq (by first | (dsimp only; omega) | (simp; done) | (simp; omega))) ?_)); exact trivial) (Ref.takes [78,77,3000,3100,3101,17] rfl (.keep rfl (fun _ h => h) (.keep rfl (fun _ h => h) (.keep rfl (fun _ h => h) (.keep rfl (fun _ h => h) (.keep rfl (fun _ h => h) (.own rfl (by rw [Nat.mul_one]; exact hct) (.nil _))))))))
    · have hx : onG om x = none := by simpa using hx
      have hm := on_none hx
      obtain ⟨hr,_,ht,_⟩ := hw.at_ hk.1 hk.2.1
      have c2 := calls_Level bt bs S hw x
      unfold levRes at c2
      rw [if_pos ⟨hk.1,hk.2.1⟩,if_neg (by have := hk.2.2; unfold Lvd at this; omega)] at c2
      have c3 := calls_Rule bs S x hsm
      rw [ruleV_ok hk.1 hk.2.1] at c3
      have hlv := hw.lev' (n := x) (by omega) hk.2.1
      by_cases hle : (tm S.E x).level ≤ level
      · have hset := on_set x hx
        have hO2 := hO.snoc hx ⟨hk.1,hk.2.1⟩ (v := x) ⟨by omega,hk.2.1⟩ (oneT_low hle).symm
        obtain ⟨q1,q2⟩ := hS.mem (v := x) hO hx
        (repeat' ((conv => whnf); first | (refine CallK_pack2 (key1 := 78) (key2 := 77) rfl rfl (fun w hR h0 => c2 _ _ _ _ _ h0 (hG.cast2 hR)) ?_; rintro _ _ ⟨rfl,fp1',fp2',rfl⟩; refine ⟨.v _,rfl,?_⟩) | rw [hi] | rw [hset] | refine ldCell hr1 ?_ | refine lk_none hm ?_ | refine ⟨.mp 3101 mb,⟨rfl,rfl⟩,?_⟩ | refine ⟨.ptr 3000 bp 0,⟨rfl,rfl⟩,?_⟩ | refine ⟨.sl 17 _ _ _,⟨rfl,rfl,rfl,rfl⟩,?_⟩ | refine ⟨_,⟨rfl,trivial⟩,?_⟩ | (refine bcase_prop (fun h => ?_) (fun h => ?_) <;> try (exfalso; omega)) | (refine bcase_nprop (fun h => ?_) (fun h => ?_) <;> try (exfalso; omega)) | (refine bcase_intro (fun h => ?_) (fun h => ?_) <;> (try simp only [Bool.not_eq_true',Bool.not_eq_false',decide_eq_true_eq,decide_eq_false_iff_not,Bool.not_eq_true,Bool.not_eq_false,Decidable.not_not] at h)) | refine And.intro (by first | omega | exact rfl | assumption | exact ⟨rfl,rfl,rfl,rfl,rfl⟩ | exact ⟨rfl,rfl,rfl,rfl⟩ | exact ⟨rfl,by omega⟩ | exact oneAll_of rfl | exact ⟨rfl,oneAll_of rfl⟩ | exact Ref.refl _ | exact Thin.ref (.skip (Thin.refl _)) | exact Thin.ref (.skip (.skip (Thin.refl _))) | exact ⟨rfl,rfl,_,rfl⟩ | exact ⟨rfl,Nat.le_of_ble_eq_true rfl⟩ | ((try unfold maxLen); (try simp only [List.length_nil,List.length_cons,List.length_append]); omega) | (refine ⟨rfl,?_⟩; (try simp only [List.length_nil,List.length_cons,List.length_append]); omega)) ?_ | intro _)); (all_goals (conv => whnf))
        all_goals first | (exfalso; omega) | skip
        exact loop_next ⟨om ++ [(x,x)],rest ++ [x],a,c,_,_⟩ ⟨hO2,q1⟩ q2 (by (repeat ((conv => whnf); refine And.intro (by first | exact rfl | exact vint_eq (by omega) | exact vint_eq (by (dsimp only; omega)) | exact vsl_eq (by omega) | exact vsl_eq (by first | (dsimp only; omega) | (simp; done) | (simp; omega))) ?_)); exact trivial) (Ref.takes [78,77,3000,3100,3101,17] rfl (Thin.refl _))
      · have hlx := hk.2.2
        have hnl : ¬ (atE S.E x).r.k = 1 := fun he => hle (by rw [ht]; unfold mkT; rw [if_pos he]; exact h0)
        unfold mkT at ht
        rw [if_neg hnl] at ht
        have hab : 1 ≤ (atE S.E x).r.a ∧ (atE S.E x).r.a < x := by rcases hr with h | h | h <;> omega
        have hbb : (atE S.E x).r.k = 2 → 1 ≤ (atE S.E x).r.b ∧ (atE S.E x).r.b < x := fun he => by rcases hr with h | h | h <;> omega
        have hkk : (atE S.E x).r.k = 2 ∨ (atE S.E x).r.k = 3 := by rcases hr with h | h | h <;> omega
        generalize (atE S.E x).r = r at *
        have hla : Lvd (tm S.E r.a) := by
          rw [ht] at hlx
          rcases hkk with h | h
          · rw [if_pos h] at hlx; exact hlx.pr.1
          · rw [if_neg (by omega)] at hlx; exact hlx.pw
        by_cases ha : (onG om r.a).isSome = true
        · obtain ⟨va,hva⟩ := Option.isSome_iff_exists.1 ha
          have hma := on_some hva
          obtain ⟨p1,p2,p3⟩ := hO.ok _ _ hva
          by_cases hfin : r.k = 3 ∨ va = 0
          · have he : tm S.E va = oneT level (tm S.E x) := by
              rw [p3,ht]
              rw [ht] at hle
              rcases hkk with h | h
              · rw [if_pos h] at hle ⊢
                have hv0 : va = 0 := by omega
                rw [hv0,tm_zero] at p3
                rw [oneT,if_neg hle,← p3]
                split <;> rfl
              · rw [if_neg (by omega)] at hle ⊢
                rw [oneT,if_neg hle]
            have hset := on_set va hx
            have hO2 := hO.snoc hx ⟨hk.1,hk.2.1⟩ p2 he
            obtain ⟨q1,q2⟩ := hS.mem (v := va) hO hx
            (repeat' ((conv => whnf); first | (refine CallK_pack2 (key1 := 78) (key2 := 77) rfl rfl (fun w hR h0 => c2 _ _ _ _ _ h0 (hG.cast2 hR)) ?_; rintro _ _ ⟨rfl,fp1',fp2',rfl⟩; refine ⟨.v _,rfl,?_⟩) | (refine CallK_pack (key := 77) rfl (fun w hR h0 => c3 _ _ _ h0) ?_; rintro _ _ ⟨rfl,fp',rfl⟩; refine ⟨.v _,rfl,?_⟩) | rw [hi] | rw [hset] | rw [hsn] | refine ldCell hr1 ?_ | refine lk_none hm ?_ | refine lk_some hma ?_ | refine ⟨.mp 3101 mb,⟨rfl,rfl⟩,?_⟩ | refine ⟨.ptr 3000 bp 0,⟨rfl,rfl⟩,?_⟩ | refine ⟨.sl 17 _ _ _,⟨rfl,rfl,rfl,rfl⟩,?_⟩ | refine ⟨_,⟨rfl,trivial⟩,?_⟩ | refine stop_and ?_ ?_ | (refine bcase_prop (fun h => ?_) (fun h => ?_) <;> try (exfalso; omega)) | (refine bcase_nprop (fun h => ?_) (fun h => ?_) <;> try (exfalso; omega)) | (refine bcase_intro (fun h => ?_) (fun h => ?_) <;> (try simp only [Bool.not_eq_true',Bool.not_eq_false',decide_eq_true_eq,decide_eq_false_iff_not,Bool.not_eq_true,Bool.not_eq_false,Decidable.not_not] at h)) | refine And.intro (by first | omega | exact rfl | assumption | exact ⟨rfl,rfl,rfl,rfl,rfl⟩ | exact ⟨rfl,rfl,rfl,rfl⟩ | exact ⟨rfl,by omega⟩ | exact oneAll_of rfl | exact ⟨rfl,oneAll_of rfl⟩ | exact Ref.refl _ | exact Thin.ref (.skip (Thin.refl _)) | exact Thin.ref (.skip (.skip (Thin.refl _))) | exact ⟨rfl,rfl,_,rfl⟩ | exact ⟨by unfold maxLen; omega,by omega⟩ | exact fun _ => Ref.refl _ | exact fun _ => Thin.ref (by (repeat (first | exact Thin.nil _ | exact Thin.refl _ | refine Thin.keep rfl (fun _ h => h) ?_ | refine Thin.skip ?_))) | exact ⟨rfl,Nat.le_of_ble_eq_true rfl⟩ | ((try unfold maxLen); (try simp only [List.length_nil,List.length_cons,List.length_append]); omega) | (refine ⟨rfl,?_⟩; (try simp only [List.length_nil,List.length_cons,List.length_append]); omega)) ?_ | intro _)); (all_goals (conv => whnf))
            all_goals first | (exfalso; omega) | skip
            all_goals exact loop_next ⟨om ++ [(x,va)],rest ++ [x],a,c,_,_⟩ ⟨hO2,q1⟩ q2 (by (repeat ((conv => whnf); refine And.intro (by first | exact rfl | exact vint_eq (by omega) | exact vint_eq (by (dsimp only; omega)) | exact vsl_eq (by omega) | exact vsl_eq (by first | (dsimp only; omega) | (simp; done) | (simp; omega))) ?_)); exact trivial) (Ref.takes [78,77,3000,3100,3101,17] rfl (Thin.refl _))
          · have hk2 : r.k = 2 := by omega
            have hbr := hbb hk2
            rw [if_pos hk2] at ht
            have hlb : Lvd (tm S.E r.b) := by rw [ht] at hlx; exact hlx.pr.2
            by_cases hb : (onG om r.b).isSome = true
            · obtain ⟨vb,hvb⟩ := Option.isSome_iff_exists.1 hb
              have hmb := on_some hvb
              obtain ⟨s1,s2,s3⟩ := hO.ok _ _ hvb
              have hone : oneT level (tm S.E x) = if oneT level (tm S.E r.a) = oneT level (tm S.E r.b) then oneT level (tm S.E r.a) else .nil := by
                rw [ht] at hle ⊢
                rw [oneT,if_neg hle]
              rw [← p3,← s3] at hone
              have hvab := hw.inj0 p2.1 p2.2 s2.1 s2.2
              by_cases hvv : va = vb
              · rw [if_pos (hvab.2 hvv)] at hone
                have hset := on_set va hx
                have hO2 := hO.snoc hx ⟨hk.1,hk.2.1⟩ p2 hone.symm
                obtain ⟨q1,q2⟩ := hS.mem (v := va) hO hx
                (repeat' ((conv => whnf); first | (refine CallK_pack2 (key1 := 78) (key2 := 77) rfl rfl (fun w hR h0 => c2 _ _ _ _ _ h0 (hG.cast2 hR)) ?_; rintro _ _ ⟨rfl,fp1',fp2',rfl⟩; refine ⟨.v _,rfl,?_⟩) | (refine CallK_pack (key := 77) rfl (fun w hR h0 => c3 _ _ _ h0) ?_; rintro _ _ ⟨rfl,fp',rfl⟩; refine ⟨.v _,rfl,?_⟩) | rw [hi] | rw [hset] | rw [hsn] | refine ldCell hr1 ?_ | refine lk_none hm ?_ | refine lk_some hma ?_ | refine lk_some hmb ?_ | refine ⟨.mp 3101 mb,⟨rfl,rfl⟩,?_⟩ | refine ⟨.ptr 3000 bp 0,⟨rfl,rfl⟩,?_⟩ | refine ⟨.sl 17 _ _ _,⟨rfl,rfl,rfl,rfl⟩,?_⟩ | refine ⟨_,⟨rfl,trivial⟩,?_⟩ | refine stop_and ?_ ?_ | (refine bcase_prop (fun h => ?_) (fun h => ?_) <;> try (exfalso; omega)) | (refine bcase_nprop (fun h => ?_) (fun h => ?_) <;> try (exfalso; omega)) | (refine bcase_intro (fun h => ?_) (fun h => ?_) <;> (try simp only [Bool.not_eq_true',Bool.not_eq_false',decide_eq_true_eq,decide_eq_false_iff_not,Bool.not_eq_true,Bool.not_eq_false,Decidable.not_not] at h)) | refine And.intro (by first | omega | exact rfl | assumption | exact ⟨rfl,rfl,rfl,rfl,rfl⟩ | exact ⟨rfl,rfl,rfl,rfl⟩ | exact ⟨rfl,by omega⟩ | exact oneAll_of rfl | exact ⟨rfl,oneAll_of rfl⟩ | exact Ref.refl _ | exact Thin.ref (.skip (Thin.refl _)) | exact Thin.ref (.skip (.skip (Thin.refl _))) | exact ⟨rfl,rfl,_,rfl⟩ | exact ⟨by unfold maxLen; omega,by omega⟩ | exact fun _ => Ref.refl _ | exact fun _ => Thin.ref (by (repeat (first | exact Thin.nil _ | exact Thin.refl _ | refine Thin.keep rfl (fun _ h => h) ?_ | refine Thin.skip ?_))) | exact ⟨rfl,Nat.le_of_ble_eq_true rfl⟩ | ((try unfold maxLen); (try simp only [List.length_nil,List.length_cons,List.length_append]); omega) | (refine ⟨rfl,?_⟩; (try simp only [List.length_nil,List.length_cons,List.length_append]); omega)) ?_ | intro _)); (all_goals (conv => whnf))
                all_goals first | (exfalso; omega) | skip
                all_goals exact loop_next ⟨om ++ [(x,va)],rest ++ [x],a,c,_,_⟩ ⟨hO2,q1⟩ q2 (by (repeat ((conv => whnf); refine And.intro (by first | exact rfl | exact vint_eq (by omega) | exact vint_eq (by (dsimp only; omega)) | exact vsl_eq (by omega) | exact vsl_eq (by first | (dsimp only; omega) | (simp; done) | (simp; omega))) ?_)); exact trivial) (Ref.takes [78,77,3000,3100,3101,17] rfl (Thin.refl _))
              · rw [if_neg (fun h => hvv (hvab.1 h))] at hone
                have hset := on_set 0 hx
                have hO2 := hO.snoc hx ⟨hk.1,hk.2.1⟩ (v := 0) ⟨Int.le_refl _,by omega⟩ hone.symm
                obtain ⟨q1,q2⟩ := hS.mem (v := 0) hO hx
                (repeat' ((conv => whnf); first | (refine CallK_pack2 (key1 := 78) (key2 := 77) rfl rfl (fun w hR h0 => c2 _ _ _ _ _ h0 (hG.cast2 hR)) ?_; rintro _ _ ⟨rfl,fp1',fp2',rfl⟩; refine ⟨.v _,rfl,?_⟩) | (refine CallK_pack (key := 77) rfl (fun w hR h0 => c3 _ _ _ h0) ?_; rintro _ _ ⟨rfl,fp',rfl⟩; refine ⟨.v _,rfl,?_⟩) | rw [hi] | rw [hset] | rw [hsn] | refine ldCell hr1 ?_ | refine lk_none hm ?_ | refine lk_some hma ?_ | refine lk_some hmb ?_ | refine ⟨.mp 3101 mb,⟨rfl,rfl⟩,?_⟩ | refine ⟨.ptr 3000 bp 0,⟨rfl,rfl⟩,?_⟩ | refine ⟨.sl 17 _ _ _,⟨rfl,rfl,rfl,rfl⟩,?_⟩ | refine ⟨_,⟨rfl,trivial⟩,?_⟩ | refine stop_and ?_ ?_ | (refine bcase_prop (fun h => ?_) (fun h => ?_) <;> try (exfalso; omega)) | (refine bcase_nprop (fun h => ?_) (fun h => ?_) <;> try (exfalso; omega)) | (refine bcase_intro (fun h => ?_) (fun h => ?_) <;> (try simp only [Bool.not_eq_true',Bool.not_eq_false',decide_eq_true_eq,decide_eq_false_iff_not,Bool.not_eq_true,Bool.not_eq_false,Decidable.not_not] at h)) | refine And.intro (by first | omega | exact rfl | assumption | exact ⟨rfl,rfl,rfl,rfl,rfl⟩ | exact ⟨rfl,rfl,rfl,rfl⟩ | exact ⟨rfl,by omega⟩ | exact oneAll_of rfl | exact ⟨rfl,oneAll_of rfl⟩ | exact Ref.refl _ | exact Thin.ref (.skip (Thin.refl _)) | exact Thin.ref (.skip (.skip (Thin.refl _))) | exact ⟨rfl,rfl,_,rfl⟩ | exact ⟨by unfold maxLen; omega,by omega⟩ | exact fun _ => Ref.refl _ | exact fun _ => Thin.ref (by (repeat (first | exact Thin.nil _ | exact Thin.refl _ | refine Thin.keep rfl (fun _ h => h) ?_ | refine Thin.skip ?_))) | exact ⟨rfl,Nat.le_of_ble_eq_true rfl⟩ | ((try unfold maxLen); (try simp only [List.length_nil,List.length_cons,List.length_append]); omega) | (refine ⟨rfl,?_⟩; (try simp only [List.length_nil,List.length_cons,List.length_append]); omega)) ?_ | intro _)); (all_goals (conv => whnf))
                all_goals first | (exfalso; omega) | skip
                all_goals exact loop_next ⟨om ++ [(x,0)],rest ++ [x],a,c,_,_⟩ ⟨hO2,q1⟩ q2 (by (repeat ((conv => whnf); refine And.intro (by first | exact rfl | exact vint_eq (by omega) | exact vint_eq (by (dsimp only; omega)) | exact vsl_eq (by omega) | exact vsl_eq (by first | (dsimp only; omega) | (simp; done) | (simp; omega))) ?_)); exact trivial) (Ref.takes [78,77,3000,3100,3101,17] rfl (Thin.refl _))
            · have hb : onG om r.b = none := by simpa using hb
              have hmb := on_none hb
              obtain ⟨q1,q2⟩ := hS.push hx hb hbr.1 hbr.2 hlb
              (repeat' ((conv => whnf); first | (refine CallK_pack2 (key1 := 78) (key2 := 77) rfl rfl (fun w hR h0 => c2 _ _ _ _ _ h0 (hG.cast2 hR)) ?_; rintro _ _ ⟨rfl,fp1',fp2',rfl⟩; refine ⟨.v _,rfl,?_⟩) | (refine CallK_pack (key := 77) rfl (fun w hR h0 => c3 _ _ _ h0) ?_; rintro _ _ ⟨rfl,fp',rfl⟩; refine ⟨.v _,rfl,?_⟩) | rw [hi] | rw [hsn] | refine ldCell hr1 ?_ | refine lk_none hm ?_ | refine lk_some hma ?_ | refine lk_none hmb ?_ | refine ⟨.mp 3101 mb,⟨rfl,rfl⟩,?_⟩ | refine ⟨.ptr 3000 bp 0,⟨rfl,rfl⟩,?_⟩ | refine ⟨.sl 17 _ _ _,⟨rfl,rfl,rfl,rfl⟩,?_⟩ | refine ⟨_,⟨rfl,trivial⟩,?_⟩ | refine stop_and ?_ ?_ | (refine bcase_prop (fun h => ?_) (fun h => ?_) <;> try (exfalso; omega)) | (refine bcase_nprop (fun h => ?_) (fun h => ?_) <;> try (exfalso; omega)) | (refine bcase_intro (fun h => ?_) (fun h => ?_) <;> (try simp only [Bool.not_eq_true',Bool.not_eq_false',decide_eq_true_eq,decide_eq_false_iff_not,Bool.not_eq_true,Bool.not_eq_false,Decidable.not_not] at h)) | refine And.intro (by first | omega | exact rfl | assumption | exact ⟨rfl,rfl,rfl,rfl,rfl⟩ | exact ⟨rfl,rfl,rfl,rfl⟩ | exact ⟨rfl,by omega⟩ | exact oneAll_of rfl | exact ⟨rfl,oneAll_of rfl⟩ | exact Ref.refl _ | exact Thin.ref (.skip (Thin.refl _)) | exact Thin.ref (.skip (.skip (Thin.refl _))) | exact ⟨rfl,rfl,_,rfl⟩ | exact ⟨by unfold maxLen; omega,by omega⟩ | exact fun _ => Ref.refl _ | exact fun _ => Thin.ref (by (repeat (first | exact Thin.nil _ | exact Thin.refl _ | refine Thin.keep rfl (fun _ h => h) ?_ | refine Thin.skip ?_))) | exact ⟨rfl,Nat.le_of_ble_eq_true rfl⟩ | ((try unfold maxLen); (try simp only [List.length_nil,List.length_cons,List.length_append]); omega) | (refine ⟨rfl,?_⟩; (try simp only [List.length_nil,List.length_cons,List.length_append]); omega)) ?_ | intro _)); (all_goals (conv => whnf))
              all_goals first | (exfalso; omega) | skip
              all_goals exact loop_next ⟨om,rest ++ [x] ++ [r.b],_,_,_,_⟩ ⟨hO,q1⟩ q2 (by (repeat ((conv => whnf); refine And.intro (by first | exact rfl | exact vint_eq (by omega) | exact vint_eq (by (dsimp only; omega)) | exact vsl_eq (by omega) | exact vsl_eq (by first | (dsimp only; omega) | (simp; done) | (simp; omega))) ?_)); exact trivial) (Ref.takes [78,77,3000,3100,3101,17] rfl (.keep rfl (fun _ h => h) (.keep rfl (fun _ h => h) (.keep rfl (fun _ h => h) (.keep rfl (fun _ h => h) (.keep rfl (fun _ h => h) (.own (hln _).symm rfl (.nil _))))))))
        · have ha : onG om r.a = none := by simpa using ha
          have hma := on_none ha
          obtain ⟨q1,q2⟩ := hS.push hx ha hab.1 hab.2 hla
          (repeat' ((conv => whnf); first | (refine CallK_pack2 (key1 := 78) (key2 := 77) rfl rfl (fun w hR h0 => c2 _ _ _ _ _ h0 (hG.cast2 hR)) ?_; rintro _ _ ⟨rfl,fp1',fp2',rfl⟩; refine ⟨.v _,rfl,?_⟩) | (refine CallK_pack (key := 77) rfl (fun w hR h0 => c3 _ _ _ h0) ?_; rintro _ _ ⟨rfl,fp',rfl⟩; refine ⟨.v _,rfl,?_⟩) | rw [hi] | rw [hsn] | refine ldCell hr1 ?_ | refine lk_none hm ?_ | refine lk_none hma ?_ | refine ⟨.mp 3101 mb,⟨rfl,rfl⟩,?_⟩ | refine ⟨.ptr 3000 bp 0,⟨rfl,rfl⟩,?_⟩ | refine ⟨.sl 17 _ _ _,⟨rfl,rfl,rfl,rfl⟩,?_⟩ | refine ⟨_,⟨rfl,trivial⟩,?_⟩ | refine stop_and ?_ ?_ | (refine bcase_prop (fun h => ?_) (fun h => ?_) <;> try (exfalso; omega)) | (refine bcase_nprop (fun h => ?_) (fun h => ?_) <;> try (exfalso; omega)) | (refine bcase_intro (fun h => ?_) (fun h => ?_) <;> (try simp only [Bool.not_eq_true',Bool.not_eq_false',decide_eq_true_eq,decide_eq_false_iff_not,Bool.not_eq_true,Bool.not_eq_false,Decidable.not_not] at h)) | refine And.intro (by first | omega | exact rfl | assumption | exact ⟨rfl,rfl,rfl,rfl,rfl⟩ | exact ⟨rfl,rfl,rfl,rfl⟩ | exact ⟨rfl,by omega⟩ | exact oneAll_of rfl | exact ⟨rfl,oneAll_of rfl⟩ | exact Ref.refl _ | exact Thin.ref (.skip (Thin.refl _)) | exact Thin.ref (.skip (.skip (Thin.refl _))) | exact ⟨rfl,rfl,_,rfl⟩ | exact ⟨by unfold maxLen; omega,by omega⟩ | exact fun _ => Ref.refl _ | exact fun _ => Thin.ref (by (repeat (first | exact Thin.nil _ | exact Thin.refl _ | refine Thin.keep rfl (fun _ h => h) ?_ | refine Thin.skip ?_))) | exact ⟨rfl,Nat.le_of_ble_eq_true rfl⟩ | ((try unfold maxLen); (try simp only [List.length_nil,List.length_cons,List.length_append]); omega) | (refine ⟨rfl,?_⟩; (try simp only [List.length_nil,List.length_cons,List.length_append]); omega)) ?_ | intro _)); (all_goals (conv => whnf))
          all_goals first | (exfalso; omega) | skip
          all_goals exact loop_next ⟨om,rest ++ [x] ++ [r.a],_,_,_,_⟩ ⟨hO,q1⟩ q2 (by (repeat ((conv => whnf); refine And.intro (by first | exact rfl | exact vint_eq (by omega) | exact vint_eq (by (dsimp only; omega)) | exact vsl_eq (by omega) | exact vsl_eq (by first | (dsimp only; omega) | (simp; done) | (simp; omega))) ?_)); exact trivial) (Ref.takes [78,77,3000,3100,3101,17] rfl (.keep rfl (fun _ h => h) (.keep rfl (fun _ h => h) (.keep rfl (fun _ h => h) (.keep rfl (fun _ h => h) (.keep rfl (fun _ h => h) (.own (hln _).symm rfl (.nil _))))))))
end Go.Proofs.YtkkhpdkfploodaaGreatDoor
/- The groups of a symbol's sequence: the program. -/
namespace Go.Proofs.YtkkhpdkfploodaaGreatDoor
open Go.EG
attribute [local irreducible] CallK QCall Go.Calls
set_option linter.unusedSimpArgs false
set_option linter.unusedVariables false
set_option maxRecDepth 20000
set_option maxHeartbeats 4000000
structure GpG where
  om : List (Int × Int)
  gl : List (Int × Int)
  todo : List (Int × Int)
  ds : List Tm
  al : Option Addr
  cl : Nat
  a : Option Addr
  c : Nat
  f1 : List Nat
  f2 : List Nat
theorem last_prs {rest : List (Int × Int)} {x t : Int} : ((prs .i64 (rest ++ [(x,t)])).drop (rest.length * 2)).take 2 = [.int .i64 x,.int .i64 t] := by
  have e : prs .i64 (rest ++ [(x,t)]) = prs .i64 rest ++ [.int .i64 x,.int .i64 t] := by simp [prs]
  rw [e,← prs_len .i64 rest,List.drop_left]; rfl
theorem cut_prs {rest : List (Int × Int)} {x t : Int} : (prs .i64 (rest ++ [(x,t)])).take (rest.length * 2) = prs .i64 rest := by
  have e : prs .i64 (rest ++ [(x,t)]) = prs .i64 rest ++ [.int .i64 x,.int .i64 t] := by simp [prs]
  rw [e,← prs_len .i64 rest,List.take_left]
def gpQ (bx bp bt bs mb : Nat) (S : Sto) (level : Int) (id : Int) (v : Value) (L1 : List Ent) : Prop :=
  ∃ om g1 g2,(∃ gl a c,Gok S gl ∧ gl.map (grT S) = runsT (expT level (tm S.E id)) ∧ gl.length ≤ 65536 ∧ v = .tuple #[.slice a gl.length c,.nilIface] ∧ L1 = fX bx bp bt bs mb level S om g1 g2 ++ [.own 860 a gl.length c ty_api_Group 2 (prs .i64 gl)]) ∨
    (65536 < (runsT (expT level (tm S.E id))).length ∧ v = .tuple #[.slice none 0 0,errV 9] ∧ L1 = fX bx bp bt bs mb level S om g1 g2)
theorem calls_groups (bx bp bt bs mb : Nat) (level : Int) (h0 : 0 ≤ level) (S : Sto) (hw : WF S) (om : List (Int × Int)) (hO : On S level om) (id : Int) (h1 : 1 ≤ id) (h2 : id ≤ S.E.length) (hl : Lvd (tm S.E id)) (f1 f2 fp : List Nat) (w : World)
    (hR : R w fp (fX bx bp bt bs mb level S om f1 f2) w) (hG : TabF w fp) :
    Calls Tryz.prog fn_P_signature_expansion_groups #[pS bx,.int .i64 id] w fun e w' => ∃ v L1,e = .returned v ∧ R w fp L1 w' ∧ gpQ bx bp bt bs mb S level id v L1 := by
  refine part_call [.ptr 3100 bx 0,.v (.int .i64 id)] ok_P_signature_expansion_groups (by simp) hR ?_
  have hsm := hw.small
  have hLM : LM = 1152921504606846976 := rfl
  (repeat' ((conv => whnf); first | (refine bcase_prop (fun h => ?_) (fun h => ?_) <;> try (exfalso; omega)) | (refine bcase_nprop (fun h => ?_) (fun h => ?_) <;> try (exfalso; omega)) | (refine bcase_intro (fun h => ?_) (fun h => ?_) <;> (try simp only [Bool.not_eq_true',Bool.not_eq_false',decide_eq_true_eq,decide_eq_false_iff_not,Bool.not_eq_true,Bool.not_eq_false,Decidable.not_not] at h)) | refine And.intro (by first | omega | exact rfl | assumption | exact ⟨rfl,rfl,rfl,rfl,rfl⟩ | exact ⟨rfl,rfl,rfl,rfl⟩ | exact ⟨rfl,by omega⟩ | exact oneAll_of rfl | exact ⟨rfl,oneAll_of rfl⟩ | exact Ref.refl _ | exact Thin.ref (.skip (Thin.refl _)) | exact Thin.ref (.skip (.skip (Thin.refl _))) | exact ⟨rfl,Nat.le_of_ble_eq_true rfl⟩ | ((try unfold maxLen); (try simp only [List.length_nil,List.length_cons,List.length_append]); omega) | (refine ⟨rfl,?_⟩; (try simp only [List.length_nil,List.length_cons,List.length_append]); omega)) ?_ | intro _)); (all_goals (conv => whnf))
  rename_i b16
  refine VC_loop GpG (fun y => [(0,.ptr 3100 bx 0),(6,.sl 860 y.al y.gl.length y.cl),(7,.sl 16 y.a y.todo.length y.c)]) (fun y => fX bx bp bt bs mb level S y.om y.f1 y.f2 ++ [.own 860 y.al y.gl.length y.cl ty_api_Group 2 (prs .i64 y.gl),.own 16 y.a y.todo.length y.c ty_api_Group 2 (prs .i64 y.todo)])
    (fun y => On S level y.om ∧ Grp S level id y.gl y.todo y.ds) (fun y => Grp.mu S y.todo) ⟨om,[],[(id,1)],[],none,0,_,1,f1,f2⟩ ⟨hO,Grp.start h1 h2 hl⟩ (by (repeat ((conv => whnf); refine And.intro (by first | exact rfl | exact vint_eq (by omega) | exact vint_eq (by (dsimp only; omega)) | exact vsl_eq (by omega) | exact vsl_eq (by first | (dsimp only; omega) | (simp; done) | (simp; omega))) ?_)); exact trivial) ((Ref.ownNil 860 ty_api_Group 2).trans (Ref.takes [78,77,3000,3100,3101,860,16] rfl (Thin.refl _))) ?_
  clear hO hl
  rintro ⟨om,gl,todo,ds,al,cl,a,c,g1,g2⟩ ⟨hO,hg⟩
  dsimp only at hO hg ⊢
  have hdeep := hg.deep h2
  rcases List.eq_nil_or_concat todo with rfl | ⟨rest,⟨x,t⟩,rfl⟩
  · have hall := hg.all
    have hru := hg.runs
    simp only [List.map_nil,leftT,List.reverse_nil,List.flatMap_nil,List.append_nil] at hall
    rw [hall] at hru
    have hms := hg.most
    (repeat' ((conv => whnf); first | refine ⟨.sl 860 _ _ _,⟨rfl,rfl,rfl,rfl⟩,?_⟩ | refine ⟨_,⟨rfl,trivial⟩,?_⟩ | (refine bcase_prop (fun h => ?_) (fun h => ?_) <;> try (exfalso; omega)) | (refine bcase_nprop (fun h => ?_) (fun h => ?_) <;> try (exfalso; omega)) | (refine bcase_intro (fun h => ?_) (fun h => ?_) <;> (try simp only [Bool.not_eq_true',Bool.not_eq_false',decide_eq_true_eq,decide_eq_false_iff_not,Bool.not_eq_true,Bool.not_eq_false,Decidable.not_not] at h)) | refine And.intro (by first | omega | exact rfl | assumption | exact ⟨rfl,rfl,rfl,rfl,rfl⟩ | exact ⟨rfl,rfl,rfl,rfl⟩ | exact ⟨rfl,by omega⟩ | exact oneAll_of rfl | exact ⟨rfl,oneAll_of rfl⟩ | exact Ref.refl _ | exact Thin.ref (.skip (Thin.refl _)) | exact Thin.ref (.skip (.skip (Thin.refl _))) | exact ⟨rfl,Nat.le_of_ble_eq_true rfl⟩ | ((try unfold maxLen); (try simp only [List.length_nil,List.length_cons,List.length_append]); omega) | (refine ⟨rfl,?_⟩; (try simp only [List.length_nil,List.length_cons,List.length_append]); omega)) ?_ | intro _)); (all_goals (conv => whnf))
    all_goals first | (exfalso; omega) | skip
    exact ⟨⟨_,Ref.takes [78,77,3000,3100,3101,860] rfl (Thin.refl _),om,g1,g2,.inl ⟨gl,al,cl,hg.gok,hru,hms,rfl,rfl⟩⟩⟩
  · rw [List.concat_eq_append] at hg hdeep ⊢
    have hi : ((((rest ++ [(x,t)]).length : Nat) : Int) - 1).toNat = rest.length := by simp
    have hlr : (rest ++ [(x,t)]).length = rest.length + 1 := by simp
    have hr1 := last_prs (rest := rest) (x := x) (t := t)
    have hct := cut_prs (rest := rest) (x := x) (t := t)
    have hx := hg.tok (x,t) (by simp)
    have hsmall := (hg.small hw h2).1 (x,t) (by simp)
    have hlx := (hw.pos_ hx.1.1 hx.1.2).len
    dsimp only at hx hsmall hlx
    have htl : t ≤ LM := Int.le_trans (by have := Int.mul_le_mul_of_nonneg_left (show (1 : Int) ≤ ((tm S.E x).len : Int) by omega) (show (0 : Int) ≤ t by omega); omega) hsmall
    have c1 := fun g1 g2 fp w h h' => calls_single bx bp bt bs mb level h0 S hw om hO x hx.1.1 hx.1.2 hx.2.2 g1 g2 fp w h h'
    have hms := hg.most
    by_cases hon : oneT level (tm S.E x) = .nil
    · have hlev : ¬ (tm S.E x).level ≤ level := fun h => by
        rw [oneT_low h] at hon
        exact (hw.pos_ hx.1.1 hx.1.2).ne hon
      obtain ⟨hr,_,ht,_⟩ := hw.at_ hx.1.1 hx.1.2
      have c3 := calls_Rule bs S x hsm
      rw [ruleV_ok hx.1.1 hx.1.2] at c3
      have hnl : ¬ (atE S.E x).r.k = 1 := fun he => hlev (by rw [ht]; unfold mkT; rw [if_pos he]; exact h0)
      have hrt := hw.tim hx.1.1 hx.1.2
      unfold mkT at ht
      rw [if_neg hnl] at ht
      have hab : 1 ≤ (atE S.E x).r.a ∧ (atE S.E x).r.a < x := by rcases hr with h | h | h <;> omega
      have hbb : (atE S.E x).r.k = 2 → 1 ≤ (atE S.E x).r.b ∧ (atE S.E x).r.b < x := fun he => by rcases hr with h | h | h <;> omega
      have hkk : (atE S.E x).r.k = 2 ∨ (atE S.E x).r.k = 3 ∧ 2 ≤ (atE S.E x).r.t := by rcases hr with h | h | h <;> omega
      generalize (atE S.E x).r = r at *
      rcases hkk with hk2 | ⟨hk3,hk4⟩
      · rw [if_pos hk2] at ht
        obtain ⟨p1,p2⟩ := hg.pair hw hab (hbb hk2) ht hlev
        have hsn2 : (prs .i64 (rest ++ [(x,t)])).take (rest.length * 2) ++ [.int .i64 r.b,.int .i64 1,.int .i64 r.a,.int .i64 1] = prs .i64 (rest ++ [(r.b,1)] ++ [(r.a,1)]) := by rw [hct]; simp [prs]
        have hsn3 : (prs .i64 (rest ++ [(x,t)])).take (rest.length * 2) ++ [.int .i64 x,.int .i64 (t - 1)] ++ [.int .i64 r.b,.int .i64 1,.int .i64 r.a,.int .i64 1] = prs .i64 (rest ++ [(x,t - 1)] ++ [(r.b,1)] ++ [(r.a,1)]) := by rw [hct]; simp [prs]
        (repeat' ((conv => whnf); first | rw [hi] | refine ldRow hr1 ?_ | (refine CallK_sub [78,77,3000,3100,3101] rfl (fun w hR h0 => c1 _ _ _ w h0 (hG.castL hR)) ?_; rintro _ _ ⟨om',k1,k2,⟨y,rfl,hy,he,hO'⟩,rfl⟩; have hy0 : y = 0 := (hw.nil_iff hy.1 hy.2).1 (he.trans hon); subst hy0; refine ⟨.v _,rfl,?_⟩) | (refine CallK_pack (key := 77) rfl (fun w hR h0 => c3 _ _ _ h0) ?_; rintro _ _ ⟨rfl,fp',rfl⟩; refine ⟨.v _,rfl,?_⟩) | refine ⟨.mp 3101 mb,⟨rfl,rfl⟩,?_⟩ | refine ⟨.ptr 3000 bp 0,⟨rfl,rfl⟩,?_⟩ | refine ⟨.sl 16 _ _ _,⟨rfl,rfl,rfl,rfl⟩,?_⟩ | refine ⟨.sl 860 _ _ _,⟨rfl,rfl,rfl,rfl⟩,?_⟩ | refine ⟨_,⟨rfl,trivial⟩,?_⟩ | refine stop_and ?_ ?_ | refine VC_base _ (Ref.takes [3000,3100,8] rfl (Thin.refl _)) ?_ | (refine bcase_prop (fun h => ?_) (fun h => ?_) <;> try (exfalso; omega)) | (refine bcase_nprop (fun h => ?_) (fun h => ?_) <;> try (exfalso; omega)) | (refine bcase_intro (fun h => ?_) (fun h => ?_) <;> (try simp only [Bool.not_eq_true',Bool.not_eq_false',decide_eq_true_eq,decide_eq_false_iff_not,Bool.not_eq_true,Bool.not_eq_false,Decidable.not_not] at h)) | refine And.intro (by first | omega | exact rfl | assumption | exact ⟨rfl,rfl,rfl,rfl,rfl⟩ | exact ⟨rfl,rfl,rfl,rfl⟩ | exact ⟨rfl,by omega⟩ | exact oneAll_of rfl | exact ⟨rfl,oneAll_of rfl⟩ | exact Ref.refl _ | exact Thin.ref (.skip (Thin.refl _)) | exact Thin.ref (.skip (.skip (Thin.refl _))) | exact fun h => Bool.noConfusion h | exact fun _ => Ref.refl _ | exact Ref.takes [3000,3100,8] rfl (Thin.refl _) | exact fun _ => Ref.takes [3000,3100,8] rfl (Thin.refl _) | exact ⟨rfl,Nat.le_of_ble_eq_true rfl⟩ | ((try unfold maxLen); (try simp only [List.length_nil,List.length_cons,List.length_append]); omega) | (refine ⟨rfl,?_⟩; (try simp only [List.length_nil,List.length_cons,List.length_append]); omega)) ?_ | intro _)); (all_goals (conv => whnf))
        all_goals first | (exfalso; omega) | skip
        all_goals by_cases ht1 : t = 1
        all_goals first | (exfalso; omega) | skip
        all_goals first | exact loop_next ⟨om',gl,_,ds,al,cl,_,_,k1,fp'⟩ ⟨hO',(p1 ht1).1⟩ (p1 ht1).2 (by (repeat ((conv => whnf); refine And.intro (by first | exact rfl | exact vint_eq (by omega) | exact vint_eq (by (dsimp only; omega)) | exact vsl_eq (by omega) | exact vsl_eq (by first | (dsimp only; omega) | (simp; done) | (simp; omega))) ?_)); exact trivial) (Ref.takes [78,77,3000,3100,3101,860,16] rfl (.keep rfl (fun _ h => h) (.keep rfl (fun _ h => h) (.keep rfl (fun _ h => h) (.keep rfl (fun _ h => h) (.keep rfl (fun _ h => h) (.keep rfl (fun _ h => h) (.own (by simp) hsn2 (.nil _))))))))) | (have ht2 : 1 < t := by omega); exact loop_next ⟨om',gl,_,ds,al,cl,_,_,k1,fp'⟩ ⟨hO',(p2 ht2).1⟩ (p2 ht2).2 (by (repeat ((conv => whnf); refine And.intro (by first | exact rfl | exact vint_eq (by omega) | exact vint_eq (by (dsimp only; omega)) | exact vsl_eq (by omega) | exact vsl_eq (by first | (dsimp only; omega) | (simp; done) | (simp; omega))) ?_)); exact trivial) (Ref.takes [78,77,3000,3100,3101,860,16] rfl (.keep rfl (fun _ h => h) (.keep rfl (fun _ h => h) (.keep rfl (fun _ h => h) (.keep rfl (fun _ h => h) (.keep rfl (fun _ h => h) (.keep rfl (fun _ h => h) (.own (by simp) hsn3 (.nil _)))))))))
      · rw [if_neg (by omega)] at ht
        obtain ⟨p0,p1,p2⟩ := hg.pow hw hab hk4 ht hlev h2
        have htk1 : 0 ≤ t * r.t := Int.mul_nonneg (by omega) (by omega)
        have hsn1 : (prs .i64 (rest ++ [(x,t)])).take (rest.length * 2) ++ [.int .i64 r.a,.int .i64 (t * r.t)] = prs .i64 (rest ++ [(r.a,t * r.t)]) := by rw [hct]; exact prs_snoc
        (repeat' ((conv => whnf); first | rw [hi] | refine ldRow hr1 ?_ | (refine CallK_sub [78,77,3000,3100,3101] rfl (fun w hR h0 => c1 _ _ _ w h0 (hG.castL hR)) ?_; rintro _ _ ⟨om',k1,k2,⟨y,rfl,hy,he,hO'⟩,rfl⟩; have hy0 : y = 0 := (hw.nil_iff hy.1 hy.2).1 (he.trans hon); subst hy0; refine ⟨.v _,rfl,?_⟩) | (refine CallK_pack (key := 77) rfl (fun w hR h0 => c3 _ _ _ h0) ?_; rintro _ _ ⟨rfl,fp',rfl⟩; refine ⟨.v _,rfl,?_⟩) | refine ⟨.mp 3101 mb,⟨rfl,rfl⟩,?_⟩ | refine ⟨.ptr 3000 bp 0,⟨rfl,rfl⟩,?_⟩ | refine ⟨.sl 16 _ _ _,⟨rfl,rfl,rfl,rfl⟩,?_⟩ | refine ⟨.sl 860 _ _ _,⟨rfl,rfl,rfl,rfl⟩,?_⟩ | refine ⟨_,⟨rfl,trivial⟩,?_⟩ | refine stop_and ?_ ?_ | refine VC_base _ (Ref.takes [3000,3100,8] rfl (Thin.refl _)) ?_ | (refine bcase_prop (fun h => ?_) (fun h => ?_) <;> try (exfalso; omega)) | (refine bcase_nprop (fun h => ?_) (fun h => ?_) <;> try (exfalso; omega)) | (refine bcase_intro (fun h => ?_) (fun h => ?_) <;> (try simp only [Bool.not_eq_true',Bool.not_eq_false',decide_eq_true_eq,decide_eq_false_iff_not,Bool.not_eq_true,Bool.not_eq_false,Decidable.not_not] at h)) | refine And.intro (by first | omega | exact rfl | assumption | exact ⟨rfl,rfl,rfl,rfl,rfl⟩ | exact ⟨rfl,rfl,rfl,rfl⟩ | exact ⟨rfl,by omega⟩ | exact oneAll_of rfl | exact ⟨rfl,oneAll_of rfl⟩ | exact Ref.refl _ | exact Thin.ref (.skip (Thin.refl _)) | exact Thin.ref (.skip (.skip (Thin.refl _))) | exact fun h => Bool.noConfusion h | exact fun _ => Ref.refl _ | exact Ref.takes [3000,3100,8] rfl (Thin.refl _) | exact fun _ => Ref.takes [3000,3100,8] rfl (Thin.refl _) | exact ⟨rfl,Nat.le_of_ble_eq_true rfl⟩ | ((try unfold maxLen); (try simp only [List.length_nil,List.length_cons,List.length_append]); omega) | (refine ⟨rfl,?_⟩; (try simp only [List.length_nil,List.length_cons,List.length_append]); omega)) ?_ | intro _)); (all_goals (conv => whnf))
        all_goals first | (exfalso; omega) | skip
        all_goals exact loop_next ⟨om',gl,_,ds,al,cl,_,_,k1,fp'⟩ ⟨hO',p1⟩ p2 (by (repeat ((conv => whnf); refine And.intro (by first | exact rfl | exact vint_eq (by omega) | exact vint_eq (by (dsimp only; omega)) | exact vsl_eq (by omega) | exact vsl_eq (by first | (dsimp only; omega) | (simp; done) | (simp; omega))) ?_)); exact trivial) (Ref.takes [78,77,3000,3100,3101,860,16] rfl (.keep rfl (fun _ h => h) (.keep rfl (fun _ h => h) (.keep rfl (fun _ h => h) (.keep rfl (fun _ h => h) (.keep rfl (fun _ h => h) (.keep rfl (fun _ h => h) (.own (by simp) hsn1 (.nil _)))))))))
    · (repeat' ((conv => whnf); first | rw [hi] | refine ldRow hr1 ?_ | (refine CallK_sub [78,77,3000,3100,3101] rfl (fun w hR h0 => c1 _ _ _ w h0 (hG.castL hR)) ?_; rintro _ _ ⟨om',k1,k2,⟨y,rfl,hy,he,hO'⟩,rfl⟩; have hy1 : y ≠ 0 := (fun h => hon (by rw [← he,h]; rfl)); have c2 := calls_times bx bp bt bs mb level S hw om' x y ⟨hx.1.1,hx.1.2⟩ ⟨by omega,hy.2⟩; obtain ⟨o1,o2,o3,o4,o5,ds',o6,⟨r,o7⟩,o8⟩ := hg.one hw ⟨by omega,hy.2⟩ he h2; refine ⟨.v _,rfl,?_⟩) | (refine CallK_sub [78,77,3000,3100,3101] rfl (fun w hR h0 => c2 _ _ _ w h0 (hG.castL hR)) ?_; rintro _ _ ⟨om2,k3,k4,⟨rfl,rfl⟩,rfl⟩; refine ⟨.v _,rfl,?_⟩) | (refine CallK_sub [860] rfl (fun w hR h0 => calls_push gl y _ hms (by omega) (fun g h => by have := (hg.gok.ok g h).2; omega) (fun l z u e ez => by have := o5 l z u e ez; omega) _ _ _ w h0) ?_; rintro _ _ ⟨a',c',rfl,rfl⟩; refine ⟨.sl 860 _ _ _,rfl,?_⟩) | refine ⟨.mp 3101 mb,⟨rfl,rfl⟩,?_⟩ | refine ⟨.ptr 3000 bp 0,⟨rfl,rfl⟩,?_⟩ | refine ⟨.sl 16 _ _ _,⟨rfl,rfl,rfl,rfl⟩,?_⟩ | refine ⟨.sl 860 _ _ _,⟨rfl,rfl,rfl,rfl⟩,?_⟩ | refine ⟨_,⟨rfl,trivial⟩,?_⟩ | refine stop_and ?_ ?_ | (refine bcase_prop (fun h => ?_) (fun h => ?_) <;> try (exfalso; omega)) | (refine bcase_nprop (fun h => ?_) (fun h => ?_) <;> try (exfalso; omega)) | (refine bcase_intro (fun h => ?_) (fun h => ?_) <;> (try simp only [Bool.not_eq_true',Bool.not_eq_false',decide_eq_true_eq,decide_eq_false_iff_not,Bool.not_eq_true,Bool.not_eq_false,Decidable.not_not] at h)) | refine And.intro (by first | omega | exact rfl | assumption | exact ⟨rfl,rfl,rfl,rfl,rfl⟩ | exact ⟨rfl,rfl,rfl,rfl⟩ | exact ⟨rfl,by omega⟩ | exact oneAll_of rfl | exact ⟨rfl,oneAll_of rfl⟩ | exact Ref.refl _ | exact Thin.ref (.skip (Thin.refl _)) | exact Thin.ref (.skip (.skip (Thin.refl _))) | exact ⟨rfl,Nat.le_of_ble_eq_true rfl⟩ | ((try unfold maxLen); (try simp only [List.length_nil,List.length_cons,List.length_append]); omega) | (refine ⟨rfl,?_⟩; (try simp only [List.length_nil,List.length_cons,List.length_append]); omega)) ?_ | intro _)); (all_goals (conv => whnf))
      all_goals first | (exfalso; omega) | skip
      · exact ⟨⟨_,Ref.takes [78,77,3000,3100,3101] rfl (Thin.refl _),om2,_,_,.inr ⟨Grp.over o7 (by rw [o6]; omega),rfl,rfl⟩⟩⟩
      · exact loop_next ⟨om2,pushI gl y _,rest,ds',a',c',a,c,k3,k4⟩ ⟨hO',o8 (by omega)⟩ o4 (by (repeat ((conv => whnf); refine And.intro (by first | exact rfl | exact vint_eq (by omega) | exact vint_eq (by (dsimp only; omega)) | exact vsl_eq (by omega) | exact vsl_eq (by first | (dsimp only; omega) | (simp; done) | (simp; omega))) ?_)); exact trivial) (Ref.takes [78,77,3000,3100,3101,860,16] rfl (.keep rfl (fun _ h => h) (.keep rfl (fun _ h => h) (.keep rfl (fun _ h => h) (.keep rfl (fun _ h => h) (.keep rfl (fun _ h => h) (.keep rfl (fun _ h => h) (.own rfl hct (.nil _)))))))))
end Go.Proofs.YtkkhpdkfploodaaGreatDoor
/- Sequences: the program. -/
namespace Go.Proofs.YtkkhpdkfploodaaGreatDoor
open Go.EG
attribute [local irreducible] CallK QCall Go.Calls
set_option linter.unusedSimpArgs false
set_option linter.unusedVariables false
set_option maxRecDepth 20000
set_option maxHeartbeats 4000000
def sqQ (bp bt bs : Nat) (S : Sto) (level : Int) (id : Int) (v : Value) (L1 : List Ent) : Prop :=
  ∃ g1 g2,(∃ gl a c,Gok S gl ∧ gl.map (grT S) = runsT (expT level (tm S.E id)) ∧ gl.length ≤ 65536 ∧ v = .tuple #[.slice a gl.length c,.nilIface] ∧ L1 = fP bp bt bs S g1 g2 ++ [.own 860 a gl.length c ty_api_Group 2 (prs .i64 gl)]) ∨
    (65536 < (runsT (expT level (tm S.E id))).length ∧ v = .tuple #[.slice none 0 0,errV 9] ∧ L1 = fP bp bt bs S g1 g2)
theorem calls_Seq (bp bt bs : Nat) (S : Sto) (hw : WF S) (id level : Int) (h1 : 1 ≤ id) (h2 : id ≤ S.E.length) (hl : 0 ≤ level) (hf : Lvd (tm S.E id)) (f1 f2 fp : List Nat) (w : World) (hR : R w fp (fP bp bt bs S f1 f2) w) (hG : TabF w fp) :
    Calls Tryz.prog fn_P_signature_Parser_Sequence #[pS bp,.int .i64 id,.int .i64 level] w fun e w' => ∃ v L1,e = .returned v ∧ R w fp L1 w' ∧ sqQ bp bt bs S level id v L1 := by
  refine part_call [.ptr 3000 bp 0,.v (.int .i64 id),.v (.int .i64 level)] ok_P_signature_Parser_Sequence (by simp) hR ?_
  have c1 := calls_sLen bs S
  have c2 := calls_Level bt bs S hw id
  unfold levRes at c2
  rw [if_pos ⟨h1,h2⟩,if_neg (by unfold Lvd at hf; omega)] at c2
  have hsm := hw.small
  (repeat' ((conv => whnf); first | (refine CallK_pack (key := 77) rfl (fun w hR h0 => c1 _ _ _ h0) ?_; rintro _ _ ⟨rfl,fp',rfl⟩; refine ⟨.v _,rfl,?_⟩) | (refine CallK_pack2 (key1 := 78) (key2 := 77) rfl rfl (fun w hR h0 => c2 _ _ _ _ _ h0 (hG.cast2 hR)) ?_; rintro _ _ ⟨rfl,fp1',fp2',rfl⟩; refine ⟨.v _,rfl,?_⟩) | refine ⟨_,⟨rfl,trivial⟩,?_⟩ | (refine bcase_prop (fun h => ?_) (fun h => ?_) <;> try (exfalso; omega)) | (refine bcase_nprop (fun h => ?_) (fun h => ?_) <;> try (exfalso; omega)) | (refine bcase_intro (fun h => ?_) (fun h => ?_) <;> (try simp only [Bool.not_eq_true',Bool.not_eq_false',decide_eq_true_eq,decide_eq_false_iff_not,Bool.not_eq_true,Bool.not_eq_false,Decidable.not_not] at h)) | refine And.intro (by first | omega | exact rfl | assumption | exact ⟨rfl,rfl,rfl,rfl,rfl⟩ | exact ⟨rfl,rfl,rfl,rfl⟩ | exact ⟨rfl,by omega⟩ | exact oneAll_of rfl | exact ⟨rfl,oneAll_of rfl⟩ | exact Ref.refl _ | exact Thin.ref (.skip (Thin.refl _)) | exact Thin.ref (.skip (.skip (Thin.refl _))) | exact ⟨rfl,Nat.le_of_ble_eq_true rfl⟩ | ((try unfold maxLen); (try simp only [List.length_nil,List.length_cons,List.length_append]); omega) | (refine ⟨rfl,?_⟩; (try simp only [List.length_nil,List.length_cons,List.length_append]); omega)) ?_ | intro _)); (all_goals (conv => whnf))
  all_goals first | (exfalso; omega) | skip
  rename_i bm b
  refine CallK_ref (L' := fX b bp bt bs bm level S [] _ _) (Ref.takes [78,77,3000,10,53] rfl (.keep rfl (fun _ h => h) (.keep rfl (fun _ h => h) (.keep rfl (fun _ h => h) (.keep rfl (fun _ h => h) (.keep rfl (fun _ h => h) (.nil _))))))) ?_
  refine CallK_sub [78,77,3000,3100,3101] rfl (fun w hR h0 => calls_groups b bp bt bs bm level hl S hw [] (On.nil S level) id h1 h2 hf _ _ _ w h0 (hG.castL hR)) ?_
  rintro _ _ ⟨om,g1,g2,⟨gl,a,c,k1,k2,k3,rfl,rfl⟩ | ⟨k1,rfl,rfl⟩⟩
  · refine ⟨.v _,rfl,?_⟩
    (repeat' ((conv => whnf); first | refine ⟨.sl 860 _ _ _,⟨rfl,rfl,rfl,rfl⟩,?_⟩ | refine ⟨_,⟨rfl,trivial⟩,?_⟩ | (refine bcase_prop (fun h => ?_) (fun h => ?_) <;> try (exfalso; omega)) | (refine bcase_nprop (fun h => ?_) (fun h => ?_) <;> try (exfalso; omega)) | (refine bcase_intro (fun h => ?_) (fun h => ?_) <;> (try simp only [Bool.not_eq_true',Bool.not_eq_false',decide_eq_true_eq,decide_eq_false_iff_not,Bool.not_eq_true,Bool.not_eq_false,Decidable.not_not] at h)) | refine And.intro (by first | omega | exact rfl | assumption | exact ⟨rfl,rfl,rfl,rfl,rfl⟩ | exact ⟨rfl,rfl,rfl,rfl⟩ | exact ⟨rfl,by omega⟩ | exact oneAll_of rfl | exact ⟨rfl,oneAll_of rfl⟩ | exact Ref.refl _ | exact Thin.ref (.skip (Thin.refl _)) | exact Thin.ref (.skip (.skip (Thin.refl _))) | exact ⟨rfl,Nat.le_of_ble_eq_true rfl⟩ | ((try unfold maxLen); (try simp only [List.length_nil,List.length_cons,List.length_append]); omega) | (refine ⟨rfl,?_⟩; (try simp only [List.length_nil,List.length_cons,List.length_append]); omega)) ?_ | intro _)); (all_goals (conv => whnf))
    exact ⟨⟨_,Ref.takes [78,77,3000,860] rfl (Thin.refl _),g1,g2,.inl ⟨gl,a,c,k1,k2,k3,rfl,rfl⟩⟩⟩
  · refine ⟨.v _,rfl,?_⟩
    (repeat' ((conv => whnf); first | refine ⟨_,⟨rfl,trivial⟩,?_⟩ | (refine bcase_prop (fun h => ?_) (fun h => ?_) <;> try (exfalso; omega)) | (refine bcase_nprop (fun h => ?_) (fun h => ?_) <;> try (exfalso; omega)) | (refine bcase_intro (fun h => ?_) (fun h => ?_) <;> (try simp only [Bool.not_eq_true',Bool.not_eq_false',decide_eq_true_eq,decide_eq_false_iff_not,Bool.not_eq_true,Bool.not_eq_false,Decidable.not_not] at h)) | refine And.intro (by first | omega | exact rfl | assumption | exact ⟨rfl,rfl,rfl,rfl,rfl⟩ | exact ⟨rfl,rfl,rfl,rfl⟩ | exact ⟨rfl,by omega⟩ | exact oneAll_of rfl | exact ⟨rfl,oneAll_of rfl⟩ | exact Ref.refl _ | exact Thin.ref (.skip (Thin.refl _)) | exact Thin.ref (.skip (.skip (Thin.refl _))) | exact ⟨rfl,Nat.le_of_ble_eq_true rfl⟩ | ((try unfold maxLen); (try simp only [List.length_nil,List.length_cons,List.length_append]); omega) | (refine ⟨rfl,?_⟩; (try simp only [List.length_nil,List.length_cons,List.length_append]); omega)) ?_ | intro _)); (all_goals (conv => whnf))
    exact ⟨⟨_,Ref.takes [78,77,3000] rfl (Thin.refl _),g1,g2,.inr ⟨k1,rfl,rfl⟩⟩⟩
theorem Sig.level {t : List Nat} {m : Tm} (h : Sig t m) : ∃ L : Nat,m.level = L ∧ seqT t L = [m] ∧ ∀ l,l < L → 1 < (seqT t l).length := by
  obtain ⟨L,h1,h2⟩ := h
  exact ⟨L,sig_level m h1 h2,h1,h2⟩
theorem Sig.lvd {t : List Nat} {m : Tm} (h : Sig t m) : Lvd m := by
  obtain ⟨L,h1,_⟩ := h.level
  unfold Lvd; omega
theorem Sig.exp {t : List Nat} {m : Tm} (h : Sig t m) (n : Nat) : expT n m = seqT t n := by
  obtain ⟨L,h1,h2⟩ := h
  exact expT_sig m h1 h2
theorem seqT_len (t : List Nat) : ∀ l,(seqT t l).length ≤ t.length
  | 0 => by simp [seqT]
  | l + 1 => Nat.le_trans (stepT_len (l + 1) _) (seqT_len t l)
def stQ (bp bt bs key : Nat) (S : Sto) (t : List Nat) (n : Nat) (v : Value) (L1 : List Ent) : Prop :=
  ∃ g1 g2 gl a c,Gok S gl ∧ gl.map (grT S) = runsT (seqT t n) ∧ gl.length ≤ t.length ∧ (0 < gl.length → a ≠ none) ∧ v = .tuple #[.slice a gl.length c,.nilIface] ∧ L1 = fP bp bt bs S g1 g2 ++ [.own key a gl.length c ty_api_Group 2 (prs .i64 gl)]
theorem calls_SeqT (key : Nat) (bp bt bs : Nat) (S : Sto) (hw : WF S) (id : Int) (n : Nat) (t : List Nat) (ht : t.length ≤ 1000) (h1 : 1 ≤ id) (h2 : id ≤ S.E.length) (hs : Sig t (tm S.E id)) (f1 f2 fp : List Nat) (w : World) (hR : R w fp (fP bp bt bs S f1 f2) w) (hG : TabF w fp) :
    Calls Tryz.prog fn_P_signature_Parser_Sequence #[pS bp,.int .i64 id,.int .i64 n] w fun e w' => ∃ v L1,e = .returned v ∧ R w fp L1 w' ∧ stQ bp bt bs key S t n v L1 := by
  refine (calls_Seq bp bt bs S hw id n h1 h2 (Int.natCast_nonneg n) hs.lvd f1 f2 fp w hR hG).mono fun e w' ⟨v,L1,he,hR',g1,g2,h⟩ => ?_
  have hle := Nat.le_trans (runsT_le (seqT t n)).1 (seqT_len t n)
  have hex := hs.exp n
  rcases h with ⟨gl,a,c,k1,k2,k3,hv,hL⟩ | ⟨k1,hv,hL⟩
  · subst hL
    rw [hex] at k2
    have hln := congrArg List.length k2
    rw [List.length_map] at hln
    have hne := fun h => own_ne hR' (key := 860) rfl h
    refine ⟨v,_,he,Ref.takes [78,77,3000,860] rfl (.keep rfl (fun _ h => h) (.keep rfl (fun _ h => h) (.keep rfl (fun _ h => h) (.own rfl rfl (.nil _))))) w' hR',g1,g2,gl,a,c,k1,k2,by omega,hne,hv,rfl⟩
  · rw [hex] at k1
    omega
end Go.Proofs.YtkkhpdkfploodaaGreatDoor
