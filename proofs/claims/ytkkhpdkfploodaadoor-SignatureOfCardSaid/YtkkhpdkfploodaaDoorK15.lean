/- The store's weights and depths. -/
import Derived.Test.YtkkhpdkfploodaaDoorK4
import Derived.Test.YtkkhpdkfploodaaDoorK5
import Derived.Test.YtkkhpdkfploodaaDoorK11
import Derived.Test.YtkkhpdkfploodaaDoorK14
import Derived.Test.YtkkhpdkfploodaaDoorK9
namespace Go.Proofs.YtkkhpdkfploodaaDoor
open Go.EG
attribute [local irreducible] CallK QCall Go.Calls
set_option linter.unusedSimpArgs false
set_option linter.unusedVariables false
set_option maxRecDepth 20000
set_option maxHeartbeats 1000000

end Go.Proofs.YtkkhpdkfploodaaDoor
/- 246 levels on; runs apart. Plain Lean: no program in sight. -/
namespace Go.Proofs.YtkkhpdkfploodaaDoor
open Go.EG
set_option linter.unusedSimpArgs false
set_option linter.unusedVariables false

theorem stepT_odd {l : Nat} (h : l % 2 = 1) (ts : List Tm) : stepT l ts = runT ts := if_pos h
theorem stepT_even {l : Nat} (h : l % 2 = 0) (ts : List Tm) : stepT l ts = pairT ts l := if_neg (by omega)
end Go.Proofs.YtkkhpdkfploodaaDoor
/- A symbol's sequence in a store: what is remembered, what is left to do. Plain Lean: no program in sight. -/
namespace Go.Proofs.YtkkhpdkfploodaaDoor
open Go.EG
set_option linter.unusedSimpArgs false
set_option linter.unusedVariables false

theorem WF.Pos {S : Sto} (hw : WF S) : ∀ {k : Nat} {i : Int}, i = k → 1 ≤ i → i ≤ S.E.length → Pos (tm S.E i) := fun {k} => by
  induction k using Nat.strongRecOn with
  | ind k ih =>
    intro i hk h1 h2
    obtain ⟨hr, _, ht, _⟩ := hw.at_ h1 h2
    rw [ht]
    unfold mkT
    rcases hr with ⟨k1, _⟩ | ⟨k1, _, _, k4, k5, k6, k7⟩ | ⟨k1, _, _, k4, k5, k6⟩
    · rw [if_pos k1]; trivial
    · rw [if_neg (by omega), if_pos k1]
      exact ⟨ih (atE S.E i).r.a.toNat (by omega) (by omega) k4 (by omega), ih (atE S.E i).r.b.toNat (by omega) (by omega) k6 (by omega)⟩
    · rw [if_neg (by omega), if_neg (by omega)]
      exact ⟨by omega, ih (atE S.E i).r.a.toNat (by omega) (by omega) k5 (by omega)⟩
theorem WF.pos_ {S : Sto} (hw : WF S) {i : Int} (h1 : 1 ≤ i) (h2 : i ≤ S.E.length) : Go.Proofs.YtkkhpdkfploodaaDoor.Pos (tm S.E i) := hw.Pos (k := i.toNat) (by omega) h1 h2
/-! ### What is remembered -/

def onG : List (Int × Int) → Int → Option Int
  | [], _ => none
  | (x, v) :: om, y => if y = x then some v else onG om y
theorem onG_snoc {om : List (Int × Int)} {y v x : Int} (h : onG om y = none) : onG (om ++ [(y, v)]) x = if x = y then some v else onG om x := by
  induction om with
  | nil => simp [onG]
  | cons p om ih =>
    obtain ⟨z, u⟩ := p
    simp only [onG] at h
    by_cases hy : y = z
    · rw [if_pos hy] at h; cases h
    · rw [if_neg hy] at h
      have ih := ih h
      simp only [List.cons_append, onG, ih]
      by_cases hz : x = z
      · rw [if_pos hz, if_pos hz, if_neg (by omega)]
      · rw [if_neg hz, if_neg hz]
/-- What is remembered is right. -/
structure On (S : Sto) (n : Int) (om : List (Int × Int)) : Prop where
  ok : ∀ y v, onG om y = some v → (1 ≤ y ∧ y ≤ S.E.length) ∧ (0 ≤ v ∧ v ≤ S.E.length) ∧ tm S.E v = oneT n (tm S.E y)
  nodup : (om.map (·.1)).Nodup
theorem onG_mem {om : List (Int × Int)} {y : Int} : (onG om y).isSome = true ↔ y ∈ om.map (·.1) := by
  induction om with
  | nil => simp [onG]
  | cons p om ih =>
    obtain ⟨x, v⟩ := p
    simp only [onG, List.map_cons, List.mem_cons]
    by_cases h : y = x
    · rw [if_pos h]; simp [h]
    · rw [if_neg h, ih]; simp [h]
theorem onG_out {om : List (Int × Int)} {y : Int} : onG om y = none ↔ y ∉ om.map (·.1) := by
  rw [← onG_mem]
  cases onG om y <;> simp
theorem On.nil (S : Sto) (n : Int) : On S n [] := ⟨fun y v h => by simp [onG] at h, .nil⟩
theorem On.snoc {S : Sto} {n : Int} {om : List (Int × Int)} (h : On S n om) {y v : Int} (hy : onG om y = none) (h1 : 1 ≤ y ∧ y ≤ S.E.length) (h2 : 0 ≤ v ∧ v ≤ S.E.length) (h3 : tm S.E v = oneT n (tm S.E y)) : On S n (om ++ [(y, v)]) := by
  refine ⟨fun x u hx => ?_, ?_⟩
  · rw [onG_snoc hy] at hx
    split at hx
    · rename_i he
      simp only [Option.some.injEq] at hx
      subst he hx
      exact ⟨h1, h2, h3⟩
    · exact h.ok x u hx
  · rw [List.map_append]
    refine List.nodup_append.2 ⟨h.nodup, by simp, fun a ha b hb => ?_⟩
    simp only [List.map_cons, List.map_nil, List.mem_singleton] at hb
    rw [hb]
    exact fun he => (onG_out.1 hy) (he ▸ ha)
theorem On.len {S : Sto} {n : Int} {om : List (Int × Int)} (h : On S n om) : om.length ≤ S.E.length := by
  have := nodup_len h.nodup fun x hx => by
    have := onG_mem.2 hx
    obtain ⟨v, hv⟩ := Option.isSome_iff_exists.1 this
    exact (h.ok x v hv).1
  simpa using this
theorem On.lt {S : Sto} {n : Int} {om : List (Int × Int)} (h : On S n om) {y : Int} (hy : onG om y = none) (h1 : 1 ≤ y ∧ y ≤ S.E.length) : om.length < S.E.length := by
  have := (h.snoc (v := 0) hy h1 ⟨Int.le_refl _, by omega⟩) 
  have h2 := nodup_len (n := S.E.length) (L := y :: om.map (·.1)) (List.nodup_cons.2 ⟨onG_out.1 hy, h.nodup⟩) fun x hx => by
    rcases List.mem_cons.1 hx with rfl | hx
    · exact h1
    · have := onG_mem.2 hx
      obtain ⟨v, hv⟩ := Option.isSome_iff_exists.1 this
      exact (h.ok x v hv).1
  rw [List.length_cons, List.length_map] at h2
  omega

/-! ### What is still to be found -/

structure Stk (S : Sto) (n id : Int) (om : List (Int × Int)) (todo : List Int) : Prop where
  ok : ∀ x ∈ todo, 1 ≤ x ∧ x ≤ S.E.length ∧ Lvd (tm S.E x)
  desc : todo.Pairwise (· > ·)
  out : ∀ x ∈ todo.dropLast, onG om x = none
  fin : todo = [] → (onG om id).isSome = true
  top : todo ≠ [] → todo.head? = some id
theorem Stk.len {S : Sto} {n id : Int} {om : List (Int × Int)} {todo : List Int} (h : Stk S n id om todo) : todo.length ≤ S.E.length := by
  have h1 : todo.Nodup := h.desc.imp fun hab he => by omega
  exact nodup_len h1 fun x hx => ⟨(h.ok x hx).1, (h.ok x hx).2.1⟩
def Stk.mu (N : Nat) (om : List (Int × Int)) (todo : List Int) : Nat :=
  (N - om.length) * (N + 10) + (match todo.getLast? with | none => 0 | some x => if (onG om x).isSome then N + 5 else x.toNat)
theorem Stk.start {S : Sto} {n id : Int} (om : List (Int × Int)) (h1 : 1 ≤ id) (h2 : id ≤ S.E.length) (h3 : Lvd (tm S.E id)) : Stk S n id om [id] :=
  ⟨fun x hx => by rw [List.mem_singleton.1 hx]; exact ⟨h1, h2, h3⟩, by simp, by simp, by simp, by simp⟩
theorem Stk.pop {S : Sto} {n id : Int} {om : List (Int × Int)} {rest : List Int} {x : Int} (h : Stk S n id om (rest ++ [x])) (hx : (onG om x).isSome = true) :
    Stk S n id om rest ∧ Stk.mu S.E.length om rest < Stk.mu S.E.length om (rest ++ [x]) := by
  have hd := h.out
  rw [List.dropLast_concat] at hd
  refine ⟨⟨fun y hy => h.ok y (List.mem_append_left _ hy), (List.pairwise_append.1 h.desc).1, fun y hy => hd y (List.dropLast_subset _ hy), fun he => ?_, fun hne => ?_⟩, ?_⟩
  · subst he
    have := h.top (by simp)
    simp only [List.nil_append, List.head?_cons, Option.some.injEq] at this
    rw [← this]; exact hx
  · have := h.top (by simp)
    cases rest with
    | nil => exact absurd rfl hne
    | cons a r => simpa using this
  · unfold Stk.mu
    rw [List.getLast?_concat]
    simp only [hx, if_true]
    cases hl : rest.getLast? with
    | none => simp
    | some y =>
      have hy : y ∈ rest := List.mem_of_getLast? hl
      have h1 := h.ok y (List.mem_append_left _ hy)
      simp only [hd y hy, Option.isSome_none, Bool.false_eq_true, if_false]
      omega
theorem Stk.mem {S : Sto} {n id : Int} {om : List (Int × Int)} {rest : List Int} {x v : Int} (h : Stk S n id om (rest ++ [x])) (hO : On S n om) (hx : onG om x = none) :
    Stk S n id (om ++ [(x, v)]) (rest ++ [x]) ∧ Stk.mu S.E.length (om ++ [(x, v)]) (rest ++ [x]) < Stk.mu S.E.length om (rest ++ [x]) := by
  have hd := h.out
  rw [List.dropLast_concat] at hd
  have hk := h.ok x (by simp)
  refine ⟨⟨h.ok, h.desc, fun y hy => ?_, by simp, h.top⟩, ?_⟩
  · rw [List.dropLast_concat] at hy
    rw [onG_snoc hx, if_neg, hd y hy]
    intro he
    subst he
    have := (List.pairwise_append.1 h.desc).2.2 y hy y (by simp)
    omega
  · unfold Stk.mu
    rw [List.getLast?_concat]
    have e : onG (om ++ [(x, v)]) x = some v := by rw [onG_snoc hx, if_pos rfl]
    simp only [e, hx, Option.isSome_some, Option.isSome_none, Bool.false_eq_true, if_true, if_false]
    have := hO.lt hx ⟨hk.1, hk.2.1⟩
    rw [List.length_append, List.length_singleton]
    have e2 : (S.E.length - om.length) * (S.E.length + 10) = (S.E.length - (om.length + 1)) * (S.E.length + 10) + (S.E.length + 10) := by
      rw [show S.E.length - om.length = (S.E.length - (om.length + 1)) + 1 by omega, Nat.succ_mul]
    omega
theorem Stk.push {S : Sto} {n id : Int} {om : List (Int × Int)} {rest : List Int} {x y : Int} (h : Stk S n id om (rest ++ [x])) (hx : onG om x = none) (hy : onG om y = none) (h1 : 1 ≤ y) (h2 : y < x) (h3 : Lvd (tm S.E y)) :
    Stk S n id om (rest ++ [x] ++ [y]) ∧ Stk.mu S.E.length om (rest ++ [x] ++ [y]) < Stk.mu S.E.length om (rest ++ [x]) := by
  have hd := h.out
  rw [List.dropLast_concat] at hd
  have hk := h.ok x (by simp)
  refine ⟨⟨fun z hz => ?_, ?_, fun z hz => ?_, by simp, fun _ => ?_⟩, ?_⟩
  · rcases List.mem_append.1 hz with hz | hz
    · exact h.ok z hz
    · rw [List.mem_singleton.1 hz]; exact ⟨h1, by omega, h3⟩
  · refine List.pairwise_append.2 ⟨h.desc, by simp, fun a ha b hb => ?_⟩
    rw [List.mem_singleton.1 hb]
    rcases List.mem_append.1 ha with ha | ha
    · have := (List.pairwise_append.1 h.desc).2.2 a ha x (by simp)
      omega
    · rw [List.mem_singleton.1 ha]; omega
  · rw [List.dropLast_concat] at hz
    rcases List.mem_append.1 hz with hz | hz
    · exact hd z hz
    · rw [List.mem_singleton.1 hz]; exact hx
  · have := h.top (by simp)
    cases rest with
    | nil => simpa using this
    | cons a r => simpa using this
  · unfold Stk.mu
    rw [List.getLast?_concat, List.getLast?_concat]
    simp only [hx, hy, Option.isSome_none, Bool.false_eq_true, if_false]
    omega

/-! ### Groups -/

def grT (S : Sto) (g : Int × Int) : Tm × Nat := (tm S.E g.1, g.2.toNat)
def pushI (gl : List (Int × Int)) (x t : Int) : List (Int × Int) := match gl.getLast? with
  | some (y, u) => if y = x then gl.dropLast ++ [(y, u + t)] else gl ++ [(x, t)]
  | none => [(x, t)]
theorem pushI_snoc (l : List (Int × Int)) (y u x t : Int) : pushI (l ++ [(y, u)]) x t = if y = x then l ++ [(y, u + t)] else l ++ [(y, u), (x, t)] := by
  unfold pushI
  rw [List.getLast?_concat]
  simp only [List.dropLast_concat]
  split
  · rfl
  · rw [List.append_assoc]; rfl
structure Gok (S : Sto) (gl : List (Int × Int)) : Prop where
  ok : ∀ g ∈ gl, (1 ≤ g.1 ∧ g.1 ≤ S.E.length) ∧ 1 ≤ g.2
theorem Gok.nil (S : Sto) : Gok S [] := ⟨fun g h => by simp at h⟩
theorem Gok.push {S : Sto} {gl : List (Int × Int)} (h : Gok S gl) {x t : Int} (h1 : 1 ≤ x) (h2 : x ≤ S.E.length) (h3 : 1 ≤ t) : Gok S (pushI gl x t) := by
  rcases List.eq_nil_or_concat gl with rfl | ⟨l, ⟨y, u⟩, rfl⟩
  · exact ⟨fun g hg => by
      have : g = (x, t) := by simpa [pushI] using hg
      rw [this]; exact ⟨⟨h1, h2⟩, h3⟩⟩
  · rw [List.concat_eq_append] at h ⊢
    rw [pushI_snoc]
    have hy := h.ok (y, u) (by simp)
    dsimp only at hy
    refine ⟨fun g hg => ?_⟩
    split at hg
    · rcases List.mem_append.1 hg with hg | hg
      · exact h.ok g (List.mem_append_left _ hg)
      · rw [List.mem_singleton.1 hg]; exact ⟨hy.1, by dsimp only; omega⟩
    · rcases List.mem_append.1 hg with hg | hg
      · exact h.ok g (List.mem_append_left _ hg)
      · simp only [List.mem_cons, List.not_mem_nil, or_false] at hg
        rcases hg with rfl | rfl
        · exact hy
        · exact ⟨⟨h1, h2⟩, h3⟩
structure Grp (S : Sto) (n id : Int) (gl todo : List (Int × Int)) (ds : List Tm) : Prop where
  tok : ∀ g ∈ todo, (1 ≤ g.1 ∧ g.1 ≤ S.E.length) ∧ 1 ≤ g.2 ∧ Lvd (tm S.E g.1)
  gok : Gok S gl
  runs : gl.map (grT S) = runsT ds
  all : ds ++ leftT n (todo.map (grT S)) = expT n (tm S.E id)
  idx : ∀ i, i < todo.length → (i : Int) + 2 * (todo.getD i (0, 0)).1 ≤ 2 * id
  most : gl.length ≤ 65536
theorem Grp.start {S : Sto} {n id : Int} (h1 : 1 ≤ id) (h2 : id ≤ S.E.length) (h3 : Lvd (tm S.E id)) : Grp S n id [] [(id, 1)] [] := by
  refine ⟨fun g hg => ?_, .nil S, rfl, ?_, fun i hi => ?_, Nat.zero_le _⟩
  · rw [List.mem_singleton.1 hg]; exact ⟨⟨h1, h2⟩, Int.le_refl _, h3⟩
  · simp [leftT, grT]
  · have : i = 0 := by simpa using hi
    subst this
    simp
theorem leftT_txt (n : Int) : ∀ (todo : List (Tm × Nat)) {g : Tm × Nat}, g ∈ todo → g.2 * g.1.len ≤ (txtOf (leftT n todo)).length := fun todo {g} hg => by
  obtain ⟨p, q, rfl⟩ := List.append_of_mem hg
  unfold leftT
  simp only [List.reverse_append, List.reverse_cons, List.flatMap_append, List.flatMap_cons, List.flatMap_nil, txtOf_append, List.length_append, txt_reps, rep_length, expT_txt, List.append_nil]
  have : txtOf (expT n g.1) = g.1.txt := expT_txt n g.1
  unfold Tm.len
  omega
theorem Grp.small {S : Sto} (hw : WF S) {n id : Int} {gl todo : List (Int × Int)} {ds : List Tm} (h : Grp S n id gl todo ds) (h2 : id ≤ S.E.length) : (∀ g ∈ todo, g.2 * ((tm S.E g.1).len : Int) ≤ LM) ∧ ∀ g ∈ gl, g.2 ≤ LM := by
  have hT := congrArg txtOf h.all
  rw [txtOf_append, expT_txt] at hT
  have hl := congrArg List.length hT
  rw [List.length_append] at hl
  have hle := hw.le h2
  unfold Tm.len at hle
  refine ⟨fun g hg => ?_, fun g hg => ?_⟩
  · have h3 := leftT_txt n (todo.map (grT S)) (List.mem_map.2 ⟨g, hg, rfl⟩)
    have h4 := (h.tok g hg).2.1
    simp only [grT] at h3
    have h5 : ((g.2.toNat * (tm S.E g.1).len : Nat) : Int) = g.2 * ((tm S.E g.1).len : Int) := by
      rw [Int.natCast_mul, show ((g.2.toNat : Nat) : Int) = g.2 by omega]
    omega
  · have h3 : grT S g ∈ runsT ds := by rw [← h.runs]; exact List.mem_map.2 ⟨g, hg, rfl⟩
    have h4 := len_run h3
    have h5 := (h.gok.ok g hg)
    have h6 := (hw.pos_ h5.1.1 h5.1.2).len
    simp only [grT] at h4
    have h7 := Nat.mul_le_mul_right g.2.toNat h6
    omega
def Grp.mu (S : Sto) (todo : List (Int × Int)) : Nat := leftS (todo.map (grT S))
theorem grp_mu_snoc (S : Sto) (rest : List (Int × Int)) (x t : Int) : Grp.mu S (rest ++ [(x, t)]) = Grp.mu S rest + t.toNat * (tm S.E x).sz := by
  unfold Grp.mu
  rw [List.map_append, List.map_cons, List.map_nil, leftS_snoc]
  rfl
theorem left_snoc (S : Sto) (n : Int) (rest : List (Int × Int)) (x t : Int) : leftT n ((rest ++ [(x, t)]).map (grT S)) = (List.replicate t.toNat (expT n (tm S.E x))).flatten ++ leftT n (rest.map (grT S)) := by
  rw [List.map_append, List.map_cons, List.map_nil, leftT_snoc]
  rfl
theorem idx_snoc {rest : List (Int × Int)} {g : Int × Int} {id : Int} : (∀ i, i < (rest ++ [g]).length → (i : Int) + 2 * ((rest ++ [g]).getD i (0, 0)).1 ≤ 2 * id) ↔ (∀ i, i < rest.length → (i : Int) + 2 * (rest.getD i (0, 0)).1 ≤ 2 * id) ∧ (rest.length : Int) + 2 * g.1 ≤ 2 * id := by
  constructor
  · intro h
    refine ⟨fun i hi => ?_, ?_⟩
    · have := h i (by rw [List.length_append]; omega)
      rwa [getD_append_left hi] at this
    · have := h rest.length (by simp)
      rwa [getD_snoc rfl] at this
  · rintro ⟨h1, h2⟩ i hi
    rw [List.length_append, List.length_singleton] at hi
    by_cases hc : i < rest.length
    · rw [getD_append_left hc]; exact h1 i hc
    · have : i = rest.length := by omega
      subst this
      rw [getD_snoc rfl]; exact h2
theorem Grp.over {S : Sto} {n id : Int} {ds' r : List Tm} (h : ds' ++ r = expT n (tm S.E id)) (hl : 65536 < (runsT ds').length) : 65536 < (runsT (expT n (tm S.E id))).length := by
  rw [← h]
  exact Nat.lt_of_lt_of_le hl (runsT_mono ds' r)
/-- A power's copies. -/
theorem Grp.pow {S : Sto} (hw : WF S) {n id : Int} {gl rest : List (Int × Int)} {x t a k : Int} {ds : List Tm} (h : Grp S n id gl (rest ++ [(x, t)]) ds) (ha : 1 ≤ a ∧ a < x) (hk : 2 ≤ k) (he : tm S.E x = .pw (tm S.E a) k.toNat) (hlev : ¬ (tm S.E x).level ≤ n) (hid : id ≤ S.E.length) :
    t * k ≤ LM ∧ Grp S n id gl (rest ++ [(a, t * k)]) ds ∧ Grp.mu S (rest ++ [(a, t * k)]) < Grp.mu S (rest ++ [(x, t)]) := by
  have hx := h.tok (x, t) (by simp)
  dsimp only at hx
  have hsm := (h.small hw hid).1 (x, t) (by simp)
  dsimp only at hsm
  have hpa := hw.pos_ (i := a) ha.1 (by omega)
  have hla := hpa.len
  have htk1 : 1 ≤ t * k := by
    have := Int.mul_le_mul hx.2.1 (show (1 : Int) ≤ k by omega) (by omega) (by omega)
    omega
  have htn : (t * k).toNat = t.toNat * k.toNat := by
    have : ((t.toNat * k.toNat : Nat) : Int) = t * k := by rw [Int.natCast_mul, show ((t.toNat : Nat) : Int) = t by omega, show ((k.toNat : Nat) : Int) = k by omega]
    omega
  have htk : t * k ≤ LM := by
    rw [he, len_pw1] at hsm
    have h1 : (k : Int) ≤ ((k.toNat * (tm S.E a).len : Nat) : Int) := by
      have := Nat.mul_le_mul_left k.toNat hla
      omega
    exact Int.le_trans (Int.mul_le_mul_of_nonneg_left h1 (by omega)) hsm
  refine ⟨htk, ⟨fun g hg => ?_, h.gok, h.runs, ?_, ?_, h.most⟩, ?_⟩
  · rcases List.mem_append.1 hg with hg | hg
    · exact h.tok g (List.mem_append_left _ hg)
    · rw [List.mem_singleton.1 hg]
      refine ⟨⟨ha.1, by dsimp only; omega⟩, htk1, ?_⟩
      have := hx.2.2
      rw [he] at this
      exact this.pw
  · have h1 := h.all
    rw [left_snoc] at h1 ⊢
    rw [he, expT, if_neg (by rw [← he]; exact hlev), reps_reps, ← htn] at h1
    exact h1
  · have := idx_snoc.1 h.idx
    exact idx_snoc.2 ⟨this.1, by have := this.2; dsimp only at this ⊢; omega⟩
  · rw [grp_mu_snoc, grp_mu_snoc, he, htn]
    have e : (Tm.pw (tm S.E a) k.toNat).sz = 1 + k.toNat * (tm S.E a).sz := rfl
    rw [e, Nat.mul_add, Nat.mul_assoc]
    omega
end Go.Proofs.YtkkhpdkfploodaaDoor
/- A symbol's sequence at a level: the program. -/
namespace Go.Proofs.YtkkhpdkfploodaaDoor
open Go.EG
attribute [local irreducible] CallK QCall Go.Calls
set_option linter.unusedSimpArgs false
set_option linter.unusedVariables false
set_option maxRecDepth 20000
set_option maxHeartbeats 4000000

/-! ### A group more -/

theorem prs_len (k : IntKind) : ∀ l : List (Int × Int), (prs k l).length = l.length * 2
  | [] => rfl
  | g :: l => by
    have := prs_len k l
    simp only [prs, List.flatMap_cons, List.length_append, List.length_cons, List.length_nil] at this ⊢
    omega
theorem prs_last {k : IntKind} (l : List (Int × Int)) (y u v : Int) : splice (prs k (l ++ [(y, u)])) (l.length * 2 + 1) [.int k v] = prs k (l ++ [(y, v)]) := by
  have e : prs k (l ++ [(y, u)]) = (prs k l ++ [.int k y]) ++ [.int k u] := by simp [prs]
  have h : (prs k l ++ [Value.int k y]).length = l.length * 2 + 1 := by simp [prs_len]
  rw [e]
  unfold splice
  rw [← h, List.take_left, List.drop_of_length_le (by simp)]
  simp [prs]
/-! ### Copies -/

/-! ### The only symbol -/

structure SnG where
  om : List (Int × Int)
  todo : List Int
  a : Option Addr
  c : Nat
  f1 : List Nat
  f2 : List Nat
end Go.Proofs.YtkkhpdkfploodaaDoor
/- The groups of a symbol's sequence: the program. -/
namespace Go.Proofs.YtkkhpdkfploodaaDoor
open Go.EG
attribute [local irreducible] CallK QCall Go.Calls
set_option linter.unusedSimpArgs false
set_option linter.unusedVariables false
set_option maxRecDepth 20000
set_option maxHeartbeats 4000000

structure GpG where
  om : List (Int × Int)
  gl : List (Int × Int)
  todo : List (Int × Int)
  ds : List Tm
  al : Option Addr
  cl : Nat
  a : Option Addr
  c : Nat
  f1 : List Nat
  f2 : List Nat
theorem last_prs {rest : List (Int × Int)} {x t : Int} : ((prs .i64 (rest ++ [(x, t)])).drop (rest.length * 2)).take 2 = [.int .i64 x, .int .i64 t] := by
  have e : prs .i64 (rest ++ [(x, t)]) = prs .i64 rest ++ [.int .i64 x, .int .i64 t] := by simp [prs]
  rw [e, ← prs_len .i64 rest, List.drop_left]; rfl
end Go.Proofs.YtkkhpdkfploodaaDoor
/- Sequences: the program. -/
namespace Go.Proofs.YtkkhpdkfploodaaDoor
open Go.EG
attribute [local irreducible] CallK QCall Go.Calls
set_option linter.unusedSimpArgs false
set_option linter.unusedVariables false
set_option maxRecDepth 20000
set_option maxHeartbeats 4000000

/-! ### Of a text -/

theorem Sig.level {t : List Nat} {m : Tm} (h : Sig t m) : ∃ L : Nat, m.level = L ∧ seqT t L = [m] ∧ ∀ l, l < L → 1 < (seqT t l).length := by
  obtain ⟨L, h1, h2⟩ := h
  exact ⟨L, sig_level m h1 h2, h1, h2⟩
end Go.Proofs.YtkkhpdkfploodaaDoor
