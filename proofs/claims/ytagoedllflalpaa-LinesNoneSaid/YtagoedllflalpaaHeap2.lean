/- Parts of the heap that are opened behind a call; cells of rows that came in. Generic over the program: no condition. -/
import Derived.Test.YtagoedllflalpaaHeap
namespace Go.EG
open Go.RowKit
set_option linter.unusedVariables false

section
variable {P : Program} {w0 w w' : World} {fp0 : List Nat} {L : List Ent}

/-- A callee that is handed a part of the heap, which lies open behind it. -/
theorem CallK_packU {f : FuncId} {args : List Value} {k : SV → List Ent → Prop} {key key' : Nat} {fp : List Nat} {α β : Type} {fA : α → List Ent} {fB : β → List Ent} {Lr : List Ent} {r : Value} (hp : pickE key L = some (packE key fp fA, Lr))
    (h : ∀ w, R w0 fp0 (packE key fp fA :: Lr) w → R w fp [packE key fp fA] w → Calls P f args.toArray w fun e w' => ∃ v L1, e = .returned v ∧ R w fp L1 w' ∧ v = r ∧ ∃ fp', L1 = [packE key' fp' fB])
    (hk : ∀ x w', R w0 fp0 (fB x ++ Lr) w' → ∃ s : SV, s.val = r ∧ k s (fB x ++ Lr)) : CallK P w0 fp0 f args L k := fun w hR => by
  have e1 : fps [packE key fp fA] = fp := by simp [packE, Ent.fp, fps]
  have hR1 : R w0 fp0 ([packE key fp fA] ++ Lr) w := hR.perm (pickE_perm hp)
  have h0 := hR1.restart
  rw [e1] at h0
  refine (h w hR1 h0).mono fun e w' ⟨v, L1, he, hR', hv, fp', hL1⟩ => ?_
  subst hv hL1
  rw [← e1] at hR'
  obtain ⟨x, _, hR2⟩ := (R.call hR1 hR').unpack
  obtain ⟨s, hs, hk⟩ := hk x w' hR2
  exact ⟨v, s, fB x ++ Lr, he, hs, hR2, hk⟩

/-- The same from a heap on which the part lies open. -/
theorem CallK_open {f : FuncId} {args : List Value} {k : SV → List Ent → Prop} {α : Type} {fA : α → List Ent} {Lr : List Ent} (key : Nat) (x : α) (hp : L = fA x ++ Lr)
    (h : CallK P w0 fp0 f args (packE key (fps (fA x)) fA :: Lr) k) : CallK P w0 fp0 f args L k := fun w hR => by
  subst hp
  exact h w (hR.pack x)

theorem In.rdn {a : Option Addr} {xs vs : List Value} {k : Nat} (h : In w0 fp0 a xs) (h0 : 0 < vs.length) (hv : (xs.drop k).take vs.length = vs) : Rd w0 fp0 L (.el a k) vs := by
  have hget : ∀ j v, vs[j]? = some v → xs[k + j]? = some v := fun j v hj => by
    rw [← hv, List.getElem?_take] at hj
    split at hj
    · simpa using hj
    · cases hj
  intro w hR
  rcases h with rfl | ⟨b, off, rfl, h1, h2, h3⟩
  · have := hget 0 vs[0] (by simp [h0])
    simp at this
  · refine ⟨b, off + k, by simp [SV.val, add_lit'], fun j u hu => ?_⟩
    rw [cell_old (w := w0) (hR.old b h1 h2), Nat.add_assoc]
    exact h3 _ u (hget j u hu)

/-- The heap is seen otherwise ahead of a call, or behind it. -/
theorem CallK_ref {f : FuncId} {args : List Value} {k : SV → List Ent → Prop} {L' : List Ent} (hr : Ref w0 fp0 L L') (h : CallK P w0 fp0 f args L' k) : CallK P w0 fp0 f args L k := fun w hR => h w (hr w hR)
theorem CallK_post {f : FuncId} {args : List Value} {k : SV → List Ent → Prop} (h : CallK P w0 fp0 f args L fun s L' => ∃ L'', Ref w0 fp0 L' L'' ∧ k s L'') : CallK P w0 fp0 f args L k := fun w hR =>
  (h w hR).mono fun e w' ⟨v, s, L', he, hs, hR', L'', href, hk⟩ => ⟨v, s, L'', he, hs, href w' hR', hk⟩

/-- A callee that is handed a row of one's own, and hands it back. -/
theorem CallK_own {f : FuncId} {args : List Value} {k : SV → List Ent → Prop} {key n c T sz n' : Nat} {a : Option Addr} {xs xs' : List Value} (hp : ownAt key L = some ⟨a, n, c, T, sz, xs⟩)
    (h : ∀ w, R w0 fp0 L w → R w (fps [.own key a n c T sz xs]) [.own key a n c T sz xs] w → Calls P f args.toArray w fun e w' => ∃ a' c', e = .returned (.slice a' n' c') ∧ R w (fps [.own key a n c T sz xs]) [.own key a' n' c' T sz xs'] w')
    (hk : ∀ a' c', k (.sl key a' n' c') (setOwn key a' n' c' xs' L)) : CallK P w0 fp0 f args L k := fun w hR => by
  obtain ⟨L', h1, h2⟩ := ownAt_perm hp
  have hR1 : R w0 fp0 ([.own key a n c T sz xs] ++ L') w := hR.perm h1
  refine (h w hR hR1.restart).mono fun e w' ⟨a', c', he, hR'⟩ => ?_
  exact ⟨_, .sl key a' n' c', setOwn key a' n' c' xs' L, he, rfl, (R.call hR1 hR').perm (h2 a' n' c' xs').symm, hk a' c'⟩

/-- Two parts of the heap. -/
theorem CallK_pack2 {f : FuncId} {args : List Value} {k : SV → List Ent → Prop} {key1 key2 : Nat} {fp1 fp2 : List Nat} {α β : Type} {fA : α → List Ent} {fB : β → List Ent} {Lr1 Lr : List Ent} {Q : Value → List Ent → Prop} (hp1 : pickE key1 L = some (packE key1 fp1 fA, Lr1)) (hp2 : pickE key2 Lr1 = some (packE key2 fp2 fB, Lr))
    (h : ∀ w, R w0 fp0 (packE key1 fp1 fA :: packE key2 fp2 fB :: Lr) w → R w (fp1 ++ fp2) [packE key1 fp1 fA, packE key2 fp2 fB] w → Calls P f args.toArray w fun e w' => ∃ v L1, e = .returned v ∧ R w (fp1 ++ fp2) L1 w' ∧ Q v L1)
    (hk : ∀ v L1, Q v L1 → ∃ s : SV, s.val = v ∧ k s (L1 ++ Lr)) : CallK P w0 fp0 f args L k := by
  have e1 : fps [packE key1 fp1 fA, packE key2 fp2 fB] = fp1 ++ fp2 := by simp [packE, Ent.fp, fps]
  refine CallK_heap (L0 := [packE key1 fp1 fA, packE key2 fp2 fB]) ((pickE_perm hp1).trans ((pickE_perm hp2).cons _)) (fun w hR hR0 => ?_) hk
  rw [e1] at hR0 ⊢
  exact h w hR hR0

/-- A cell that is kept in front. -/
theorem Thin.abs {k k' : Nat} {fp : List Nat} {ok : World → Prop} {L L' : List Ent} (h : Thin L L') : Thin (.abs k fp ok :: L) (.abs k' fp ok :: L') :=
  .keep rfl (fun _ h => h) h

theorem stop_and {A B : Prop} (h : A) (k : B) : Stop (A ∧ B) := ⟨⟨h, k⟩⟩

/-! ### Reading structs of rows of one's own -/

def kindB : LK → Value → Bool
  | .int k, .int k' _ => decide (k = k')
  | .bool, .bool _ => true
  | .str, .string _ => true
  | .ptr, .pointer _ => true
  | .slc, .slice .. => true
  | .map, .map _ => true
  | .raw, _ => true
  | _, _ => false
theorem kindB_val {lk : LK} {v : Value} (h : kindB lk v = true) : valK lk v = v := by
  unfold kindB at h
  split at h
  · simp only [decide_eq_true_eq] at h; subst h; rfl
  · rfl
  · rfl
  · rfl
  · rfl
  · rfl
  · rfl
  · cases h
def kindsB : List LK → List Value → Bool
  | [], [] => true
  | k :: ks, v :: vs => kindB k v && kindsB ks vs
  | _, _ => false
theorem valKK_intro {lk : LK} {v : Value} {K : Value → Prop} (h : K (valK lk v)) : valKK lk v K := by cases lk <;> exact h
theorem isRow_take : ∀ {ks : List LK} {xs vs : List Value} {i : Nat}, (xs.drop i).take ks.length = vs → kindsB ks vs = true → isRow ks xs i ∧ ∀ {K : List Value → Prop}, K vs → rowKK ks xs i K
  | [], xs, vs, i, h, hk => by
    simp at h; subst h
    exact ⟨trivial, fun h => h⟩
  | k :: ks, xs, vs, i, h, hk => by
    cases vs with
    | nil => cases hk
    | cons v vs =>
      simp only [kindsB, Bool.and_eq_true] at hk
      have hv : xs[i]? = some v := by
        have := congrArg (fun l => l[0]?) h
        simpa using this
      have hlt : i < xs.length := (List.getElem?_eq_some_iff.1 hv).1
      have hvs : (xs.drop (i + 1)).take ks.length = vs := by
        rw [List.drop_eq_getElem_cons hlt, List.length_cons, List.take_succ_cons] at h
        exact (List.cons.inj h).2
      obtain ⟨h1, h2⟩ := isRow_take hvs hk.2
      have ha : atL xs i = v := by simp [atL, hv]
      refine ⟨⟨?_, h1⟩, fun hK => ?_⟩
      · unfold isK; rw [ha, kindB_val hk.1, hv]
      · refine valKK_intro (K := fun v => rowKK ks xs (i + 1) fun l => _) ?_
        rw [ha, kindB_val hk.1]
        exact h2 hK
/-- A struct of a row of one's own is read. -/
theorem ldRow {ks : List LK} {xs vs : List Value} {i n : Nat} {oa a : Option Addr} {K : List Value → Prop} (h : (xs.drop i).take n = vs) (hK : K vs) (ha : oa = a := by rfl) (hn : ks.length = n := by rfl) (hk : kindsB ks vs = true := by rfl) : oa = a ∧ ks.length = n ∧ isRow ks xs i ∧ rowKK ks xs i K := by
  subst hn
  obtain ⟨h1, h2⟩ := isRow_take h hk
  exact ⟨ha, rfl, h1, h2 hK⟩
/-- A cell of a row of one's own is read. -/
theorem ldCell {lk : LK} {xs : List Value} {v : Value} {i : Nat} {oa a : Option Addr} {K : Value → Prop} (h : xs[i]? = some v) (hK : K v) (ha : oa = a := by rfl) (hk : kindB lk v = true := by rfl) : oa = a ∧ isK lk xs i ∧ valKK lk (atL xs i) K := by
  have hv : atL xs i = v := by simp [atL, h]
  refine ⟨ha, ?_, ?_⟩
  · unfold isK; rw [hv, kindB_val hk, h]
  · refine valKK_intro ?_
    rw [hv, kindB_val hk]; exact hK

/-- A box, read by a callee. -/
theorem In.box {key b T : Nat} {cs : List Value} (hR : R w0 fp0 L w) (h : boxAt key L = some (b, cs, T)) : In w [] (some ⟨b, 0, none⟩) cs := by
  by_cases hx : cs = []
  · exact .inl hx
  · refine .inr ⟨b, 0, rfl, ?_, by simp, fun j v hv => ?_⟩
    · obtain ⟨L', h1, _⟩ := boxAt_perm h
      exact ((hR.perm h1).range b (by rw [fps_cons]; exact List.mem_append_left _ (by simp [Ent.fp]))).2
    · rw [Nat.zero_add, cell_box hR h]; exact hv
end
end Go.EG
