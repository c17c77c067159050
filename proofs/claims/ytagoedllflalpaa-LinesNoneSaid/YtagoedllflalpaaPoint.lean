/- A quiet operation's small form fixes its value. Generic over the program: no condition. -/
import Derived.Test.YtagoedllflalpaaOrder
namespace Go.EG
open Go.RowKit
set_option linter.unusedVariables false

theorem gA_pt {s : Option SV} {K : SV → Prop} (h : gA s K) : ∃ u, K u ∧ ∀ K' : SV → Prop, K' u → gA s K' := by
  obtain ⟨u, rfl, h⟩ := gA_elim h; exact ⟨u, h, fun _ h => h⟩
theorem gBool_pt {s : Option SV} {K : Bool → Prop} (h : gBool s K) : ∃ u, K u ∧ ∀ K' : Bool → Prop, K' u → gBool s K' := by
  obtain ⟨u, rfl, h⟩ := gBool_elim h; exact ⟨u, h, fun _ h => h⟩
theorem gNum_pt {s : Option SV} {K : Int → Prop} (h : gNum s K) : ∃ u, K u ∧ ∀ K' : Int → Prop, K' u → gNum s K' := by
  obtain ⟨_, u, rfl, h⟩ := gNum_elim h; exact ⟨u, h, fun _ h => h⟩
theorem gInt_pt {k : IntKind} {s : Option SV} {K : Int → Prop} (h : gInt k s K) : ∃ u, K u ∧ ∀ K' : Int → Prop, K' u → gInt k s K' := by
  obtain ⟨u, rfl, h1⟩ := gInt_elim h; exact ⟨u, h1, fun _ h2 => by cases k <;> exact h2⟩
theorem wrapK_pt {k : IntKind} {n : Int} {K : Int → Prop} (h : wrapK k n K) : ∃ u, K u ∧ ∀ K' : Int → Prop, K' u → wrapK k n K' := by
  cases k <;> simp only [wrapK] at h ⊢ <;> first | exact ⟨_, h.2, fun _ h' => ⟨h.1, h'⟩⟩ | exact ⟨_, h, fun _ h => h⟩
theorem flipK_pt {k : IntKind} {n : Int} {K : Int → Prop} (h : flipK k n K) : ∃ u, K u ∧ ∀ K' : Int → Prop, K' u → flipK k n K' := by
  cases k <;> simp only [flipK] at h ⊢ <;> first | exact ⟨_, h.2, fun _ h' => ⟨h.1, h'⟩⟩ | exact ⟨_, h, fun _ h => h⟩
theorem loadK_pt {lk : LK} {K : Value → Prop} (h : loadK lk K) : ∃ u, K u ∧ ∀ K' : Value → Prop, K' u → loadK lk K' := by
  cases lk <;> simp only [loadK] at h ⊢
  · obtain ⟨_, h⟩ := h; exact ⟨_, h, fun _ h => ⟨_, h⟩⟩
  · obtain ⟨_, h⟩ := h; exact ⟨_, h, fun _ h => ⟨_, h⟩⟩
  · obtain ⟨_, h⟩ := h; exact ⟨_, h, fun _ h => ⟨_, h⟩⟩
  · obtain ⟨_, h⟩ := h; exact ⟨_, h, fun _ h => ⟨_, h⟩⟩
  · obtain ⟨_, _, _, h⟩ := h; exact ⟨_, h, fun _ h => ⟨_, _, _, h⟩⟩
  · obtain ⟨_, h⟩ := h; exact ⟨_, h, fun _ h => ⟨_, h⟩⟩
  · obtain ⟨_, h⟩ := h; exact ⟨_, h, fun _ h => ⟨_, h⟩⟩
theorem gOpt_pt {e : Env} {o : Option X} {d : Int} {K : Int → Prop} (h : gOpt e o d K) : ∃ u, K u ∧ ∀ K' : Int → Prop, K' u → gOpt e o d K' := by
  cases o with
  | none => exact ⟨d, h, fun _ h => h⟩
  | some x => exact gNum_pt h
theorem gV_pt {s : Option Value} {K : Value → Prop} (h : gV s K) : ∃ u, K u ∧ ∀ K' : Value → Prop, K' u → gV s K' := by
  obtain ⟨u, rfl, h⟩ := gV_elim h; exact ⟨u, h, fun _ h => h⟩
theorem gAs_pt {e : Env} : ∀ {xs : List X} {K : List SV → Prop}, gAs e xs K → ∃ u, K u ∧ ∀ K' : List SV → Prop, K' u → gAs e xs K'
  | [], K, h => ⟨_, h, fun _ h => h⟩
  | x :: xs, K, h => by
    obtain ⟨u, h, b⟩ := gA_pt h
    obtain ⟨l, h, b'⟩ := gAs_pt h
    exact ⟨_, h, fun K' h => b _ (b' _ h)⟩
theorem gPs_pt {e : Env} : ∀ {xs : List (Nat × Nat × X)} {K : List (Nat × List Value) → Prop}, gPs e xs K → ∃ u, K u ∧ ∀ K' : List (Nat × List Value) → Prop, K' u → gPs e xs K'
  | [], K, h => ⟨_, h, fun _ h => h⟩
  | (off, sz, x) :: xs, K, h => by
    obtain ⟨u, ⟨h1, h⟩, b⟩ := gA_pt h
    obtain ⟨l, h, b'⟩ := gPs_pt h
    exact ⟨_, h, fun K' h => b _ ⟨h1, b' _ h⟩⟩
theorem nilB_pt {nk : NK} {s : SV} {K : Bool → Prop} (h : nilB nk s K) : ∃ u, K u ∧ ∀ K' : Bool → Prop, K' u → nilB nk s K' := by
  unfold nilB at h
  split at h <;> first | exact h.elim | exact ⟨_, h, fun _ h => h⟩

theorem lkK_some {o : Option Value} {A : Value → Prop} {B : Prop} {v : Value} (h : o = some v) (hA : A v) : lkK o A B := by
  subst h; exact ⟨(fun v' hv => by cases hv; exact hA), fun hn => by cases hn⟩
theorem lkK_none {o : Option Value} {A : Value → Prop} {B : Prop} (h : o = none) (hB : B) : lkK o A B := by
  subst h; exact ⟨(fun v' hv => by cases hv), fun _ => hB⟩

section
variable {P : Program} {w0 : World} {fp0 : List Nat} {e : Env} {L : List Ent} {k : SV → List Ent → Prop} {i : I}

theorem VI_pt (hq : isQ i = true) (h : VI P w0 fp0 i e L k) : ∃ s, k s L ∧ ∀ k' : SV → List Ent → Prop, k' s L → VI P w0 fp0 i e L k' := by
  cases i with
  | mv x => simp only [VI] at h ⊢; obtain ⟨u, h, b⟩ := gA_pt h; exact ⟨u, h, fun k' h => b _ h⟩
  | pick c x y =>
    simp only [VI] at h ⊢
    obtain ⟨t, h, b⟩ := gBool_pt h
    obtain ⟨u, h, b1⟩ := gA_pt h
    obtain ⟨v, h, b2⟩ := gA_pt h
    cases t
    · exact ⟨v, h.2 rfl, fun k' h => b _ (b1 _ (b2 _ ⟨nofun, fun _ => h⟩))⟩
    · exact ⟨u, h.1 rfl, fun k' h => b _ (b1 _ (b2 _ ⟨fun _ => h, nofun⟩))⟩
  | ar o kd x y =>
    simp only [VI] at h ⊢
    obtain ⟨p, h, b⟩ := gInt_pt h
    obtain ⟨q, h, b1⟩ := gInt_pt h
    obtain ⟨r, h, b2⟩ := wrapK_pt h
    exact ⟨_, h, fun k' h => b _ (b1 _ (b2 _ h))⟩
  | arf o kd x y =>
    simp only [VI] at h ⊢
    obtain ⟨p, h, b⟩ := gInt_pt h
    obtain ⟨q, h, b1⟩ := gInt_pt h
    obtain ⟨r, h, b2⟩ := flipK_pt h
    exact ⟨_, h, fun k' h => b _ (b1 _ (b2 _ h))⟩
  | dv rem kd x y =>
    simp only [VI] at h ⊢
    obtain ⟨p, h, b⟩ := gInt_pt h
    obtain ⟨q, ⟨h0, h⟩, b1⟩ := gInt_pt h
    exact ⟨_, h, fun k' h => b _ (b1 _ ⟨h0, h⟩)⟩
  | dvr rem kd x y =>
    simp only [VI] at h ⊢
    obtain ⟨p, h, b⟩ := gInt_pt h
    obtain ⟨q, ⟨h0, h⟩, b1⟩ := gInt_pt h
    exact ⟨_, h, fun k' h => b _ (b1 _ ⟨h0, h⟩)⟩
  | cmp o kd x y =>
    simp only [VI] at h ⊢
    obtain ⟨p, h, b⟩ := gInt_pt h
    obtain ⟨q, h, b1⟩ := gInt_pt h
    exact ⟨_, h, fun k' h => b _ (b1 _ h)⟩
  | sh left kd x y =>
    simp only [VI] at h ⊢
    obtain ⟨p, h, b⟩ := gInt_pt h
    obtain ⟨q, ⟨h0, h⟩, b1⟩ := gNum_pt h
    cases left
    · exact ⟨_, h, fun k' h => b _ (b1 _ ⟨h0, h⟩)⟩
    · obtain ⟨r, h, b2⟩ := wrapK_pt h
      exact ⟨_, h, fun k' h => b _ (b1 _ ⟨h0, b2 _ h⟩)⟩
  | bit o kd x y =>
    simp only [VI] at h ⊢
    obtain ⟨p, h, b⟩ := gInt_pt h
    obtain ⟨q, ⟨h0, h⟩, b1⟩ := gInt_pt h
    exact ⟨_, h, fun k' h => b _ (b1 _ ⟨h0, h⟩)⟩
  | eqb ng x y =>
    simp only [VI] at h ⊢
    obtain ⟨p, h, b⟩ := gBool_pt h
    obtain ⟨q, h, b1⟩ := gBool_pt h
    exact ⟨_, h, fun k' h => b _ (b1 _ h)⟩
  | eqs ng x y =>
    simp only [VI] at h ⊢
    obtain ⟨p, h, b⟩ := gA_pt h
    obtain ⟨q, h, b1⟩ := gA_pt h
    split at h
    · exact ⟨_, h, fun k' h => b _ (b1 _ h)⟩
    · exact h.elim
  | eqn nk ng x =>
    simp only [VI] at h ⊢
    obtain ⟨p, h, b⟩ := gA_pt h
    obtain ⟨q, h, b1⟩ := nilB_pt h
    exact ⟨_, h, fun k' h => b _ (b1 _ h)⟩
  | eqa ng ks x y =>
    simp only [VI] at h ⊢
    obtain ⟨p, h, b⟩ := gA_pt h
    obtain ⟨q, h, b1⟩ := gA_pt h
    split at h
    · exact ⟨_, h.2, fun k' h' => b _ (b1 _ ⟨h.1, h'⟩)⟩
    · exact h.elim
  | eqp ng x y =>
    simp only [VI] at h ⊢
    obtain ⟨p, h, b⟩ := gA_pt h
    obtain ⟨q, ⟨a1, a2, h0, h⟩, b1⟩ := gA_pt h
    exact ⟨_, h, fun k' h => b _ (b1 _ ⟨a1, a2, h0, h⟩)⟩
  | not x => simp only [VI] at h ⊢; obtain ⟨u, h, b⟩ := gBool_pt h; exact ⟨_, h, fun k' h => b _ h⟩
  | neg kd x =>
    simp only [VI] at h ⊢
    obtain ⟨p, h, b⟩ := gInt_pt h
    obtain ⟨r, h, b2⟩ := wrapK_pt h
    exact ⟨_, h, fun k' h => b _ (b2 _ h)⟩
  | cv kd x =>
    simp only [VI] at h ⊢
    obtain ⟨p, h, b⟩ := gNum_pt h
    obtain ⟨r, h, b2⟩ := wrapK_pt h
    exact ⟨_, h, fun k' h => b _ (b2 _ h)⟩
  | cvf kd x =>
    simp only [VI] at h ⊢
    obtain ⟨p, h, b⟩ := gNum_pt h
    obtain ⟨r, h, b2⟩ := flipK_pt h
    exact ⟨_, h, fun k' h => b _ (b2 _ h)⟩
  | ext x m =>
    simp only [VI] at h ⊢
    obtain ⟨p, h, b⟩ := gA_pt h
    split at h
    · obtain ⟨v, h, b1⟩ := gV_pt h
      exact ⟨_, h, fun k' h => b _ (b1 _ h)⟩
    · exact h.elim
  | bld z ps =>
    simp only [VI] at h ⊢
    obtain ⟨p, h, b⟩ := gPs_pt h
    exact ⟨_, h, fun k' h => b _ h⟩
  | ld lk x =>
    simp only [VI] at h ⊢
    obtain ⟨s, h, b⟩ := gA_pt h
    have gen : (loadK lk fun v => Rd w0 fp0 L s [v] ∧ k (.v v) L) → ∃ v, k v L ∧ ∀ k' : SV → List Ent → Prop, k' v L → (loadK lk fun v => Rd w0 fp0 L s [v] ∧ k' (.v v) L) := fun h => by
      obtain ⟨v, ⟨h0, h⟩, b1⟩ := loadK_pt h
      exact ⟨_, h, fun k' h => b1 _ ⟨h0, h⟩⟩
    cases s with
    | ptr key bb off =>
      simp only at h
      cases hb : boxAt key L with
      | none =>
        simp only [hb] at h
        obtain ⟨v, h, b1⟩ := gen h
        exact ⟨v, h, fun k' h => b _ (by simp only [hb]; exact b1 k' h)⟩
      | some q =>
        obtain ⟨b', cs, T⟩ := q
        simp only [hb] at h
        obtain ⟨h0, h⟩ := h
        obtain ⟨v, h, b1⟩ := gV_pt h
        exact ⟨_, h, fun k' h => b _ (by simp only [hb]; exact ⟨h0, b1 _ h⟩)⟩
    | ek key a j =>
      simp only at h
      cases hb : ownAt key L with
      | none => simp only [hb] at h
      | some ow =>
        simp only [hb] at h
        obtain ⟨h0, h⟩ := h
        obtain ⟨v, ⟨h1, h⟩, b1⟩ := loadK_pt h
        exact ⟨_, h, fun k' h => b _ (by simp only [hb]; exact ⟨h0, b1 _ ⟨h1, h⟩⟩)⟩
    | v x => obtain ⟨v, h, b1⟩ := gen h; exact ⟨v, h, fun k' h => b _ (b1 k' h)⟩
    | el a j => obtain ⟨v, h, b1⟩ := gen h; exact ⟨v, h, fun k' h => b _ (b1 k' h)⟩
    | sl key a n c => obtain ⟨v, h, b1⟩ := gen h; exact ⟨v, h, fun k' h => b _ (b1 k' h)⟩
    | mp key bb => obtain ⟨v, h, b1⟩ := gen h; exact ⟨v, h, fun k' h => b _ (b1 k' h)⟩
  | lda m ks x =>
    simp only [VI] at h ⊢
    obtain ⟨s, h, b⟩ := gA_pt h
    have gen : (∃ vs : List Value, vs.length = m ∧ Rd w0 fp0 L s vs ∧ k (.v (.agg vs.toArray)) L) → ∃ v, k v L ∧ ∀ k' : SV → List Ent → Prop, k' v L → (∃ vs : List Value, vs.length = m ∧ Rd w0 fp0 L s vs ∧ k' (.v (.agg vs.toArray)) L) := fun h => by
      obtain ⟨vs, h0, h1, h⟩ := h
      exact ⟨_, h, fun k' h => ⟨vs, h0, h1, h⟩⟩
    cases s with
    | ptr key bb off =>
      simp only at h
      cases hb : boxAt key L with
      | none =>
        simp only [hb] at h
        obtain ⟨v, h, b1⟩ := gen h
        exact ⟨v, h, fun k' h => b _ (by simp only [hb]; exact b1 k' h)⟩
      | some q =>
        obtain ⟨b', cs, T⟩ := q
        simp only [hb] at h
        obtain ⟨h0, h⟩ := h
        exact ⟨_, h, fun k' h => b _ (by simp only [hb]; exact ⟨h0, h⟩)⟩
    | ek key a j =>
      simp only at h
      cases hb : ownAt key L with
      | none => simp only [hb] at h
      | some ow =>
        simp only [hb] at h
        obtain ⟨h0, vs, h1, h2, h⟩ := h
        exact ⟨_, h, fun k' h => b _ (by simp only [hb]; exact ⟨h0, vs, h1, h2, h⟩)⟩
    | v x => obtain ⟨v, h, b1⟩ := gen h; exact ⟨v, h, fun k' h => b _ (b1 k' h)⟩
    | el a j => obtain ⟨v, h, b1⟩ := gen h; exact ⟨v, h, fun k' h => b _ (b1 k' h)⟩
    | sl key a n c => obtain ⟨v, h, b1⟩ := gen h; exact ⟨v, h, fun k' h => b _ (b1 k' h)⟩
    | mp key bb => obtain ⟨v, h, b1⟩ := gen h; exact ⟨v, h, fun k' h => b _ (b1 k' h)⟩
  | nil x =>
    simp only [VI] at h ⊢
    obtain ⟨s, h, b⟩ := gA_pt h
    refine ⟨s, ?_, fun k' h' => b _ ?_⟩
    · split at h <;> first | exact h.elim | exact h.2 | exact h
    · revert h
      cases s with
      | v x => cases x <;> intro h <;> first | exact h.elim | exact ⟨h.1, h'⟩
      | ptr => intro _; exact h'
      | el => intro h; exact ⟨h.1, h'⟩
      | ek => intro h; exact ⟨h.1, h'⟩
      | sl => intro h; exact h.elim
      | mp => intro h; exact h.elim
  | fa off x =>
    simp only [VI] at h ⊢
    obtain ⟨s, h, b⟩ := gA_pt h
    split at h
    · exact ⟨_, h, fun k' h => b _ h⟩
    · exact ⟨_, h.2, fun k' h' => b _ ⟨h.1, h'⟩⟩
    · exact ⟨_, h.2, fun k' h' => b _ ⟨h.1, h'⟩⟩
    · exact ⟨_, h, fun k' h => b _ h⟩
    · exact h.elim
  | ia sz x y =>
    simp only [VI] at h ⊢
    obtain ⟨s, h, b⟩ := gA_pt h
    obtain ⟨q, h, b1⟩ := gNum_pt h
    split at h
    · exact ⟨_, h.2.2, fun k' h' => b _ (b1 _ ⟨h.1, h.2.1, h'⟩)⟩
    · exact ⟨_, h.2.2, fun k' h' => b _ (b1 _ ⟨h.1, h.2.1, h'⟩)⟩
    · exact h.elim
  | iaa sz len x y =>
    simp only [VI] at h ⊢
    obtain ⟨s, h, b⟩ := gA_pt h
    obtain ⟨q, h, b1⟩ := gNum_pt h
    split at h
    · exact ⟨_, h.2, fun k' h' => b _ (b1 _ ⟨h.1, h'⟩)⟩
    · exact ⟨_, h.2, fun k' h' => b _ (b1 _ ⟨h.1, h'⟩)⟩
    · exact h.elim
  | lens x =>
    simp only [VI] at h ⊢
    obtain ⟨s, h, b⟩ := gA_pt h
    split at h
    · exact ⟨_, h, fun k' h => b _ h⟩
    · exact ⟨_, h, fun k' h => b _ h⟩
    · exact h.elim
  | lent x =>
    simp only [VI] at h ⊢
    obtain ⟨s, h, b⟩ := gA_pt h
    split at h
    · exact ⟨_, h, fun k' h => b _ h⟩
    · exact h.elim
  | mm mx kd x y =>
    simp only [VI] at h ⊢
    obtain ⟨p, h, b⟩ := gInt_pt h
    obtain ⟨q, h, b1⟩ := gInt_pt h
    exact ⟨_, h, fun k' h => b _ (b1 _ h)⟩
  | mki T x => simp only [VI] at h ⊢; obtain ⟨u, h, b⟩ := gA_pt h; exact ⟨_, h, fun k' h => b _ h⟩
  | mkf fn fi ca =>
    simp only [VI] at h ⊢
    obtain ⟨p, h, b⟩ := gAs_pt h
    obtain ⟨q, h, b1⟩ := gAs_pt h
    exact ⟨_, h, fun k' h => b _ (b1 _ h)⟩
  | slc sz x lo hi =>
    simp only [VI] at h ⊢
    obtain ⟨s, h, b⟩ := gA_pt h
    obtain ⟨l, h, b1⟩ := gOpt_pt h
    split at h
    · obtain ⟨m, ⟨h0, h⟩, b2⟩ := gOpt_pt h
      exact ⟨_, h, fun k' h => b _ (b1 _ (b2 _ ⟨h0, h⟩))⟩
    · obtain ⟨m, ⟨h0, h⟩, b2⟩ := gOpt_pt h
      exact ⟨_, h, fun k' h => b _ (b1 _ (b2 _ ⟨h0, h⟩))⟩
    · exact h.elim
  | fld off lk x =>
    simp only [VI] at h ⊢
    obtain ⟨s, h, b⟩ := gA_pt h
    split at h
    · obtain ⟨v, h, b1⟩ := gV_pt h
      exact ⟨_, h, fun k' h => b _ (b1 _ h)⟩
    · exact h.elim
  | fls off n x =>
    simp only [VI] at h ⊢
    obtain ⟨s, h, b⟩ := gA_pt h
    split at h
    · exact ⟨_, h.2, fun k' h' => b _ ⟨h.1, h'⟩⟩
    · exact h.elim
  | cvs x =>
    simp only [VI] at h ⊢
    obtain ⟨s, h, b⟩ := gA_pt h
    unfold gCells at h
    split at h
    · split at h
      · rename_i ho
        obtain ⟨h1, l, h2, h⟩ := h
        refine ⟨_, h, fun k' h' => b _ ?_⟩
        simp only [gCells, ho]
        exact ⟨h1, l, h2, h'⟩
      · exact h.elim
    · obtain ⟨xs, h1, l, h2, h⟩ := h
      exact ⟨_, h, fun k' h' => b _ ⟨xs, h1, l, h2, h'⟩⟩
    · exact h.elim
  | lku kk ok z x y =>
    simp only [VI] at h ⊢
    obtain ⟨s, h, b⟩ := gA_pt h
    obtain ⟨u, h, b1⟩ := gA_pt h
    have key : ∀ {o : Option Value} {A : Value → Prop} {B : Prop}, lkK o A B → (∃ v, o = some v ∧ A v) ∨ (o = none ∧ B) := fun {o A B} h => by
      cases o with
      | none => exact .inr ⟨rfl, h.2 rfl⟩
      | some v => exact .inl ⟨v, rfl, h.1 v rfl⟩
    split at h
    · split at h
      · rename_i hm
        obtain ⟨h0, h⟩ := h
        rcases key h with ⟨v, hv, h⟩ | ⟨hv, h⟩
        · refine ⟨_, h, fun k' h' => b _ (b1 _ ?_)⟩
          simp only [hm]
          exact ⟨h0, lkK_some hv h'⟩
        · refine ⟨_, h, fun k' h' => b _ (b1 _ ?_)⟩
          simp only [hm]
          exact ⟨h0, lkK_none hv h'⟩
      · exact h.elim
    · exact ⟨_, h.2, fun k' h' => b _ (b1 _ ⟨h.1, h'⟩)⟩
    · exact h.elim
  | tas T ok z x =>
    simp only [VI] at h ⊢
    obtain ⟨s, h, b⟩ := gA_pt h
    split at h
    · rename_i T' v
      by_cases hT : T' = T
      · exact ⟨_, h.1 hT, fun k' h' => b _ ⟨fun _ => h', fun hn => absurd hT hn⟩⟩
      · exact ⟨_, (h.2 hT).2, fun k' h' => b _ ⟨fun hn => absurd hn hT, fun _ => ⟨(h.2 hT).1, h'⟩⟩⟩
    · exact ⟨_, h.2, fun k' h' => b _ ⟨h.1, h'⟩⟩
    · exact h.elim
  | _ => cases hq
end
end Go.EG
