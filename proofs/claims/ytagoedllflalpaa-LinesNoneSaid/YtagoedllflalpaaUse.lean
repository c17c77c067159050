/- What a proof over a small form uses: the loop's rule, a cut, input rows, integers' rows, calls. Generic over the program: no condition. -/
import Derived.Test.YtagoedllflalpaaWalk
namespace Go.EG
open Go.RowKit
set_option linter.unusedVariables false

section
variable {P : Program} {w0 : World} {fp0 : List Nat} {K : Exit → Env → List Ent → Prop} {e : Env} {L : List Ent}

theorem VC_loop {c : C} (α : Type) (E : α → Env) (H : α → List Ent) (I : α → Prop) (μ : α → Nat) (x0 : α) (h0 : I x0) (hs : subV (E x0) e) (hr : Ref w0 fp0 L (H x0))
    (h : ∀ x, I x → VC P w0 fp0 c (kLoop w0 fp0 E H I μ (μ x) K) (E x) (H x)) : Stop (∃ (α : Type) (E : α → Env) (H : α → List Ent) (I : α → Prop) (μ : α → Nat), (∃ x, I x ∧ subV (E x) e ∧ Ref w0 fp0 L (H x)) ∧ ∀ x, I x → VC P w0 fp0 c (kLoop w0 fp0 E H I μ (μ x) K) (E x) (H x)) :=
  ⟨α, E, H, I, μ, ⟨x0, h0, hs, hr⟩, h⟩

theorem VC_cut {a b : C} (α : Type) (E : α → Env) (H : α → List Ent) (I : α → Prop)
    (h : VC P w0 fp0 a (kCut w0 fp0 E H I K) e L) (k : ∀ x, I x → VC P w0 fp0 b K (E x) (H x)) : Stop (∃ (α : Type) (E : α → Env) (H : α → List Ent) (I : α → Prop), VC P w0 fp0 a (kCut w0 fp0 E H I K) e L ∧ ∀ x, I x → VC P w0 fp0 b K (E x) (H x)) :=
  ⟨α, E, H, I, h, k⟩
theorem cut_next {α : Type} {E : α → Env} {H : α → List Ent} {I : α → Prop} (x : α) (h1 : I x) (h3 : subV (E x) e) (h4 : Ref w0 fp0 L (H x)) :
    Stop (∃ x, I x ∧ subV (E x) e ∧ Ref w0 fp0 L (H x)) := ⟨x, h1, h3, h4⟩

theorem loop_next {α : Type} {E : α → Env} {H : α → List Ent} {I : α → Prop} {μ : α → Nat} {m : Nat} (x : α) (h1 : I x) (h2 : μ x < m) (h3 : subV (E x) e) (h4 : Ref w0 fp0 L (H x)) :
    Stop (∃ x, (I x ∧ μ x < m) ∧ subV (E x) e ∧ Ref w0 fp0 L (H x)) := ⟨x, ⟨h1, h2⟩, h3, h4⟩

theorem vint_eq {k : IntKind} {a b : Int} (h : a = b) : (SV.v (.int k a)).val = (SV.v (.int k b)).val := by rw [h]
theorem vsl_eq {k k' : Nat} {a : Option Addr} {n n' c : Nat} (h : n = n') : (SV.sl k a n c).val = (SV.sl k' a n' c).val := by rw [h]; rfl
theorem Ref.refl (L : List Ent) : Ref w0 fp0 L L := fun _ h => h
theorem Ref.ownNil (key T sz : Nat) : Ref w0 fp0 L (.own key none 0 0 T sz [] :: L) := fun _ h => h.ownNil key T sz
theorem Ref.sub {L' : List Ent} (h : L'.Sublist L) : Ref w0 fp0 L L' := fun _ k => k.sub h
theorem Ref.perm {L' : List Ent} (h : L.Perm L') : Ref w0 fp0 L L' := fun _ k => k.perm h
theorem Ref.trans {L' L'' : List Ent} (h : Ref w0 fp0 L L') (k : Ref w0 fp0 L' L'') : Ref w0 fp0 L L'' := fun _ q => k _ (h _ q)

/-- Cells that were there at the start and are not written. -/
def In (w0 : World) (fp0 : List Nat) (a : Option Addr) (xs : List Value) : Prop :=
  xs = [] ∨ ∃ b off, a = some ⟨b, off, none⟩ ∧ b < w0.heap.size ∧ b ∉ fp0 ∧ ∀ j v, xs[j]? = some v → w0.cell? ⟨b, off + j, none⟩ = some v

theorem cell_old {w w' : World} {a : Addr} (h : w'.heap[a.block]? = w.heap[a.block]?) : w'.cell? a = w.cell? a := by
  simp only [World.cell?, h]

theorem In.ne {a : Option Addr} {xs : List Value} (h : In w0 fp0 a xs) (hx : xs ≠ []) : a ≠ Option.none := by
  rcases h with h | ⟨b, off, rfl, _⟩
  · exact absurd h hx
  · simp
theorem In.ne' {a : Option Addr} {xs : List Value} (h : In w0 fp0 a xs) {k : Nat} (hx : k < xs.length) : a ≠ Option.none := h.ne (by rintro rfl; simp at hx)

theorem In.rd {a : Option Addr} {xs : List Value} {k : Nat} {v : Value} (h : In w0 fp0 a xs) (hv : xs[k]? = some v) : Rd w0 fp0 L (.el a k) [v] := by
  intro w hR
  rcases h with rfl | ⟨b, off, rfl, h1, h2, h3⟩
  · simp at hv
  · refine ⟨b, off + k, by simp [SV.val, add_lit'], fun j u hu => ?_⟩
    have : j = 0 ∧ u = v := by
      cases j with
      | zero => simpa [eq_comm] using hu
      | succ j => simp at hu
    obtain ⟨rfl, rfl⟩ := this
    rw [cell_old (w := w0) (hR.old b h1 h2)]
    exact h3 k u hv

theorem In.rds {a : Option Addr} {xs : List Value} {n : Nat} (h : In w0 fp0 a xs) (hn : n = xs.length) : RdS w0 fp0 L a n xs := by
  refine ⟨hn, ?_⟩
  rcases h with h | ⟨b, off, rfl, h1, h2, h3⟩
  · exact .inl h
  · refine .inr fun w hR => ⟨b, off, rfl, fun j v hv => ?_⟩
    rw [cell_old (w := w0) (hR.old b h1 h2)]
    exact h3 j v hv

theorem In.cast {w : World} {fp : List Nat} {a : Option Addr} {xs : List Value} (h : In w0 fp0 a xs) (hR : R w0 fp0 L w) (hf : ∀ b ∈ fp, b ∈ fps L) : In w fp a xs := by
  rcases h with rfl | ⟨b, off, rfl, h1, h2, h3⟩
  · exact .inl rfl
  · refine .inr ⟨b, off, rfl, Nat.lt_of_lt_of_le h1 hR.size, fun hb => ?_, fun j v hv => ?_⟩
    · rcases (hR.range b (hf b hb)).1 with h | h
      · exact h2 h
      · omega
    · rw [cell_old (w := w0) (hR.old b h1 h2)]
      exact h3 j v hv

/-- Integers as cells. -/
def ints (k : IntKind) (xs : List Int) : List Value := xs.map (.int k)
theorem ints_get {k : IntKind} {xs : List Int} {i : Nat} {x : Int} (h : xs[i]? = some x) : (ints k xs)[i]? = some (.int k x) := by
  simp [ints, h]
theorem ints_length {k : IntKind} {xs : List Int} : (ints k xs).length = xs.length := by simp [ints]

theorem Ext.R {w w' : World} (h : Ext w w') (hR : R w0 fp0 L w) : R w0 fp0 L w' := hR.below h

/-- A call that yields one value and at most makes new blocks. -/
theorem CallK_pure {f : FuncId} {args : List Value} {k : SV → List Ent → Prop} (s : SV) (h : ∀ w, R w0 fp0 L w → Calls P f args.toArray w fun x w' => x = .returned s.val ∧ Ext w w') (hk : k s L) : CallK P w0 fp0 f args L k :=
  fun w hR => (h w hR).mono fun x w' ⟨hx, he⟩ => ⟨s.val, s, L, hx, rfl, hR.below he, hk⟩

theorem QCall_pure {f : FuncId} {args : List Value} {k : SV → Prop} (s : SV) (h : ∀ w, R w0 fp0 L w → Calls P f args.toArray w fun x w' => x = .returned s.val ∧ Ext w w') (hk : k s) : QCall P w0 fp0 f args L k :=
  ⟨s, h, hk⟩

theorem pure_call {f : Nat} {fl : List Nat} {ts : List (Nat × Tr)} {n : Nat} {rs : List RV} {c : C} {r : Value} (l : List SV) (w : World) (hir : irOf P f fl ts = some (n, rs, c)) (hl : l.length ≤ n)
    (h : VC P w [] c (fnK rs fun v L => v = r) (startE 0 l) []) : Calls P f (l.map SV.val).toArray w fun x w' => x = .returned r ∧ Ext w w' :=
  (calls_ir l hir hl (R.start0 w) h).mono fun x w' ⟨v, L', hx, hR, hv⟩ => by
    subst hv
    have h0 : R w [] [] w' := hR.sub (List.nil_sublist _)
    exact ⟨hx, h0.toBelow⟩

/-! ### What is kept of a heap -/

inductive Thin : List Ent → List Ent → Prop
  | nil (L : List Ent) : Thin L []
  | skip {e : Ent} {L L' : List Ent} : Thin L L' → Thin (e :: L) L'
  | keep {e e' : Ent} {L L' : List Ent} : e.fp = e'.fp → (∀ w, e.ok w → e'.ok w) → Thin L L' → Thin (e :: L) (e' :: L')

theorem Thin.ok {L L' : List Ent} (h : Thin L L') (w : World) : (∀ e ∈ L, e.ok w) → ∀ e ∈ L', e.ok w := by
  induction h with
  | nil L => intro _ e he; cases he
  | skip h ih => exact fun k => ih fun e he => k e (List.mem_cons_of_mem _ he)
  | keep h1 h2 h ih =>
    intro k e he
    rcases List.mem_cons.1 he with rfl | he
    · exact h2 w (k _ List.mem_cons_self)
    · exact ih (fun e he => k e (List.mem_cons_of_mem _ he)) e he
theorem Thin.fps {L L' : List Ent} (h : Thin L L') : (fps L').Sublist (fps L) := by
  induction h with
  | nil L => exact List.nil_sublist _
  | skip h ih => rw [fps_cons]; exact ih.trans (List.sublist_append_right _ _)
  | keep h1 h2 h ih => rw [fps_cons, fps_cons, h1]; exact (List.append_sublist_append_left _).2 ih
theorem Thin.ref {L L' : List Ent} (h : Thin L L') : Ref w0 fp0 L L' := fun w k =>
  ⟨k.os, k.tape, k.output, k.size, k.old, h.fps.nodup k.nodup, fun b hb => k.range b (h.fps.subset hb), h.ok w k.ok⟩
theorem Thin.refl : ∀ L : List Ent, Thin L L
  | [] => .nil _
  | _ :: L => .keep rfl (fun _ h => h) (Thin.refl L)
theorem Thin.own {k k' : Nat} {a : Option Addr} {n n' c T sz : Nat} {xs xs' : List Value} {L L' : List Ent} (hn : n = n') (hx : xs = xs') (h : Thin L L') : Thin (.own k a n c T sz xs :: L) (.own k' a n' c T sz xs' :: L') := by
  subst hn hx
  exact .keep rfl (fun _ h => h) h
theorem Thin.box {k k' b T : Nat} {cs cs' : List Value} {L L' : List Ent} (hx : cs = cs') (h : Thin L L') : Thin (.box k b cs T :: L) (.box k' b cs' T :: L') := by
  subst hx
  exact .keep rfl (fun _ h => h) h

/-! ### A function that hands back a row of its own -/

def RetS (T sz n : Nat) (xs : List Value) (w : World) (x : Ending) (w' : World) : Prop :=
  ∃ a c, x = .returned (.slice a n c) ∧ R w [] [.own 0 a n c T sz xs] w'

/-- Where such a function ends. -/
def endS (w0 : World) (T sz n : Nat) (xs : List Value) (v : Value) (L : List Ent) : Prop :=
  ∃ a c, v = .slice a n c ∧ Ref w0 [] L [.own 0 a n c T sz xs]

theorem slice_call {f : Nat} {fl : List Nat} {ts : List (Nat × Tr)} {n : Nat} {rs : List RV} {c : C} {T sz m : Nat} {xs : List Value} (l : List SV) (w : World) (hir : irOf P f fl ts = some (n, rs, c)) (hl : l.length ≤ n)
    (h : VC P w [] c (fnK rs (endS w T sz m xs)) (startE 0 l) []) : Calls P f (l.map SV.val).toArray w (RetS T sz m xs w) :=
  (calls_ir l hir hl (R.start0 w) h).mono fun x w' ⟨v, L', hx, hR, a, c, hv, hr⟩ => by
    subst hv
    exact ⟨a, c, hx, hr w' hR⟩

theorem R.rekey {key key' : Nat} {a : Option Addr} {n c T sz : Nat} {xs : List Value} {w' : World} (h : R w0 fp0 (.own key a n c T sz xs :: L) w') : R w0 fp0 (.own key' a n c T sz xs :: L) w' :=
  (Thin.own rfl rfl (Thin.refl L)).ref w' h

theorem CallK_slice {f : FuncId} {args : List Value} {k : SV → List Ent → Prop} {T sz n : Nat} {xs : List Value} (key : Nat) (h : ∀ w, R w0 fp0 L w → Calls P f args.toArray w (RetS T sz n xs w))
    (hk : ∀ a c, k (.sl key a n c) (.own key a n c T sz xs :: L)) : CallK P w0 fp0 f args L k :=
  fun w hR => (h w hR).mono fun x w' ⟨a, c, hx, hR'⟩ =>
    ⟨_, .sl key a n c, .own key a n c T sz xs :: L, hx, rfl, R.call (L0 := []) (L1 := [.own key a n c T sz xs]) (Lr := L) hR hR'.rekey, hk a c⟩

/-- A row of one's own, read by a callee. -/
theorem In.own {key : Nat} {o : Own} {w : World} (hR : R w0 fp0 L w) (h : ownAt key L = some o) : In w [] o.a o.xs := by
  by_cases hx : o.xs = []
  · exact .inl hx
  · have h0 : 0 < o.xs.length := List.length_pos_iff.2 hx
    obtain ⟨v0, hv0⟩ : ∃ v, o.xs[0]? = some v := ⟨o.xs[0], by simp [h0]⟩
    obtain ⟨g, ha, hc0⟩ := cell_own hR h hv0
    refine .inr ⟨g, 0, ha, ?_, by simp, fun j v hv => ?_⟩
    · obtain ⟨g', cur, ha', hg, _⟩ := owns_some (own_row hR h) h0
      rw [ha] at ha'
      simp only [Option.some.injEq, Addr.mk.injEq, and_true] at ha'
      subst ha'
      exact (Array.getElem?_eq_some_iff.1 hg).1
    · obtain ⟨g', ha', hc⟩ := cell_own hR h hv
      rw [ha] at ha'
      simp only [Option.some.injEq, Addr.mk.injEq, and_true] at ha'
      subst ha'
      rw [Nat.zero_add]; exact hc

theorem In.ownR {key : Nat} {a : Option Addr} {n c T sz : Nat} {xs : List Value} {w : World} (hR : R w0 fp0 L w) (h : ownAt key L = some ⟨a, n, c, T, sz, xs⟩) : In w [] a xs := In.own hR h

/-! ### Rows of integers -/

theorem ints_getD {k : IntKind} {zs : List Int} {i : Nat} (h : i < zs.length) : (ints k zs)[i]? = some (.int k (zs.getD i 0)) := by
  simp [ints, h]
theorem rdI {k : IntKind} {a : Option Addr} {zs : List Int} {i : Nat} (hx : In w0 fp0 a (ints k zs)) (h : i < zs.length) : Rd w0 fp0 L (.el a i) [.int k (zs.getD i 0)] :=
  hx.rd (ints_getD h)
theorem neI {k : IntKind} {a : Option Addr} {zs : List Int} (hx : In w0 fp0 a (ints k zs)) (h : 0 < zs.length) : a ≠ Option.none := hx.ne' (k := 0) (by rw [ints_length]; exact h)
theorem isK_ints {k : IntKind} {zs : List Int} {i : Nat} (h : i < zs.length) : isK (.int k) (ints k zs) i := by
  simp only [isK, valK, atL, ints_getD h, Option.getD_some, intOf]
theorem intOf_ints {k : IntKind} {zs : List Int} {i : Nat} (h : i < zs.length) : intOf (atL (ints k zs) i) = zs.getD i 0 := by
  simp only [atL, ints_getD h, Option.getD_some, intOf]
theorem ints_snoc {k : IntKind} {zs : List Int} {z : Int} : ints k zs ++ [.int k z] = ints k (zs ++ [z]) := by simp [ints]

/-! ### Rows of pairs of integers -/

def prs (k : IntKind) (l : List (Int × Int)) : List Value := l.flatMap fun g => [.int k g.1, .int k g.2]
theorem prs_length {k : IntKind} : ∀ {l : List (Int × Int)}, (prs k l).length = l.length * 2
  | [] => rfl
  | g :: l => by
    have := prs_length (k := k) (l := l)
    simp only [prs, List.flatMap_cons, List.length_append, List.length_cons, List.length_nil] at this ⊢
    omega
theorem prs_snoc {k : IntKind} {l : List (Int × Int)} {x y : Int} : prs k l ++ [.int k x, .int k y] = prs k (l ++ [(x, y)]) := by simp [prs]
theorem prs_get {k : IntKind} : ∀ {l : List (Int × Int)} {i : Nat} (h : i < l.length), (prs k l)[i * 2]? = some (.int k (l.getD i (0, 0)).1) ∧ (prs k l)[i * 2 + 1]? = some (.int k (l.getD i (0, 0)).2)
  | g :: l, 0, _ => by simp [prs]
  | g :: l, i + 1, h => by
    have := prs_get (k := k) (l := l) (i := i) (by simpa using h)
    simp only [prs, List.flatMap_cons] at this ⊢
    rw [show (i + 1) * 2 = (i * 2) + 1 + 1 from by omega, show (i * 2 + 1 + 1 + 1) = (i * 2 + 1) + 1 + 1 from by omega]
    simpa using this
theorem isK_prs1 {k : IntKind} {l : List (Int × Int)} {i : Nat} (h : i < l.length) : isK (.int k) (prs k l) (i * 2) := by
  simp only [isK, valK, atL, (prs_get h).1, Option.getD_some, intOf]
theorem isK_prs2 {k : IntKind} {l : List (Int × Int)} {i : Nat} (h : i < l.length) : isK (.int k) (prs k l) (i * 2 + 1) := by
  simp only [isK, valK, atL, (prs_get h).2, Option.getD_some, intOf]
theorem intOf_prs1 {k : IntKind} {l : List (Int × Int)} {i : Nat} (h : i < l.length) : intOf (atL (prs k l) (i * 2)) = (l.getD i (0, 0)).1 := by
  simp only [atL, (prs_get h).1, Option.getD_some, intOf]
theorem intOf_prs2 {k : IntKind} {l : List (Int × Int)} {i : Nat} (h : i < l.length) : intOf (atL (prs k l) (i * 2 + 1)) = (l.getD i (0, 0)).2 := by
  simp only [atL, (prs_get h).2, Option.getD_some, intOf]
theorem splice_prs2 {k : IntKind} {y : Int} : ∀ {l : List (Int × Int)} {i : Nat} (h : i < l.length), splice (prs k l) (i * 2 + 1) [.int k y] = prs k (l.set i ((l.getD i (0, 0)).1, y))
  | g :: l, 0, _ => by simp [prs, splice]
  | g :: l, i + 1, h => by
    have := splice_prs2 (k := k) (y := y) (l := l) (i := i) (by simpa using h)
    simp only [prs, splice, List.flatMap_cons, List.length_cons, List.length_nil, List.set_cons_succ, List.getD_cons_succ] at this ⊢
    rw [show (i + 1) * 2 + 1 = (i * 2 + 1) + 1 + 1 from by omega, show (i * 2 + 1 + 1 + 1 + (0 + 1)) = (i * 2 + 1 + (0 + 1)) + 1 + 1 from by omega]
    rw [← this]
    rfl
theorem getD_snoc {α : Type} {l : List α} {g d : α} {n : Nat} (h : n = l.length) : (l ++ [g]).getD n d = g := by
  subst h; simp
theorem last_prs {k : IntKind} {l : List (Int × Int)} {g : Int × Int} {n : Nat} (h : n = l.length + 1) : intOf (atL (prs k (l ++ [g])) (((n : Int) - 1).toNat * 2 + 1)) = g.2 := by
  rw [intOf_prs2 (by simp; omega), getD_snoc (by omega)]
theorem set_prs {k : IntKind} {l : List (Int × Int)} {g : Int × Int} {n : Nat} {z : Int} (h : n = l.length + 1) : splice (prs k (l ++ [g])) (((n : Int) - 1).toNat * 2 + 1) [.int k z] = prs k (l ++ [(g.1, z)]) := by
  rw [splice_prs2 (by simp; omega), getD_snoc (by omega), show ((n : Int) - 1).toNat = l.length from by omega]
  congr 1
  simp
end

end Go.EG
