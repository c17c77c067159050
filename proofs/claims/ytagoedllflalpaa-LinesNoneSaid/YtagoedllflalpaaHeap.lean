/- Parts of the heap behind one entry; callees that are handed parts of the heap. Generic over the program: no condition. -/
import Derived.Test.YtagoedllflalpaaUse
namespace Go.EG
open Go.RowKit
set_option linter.unusedVariables false

section
variable {P : Program} {w0 w w' : World} {fp0 : List Nat} {L : List Ent}

/-- For some x, the entries f x. -/
def packE (key : Nat) (fp : List Nat) {α : Type} (f : α → List Ent) : Ent := .abs key fp fun w => ∃ x, fps (f x) = fp ∧ ∀ e ∈ f x, e.ok w

theorem R.unpack {key : Nat} {fp : List Nat} {α : Type} {f : α → List Ent} (h : R w0 fp0 (packE key fp f :: L) w) : ∃ x, fps (f x) = fp ∧ R w0 fp0 (f x ++ L) w := by
  obtain ⟨x, hx, hok⟩ := Ent.abs_ok (h.ok _ List.mem_cons_self)
  have hnd := h.nodup
  have hrg := h.range
  rw [fps_cons] at hnd hrg
  simp only [packE, Ent.fp] at hnd hrg
  refine ⟨x, hx, h.os, h.tape, h.output, h.size, h.old, ?_, ?_, ?_⟩
  · rw [fps_append, hx]; exact hnd
  · intro b hb
    rw [fps_append, hx] at hb
    exact hrg b hb
  · intro e he
    rcases List.mem_append.1 he with he | he
    · exact hok e he
    · exact h.ok e (List.mem_cons_of_mem _ he)

theorem pack_ok {key : Nat} {α : Type} {f : α → List Ent} (x : α) (h : ∀ e ∈ f x, e.ok w) : (packE key (fps (f x)) f).ok w := by
  intro w' hs
  exact ⟨x, rfl, fun e he => Ent.ok_same (h e he) fun b hb => hs b (List.mem_flatMap.2 ⟨e, he, hb⟩)⟩

theorem R.pack {key : Nat} {α : Type} {f : α → List Ent} (x : α) (h : R w0 fp0 (f x ++ L) w) : R w0 fp0 (packE key (fps (f x)) f :: L) w := by
  have hnd := h.nodup
  have hrg := h.range
  rw [fps_append] at hnd hrg
  refine ⟨h.os, h.tape, h.output, h.size, h.old, ?_, ?_, ?_⟩
  · rw [fps_cons]; exact hnd
  · intro b hb; rw [fps_cons] at hb; exact hrg b hb
  · intro e he
    rcases List.mem_cons.1 he with rfl | he
    · exact pack_ok x fun e he => h.ok e (List.mem_append_left _ he)
    · exact h.ok e (List.mem_append_right _ he)

/-- An entry by its key, and the rest. -/
def pickE (key : Nat) : List Ent → Option (Ent × List Ent)
  | [] => none
  | .abs k fp ok :: L => if k = key then some (.abs k fp ok, L) else (pickE key L).map fun p => (p.1, .abs k fp ok :: p.2)
  | e :: L => (pickE key L).map fun p => (p.1, e :: p.2)

theorem pickE_perm {key : Nat} : ∀ {L : List Ent} {e : Ent} {Lr : List Ent}, pickE key L = some (e, Lr) → L.Perm (e :: Lr) := by
  intro L
  induction L with
  | nil => intro e Lr h; cases h
  | cons e0 L ih =>
    have gen : ∀ {e Lr}, ((pickE key L).map fun p => (p.1, e0 :: p.2)) = some (e, Lr) → (e0 :: L).Perm (e :: Lr) := fun {e Lr} h => by
      obtain ⟨p, hp, h⟩ := Option.map_eq_some_iff.1 h
      simp only [Prod.mk.injEq] at h
      obtain ⟨rfl, rfl⟩ := h
      exact ((ih hp).cons _).trans (.swap _ _ _)
    intro e Lr h
    cases e0 with
    | abs k fp ok =>
      simp only [pickE] at h
      split at h
      · simp only [Option.some.injEq, Prod.mk.injEq] at h
        obtain ⟨rfl, rfl⟩ := h
        exact .refl _
      · exact gen h
    | box => exact gen h
    | own => exact gen h
    | mapE => exact gen h

/-- A callee that is handed a part of the heap. -/
theorem CallK_heap {f : FuncId} {args : List Value} {k : SV → List Ent → Prop} {L0 Lr : List Ent} {Q : Value → List Ent → Prop} (hp : L.Perm (L0 ++ Lr))
    (h : ∀ w, R w0 fp0 (L0 ++ Lr) w → R w (fps L0) L0 w → Calls P f args.toArray w fun e w' => ∃ v L1, e = .returned v ∧ R w (fps L0) L1 w' ∧ Q v L1)
    (hk : ∀ v L1, Q v L1 → ∃ s : SV, s.val = v ∧ k s (L1 ++ Lr)) : CallK P w0 fp0 f args L k := fun w hR =>
  (h w (hR.perm hp) (hR.perm hp).restart).mono fun e w' ⟨v, L1, he, hR', hq⟩ => by
    obtain ⟨s, hs, hk⟩ := hk v L1 hq
    exact ⟨v, s, L1 ++ Lr, he, hs, R.call (hR.perm hp) hR', hk⟩

theorem CallK_pack {f : FuncId} {args : List Value} {k : SV → List Ent → Prop} {key : Nat} {fp : List Nat} {α : Type} {fA : α → List Ent} {Lr : List Ent} {Q : Value → List Ent → Prop} (hp : pickE key L = some (packE key fp fA, Lr))
    (h : ∀ w, R w0 fp0 (packE key fp fA :: Lr) w → R w fp [packE key fp fA] w → Calls P f args.toArray w fun e w' => ∃ v L1, e = .returned v ∧ R w fp L1 w' ∧ Q v L1)
    (hk : ∀ v L1, Q v L1 → ∃ s : SV, s.val = v ∧ k s (L1 ++ Lr)) : CallK P w0 fp0 f args L k := by
  have e1 : fps [packE key fp fA] = fp := by simp [packE, Ent.fp, fps]
  refine CallK_heap (L0 := [packE key fp fA]) (pickE_perm hp) (fun w hR hR0 => ?_) hk
  rw [e1] at hR0 ⊢
  exact h w hR hR0

/-- A function that is handed a part of the heap. -/
theorem pack_call {f : Nat} {fl : List Nat} {ts : List (Nat × Tr)} {n : Nat} {rs : List RV} {c : C} {key : Nat} {fp : List Nat} {α : Type} {fA : α → List Ent} {Q : Value → List Ent → Prop} (l : List SV) (hir : irOf P f fl ts = some (n, rs, c)) (hl : l.length ≤ n)
    (hR : R w fp [packE key fp fA] w) (h : ∀ x, fps (fA x) = fp → R w fp (fA x) w → VC P w fp c (fnK rs fun v L' => ∃ L1, Ref w fp L' L1 ∧ Q v L1) (startE 0 l) (fA x)) :
    Calls P f (l.map SV.val).toArray w fun e w' => ∃ v L1, e = .returned v ∧ R w fp L1 w' ∧ Q v L1 := by
  obtain ⟨x, hx, hR'⟩ := hR.unpack
  rw [List.append_nil] at hR'
  exact (calls_ir l hir hl hR' (h x hx hR')).mono fun e w' ⟨v, L', he, hR2, L1, href, hq⟩ => ⟨v, L1, he, href w' hR2, hq⟩

/-- A function that is handed entries. -/
theorem part_call {f : Nat} {fl : List Nat} {ts : List (Nat × Tr)} {n : Nat} {rs : List RV} {c : C} {fp : List Nat} {L0 : List Ent} {Q : Value → List Ent → Prop} (l : List SV) (hir : irOf P f fl ts = some (n, rs, c)) (hl : l.length ≤ n)
    (hR : R w fp L0 w) (h : VC P w fp c (fnK rs fun v L' => ∃ L1, Ref w fp L' L1 ∧ Q v L1) (startE 0 l) L0) :
    Calls P f (l.map SV.val).toArray w fun e w' => ∃ v L1, e = .returned v ∧ R w fp L1 w' ∧ Q v L1 :=
  (calls_ir l hir hl hR h).mono fun e w' ⟨v, L', he, hR2, L1, href, hq⟩ => ⟨v, L1, he, href w' hR2, hq⟩

/-- A function that hands back a new part of the heap. -/
theorem new_call {f : Nat} {fl : List Nat} {ts : List (Nat × Tr)} {n : Nat} {rs : List RV} {c : C} {Q : Value → List Ent → Prop} (l : List SV) (hir : irOf P f fl ts = some (n, rs, c)) (hl : l.length ≤ n)
    (h : VC P w [] c (fnK rs fun v L' => ∃ L1, Ref w [] L' L1 ∧ Q v L1) (startE 0 l) []) :
    Calls P f (l.map SV.val).toArray w fun e w' => ∃ v L1, e = .returned v ∧ R w [] L1 w' ∧ Q v L1 :=
  (calls_ir l hir hl (R.start0 w) h).mono fun e w' ⟨v, L', he, hR2, L1, href, hq⟩ => ⟨v, L1, he, href w' hR2, hq⟩

theorem CallK_new {f : FuncId} {args : List Value} {k : SV → List Ent → Prop} {Q : Value → List Ent → Prop}
    (h : ∀ w, R w0 fp0 L w → Calls P f args.toArray w fun e w' => ∃ v L1, e = .returned v ∧ R w [] L1 w' ∧ Q v L1)
    (hk : ∀ v L1, Q v L1 → ∃ s : SV, s.val = v ∧ k s (L1 ++ L)) : CallK P w0 fp0 f args L k :=
  CallK_heap (L0 := []) (Lr := L) (.refl _) (fun w hR _ => h w hR) hk

theorem Ref.pack {key : Nat} {α : Type} {f : α → List Ent} (x : α) (h : Thin L (f x)) : Ref w0 fp0 L [packE key (fps (f x)) f] := fun w hR => by
  have := h.ref w hR
  rw [← List.append_nil (f x)] at this
  exact this.pack x
theorem Ref.packs {key : Nat} {α : Type} {f : α → List Ent} {Lr : List Ent} (x : α) (h : Thin L (f x ++ Lr)) : Ref w0 fp0 L (packE key (fps (f x)) f :: Lr) := fun w hR => (h.ref w hR).pack x

theorem Thin.map {k k' b : Nat} {kk : KK} {m m' : List (Value × Value)} {L L' : List Ent} (hx : m = m') (h : Thin L L') : Thin (.mapE k b kk m :: L) (.mapE k' b kk m' :: L') := by
  subst hx
  exact .keep rfl (fun _ h => h) h
theorem Thin.packE {k k' : Nat} {fp : List Nat} {α : Type} {f : α → List Ent} {L L' : List Ent} (h : Thin L L') : Thin (packE k fp f :: L) (packE k' fp f :: L') :=
  .keep rfl (fun _ h => h) h

theorem lk_some {o : Option Value} {v : Value} {A : Value → Prop} {B : Prop} (h : o = some v) (hA : A v) : Stop ((∀ v, o = some v → A v) ∧ (o = none → B)) :=
  ⟨(fun v' hv => by rw [h] at hv; cases hv; exact hA), fun hn => by rw [h] at hn; cases hn⟩
theorem lk_none {o : Option Value} {A : Value → Prop} {B : Prop} (h : o = none) (hB : B) : Stop ((∀ v, o = some v → A v) ∧ (o = none → B)) :=
  ⟨(fun v' hv => by rw [h] at hv; cases hv), fun _ => hB⟩

/-- The cells of a row of one's own, read behind an address. -/
theorem Rd.own {key : Nat} {a : Option Addr} {n c T sz i : Nat} {xs vs : List Value} (h : ownAt key L = some ⟨a, n, c, T, sz, xs⟩) (h0 : 0 < vs.length) (hv : (xs.drop i).take vs.length = vs) : Rd w0 fp0 L (.el a i) vs := by
  intro w hR
  have hget : ∀ j v, vs[j]? = some v → xs[i + j]? = some v := fun j v hj => by
    rw [← hv, List.getElem?_take] at hj
    split at hj
    · simpa using hj
    · cases hj
  obtain ⟨v0, hv0⟩ : ∃ v, vs[0]? = some v := ⟨vs[0], by simp [h0]⟩
  obtain ⟨g, ha, _⟩ := cell_own hR h (hget 0 v0 hv0)
  refine ⟨g, i, by simp only at ha; simp [SV.val, ha, add_lit'], fun j v hj => ?_⟩
  obtain ⟨g', ha', hc⟩ := cell_own hR h (hget j v hj)
  rw [ha] at ha'
  simp only [Option.some.injEq, Addr.mk.injEq, and_true] at ha'
  subst ha'
  exact hc

/-- A row of one's own that is not empty has an address. -/
theorem own_ne {key : Nat} {a : Option Addr} {n c T sz : Nat} {xs : List Value} (hR : R w0 fp0 L w) (h : ownAt key L = some ⟨a, n, c, T, sz, xs⟩) (hx : 0 < n) : a ≠ none := by
  have := own_row hR h
  rcases this.2 with ⟨_, h3⟩ | ⟨g, cap, cur, h2, _⟩
  · simp only at h3; omega
  · simp only [Value.slice.injEq] at h2
    rw [h2.1]; simp

/-- A row beside the part that a callee is handed: the callee reads it. -/
theorem In.beside {key kp : Nat} {fp : List Nat} {ok : World → Prop} {a : Option Addr} {n c T sz : Nat} {xs : List Value} {Lr : List Ent} (hR : R w0 fp0 (.abs kp fp ok :: Lr) w) (h : ownAt key Lr = some ⟨a, n, c, T, sz, xs⟩) : In w fp a xs := by
  have h1 : In w [] a xs := In.ownR (key := key) hR.tail h
  rcases h1 with h1 | ⟨b, off, ha, hb, _, hc⟩
  · exact .inl h1
  · refine .inr ⟨b, off, ha, hb, fun hm => ?_, hc⟩
    obtain ⟨L', h1, _⟩ := ownAt_perm h
    have hnd := hR.nodup
    rw [fps_cons] at hnd
    have hin : b ∈ fps Lr := by
      refine (fps_perm h1).mem_iff.2 ?_
      rw [fps_cons]
      refine List.mem_append_left _ ?_
      simp [Ent.fp, Value.ownBlock, ha]
    exact (List.nodup_append.1 hnd).2.2 b hm b hin rfl
end
end Go.EG
