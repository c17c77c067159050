/- Regions whose order is open: an operation that yields one value in every world of a class, and at most makes new blocks, may be taken first. Generic over the program: no condition. -/
import Derived.Test.YtagoedllflalpaaMain
namespace Go.EG
open Go.RowKit
set_option linter.unusedVariables false

section
variable {P : Program} {ops : Array Oper} {Q : Exit → Act → World → Prop} {md : Region.Mode} {C : World → Prop}

def Ext (w w' : World) : Prop := Below w.heap.size w w'
theorem Ext.refl (w : World) : Ext w w := Below.refl _ _
theorem Ext.trans {a b c : World} (h : Ext a b) (k : Ext b c) : Ext a c := Below.trans h (Below.mono k h.size)

/-- What the quiet operation o does in the world w: it yields v. -/
def quietB (P : Program) (w : World) (v : Value) : Result Next → Prop
  | .ok (.value u) w' => w' = w ∧ u = v
  | .ok (.enter f args) w' => w' = w ∧ Calls P f args w (fun e w'' => e = .returned v ∧ Ext w w'')
  | _ => False

def QY (P : Program) (ops : Array Oper) (C : World → Prop) (o : Oper) (v : Value) (a : Act) : Prop :=
  (Region.wanted o (yielded ops a.tmps) = true ∧ ∀ w, C w → quietB P w v ((execOp a.eval o).run P w)) ∨
  (Region.wanted o (yielded ops a.tmps) = false ∧ v = undef)

/-- The frame a' differs from a in nothing that o looks at. -/
def Alike (P : Program) (ops : Array Oper) (o : Oper) (a a' : Act) : Prop :=
  execOp a'.eval o = execOp a.eval o ∧ Region.wanted o (yielded ops a'.tmps) = Region.wanted o (yielded ops a.tmps)

theorem QY.alike {o : Oper} {v : Value} {a a' : Act} (h : QY P ops C o v a) (k : Alike P ops o a a') : QY P ops C o v a' := by
  unfold QY
  rw [k.1, k.2]
  exact h

theorem QY.op {i : Nat} {o : Oper} {v : Value} {a : Act} (hi : ops[i]? = some o) (hy : QY P ops C o v a) {K : Act → World → Prop} {w : World} (hC : C w) (h : ∀ w', Ext w w' → K (a.put o.dst v) w') : wpOp P ops Q i K a w := by
  unfold Go.wpOp
  simp only [hi]
  rcases hy with ⟨hw, hv⟩ | ⟨hw, rfl⟩
  · simp only [hw, if_true, Oper.wp]
    have h1 := hv w hC
    refine .inl ?_
    revert h1
    generalize (execOp a.eval o).run P w = r
    intro h1
    cases r with
    | ok x w' =>
      cases x <;> simp only [quietB] at h1 <;> simp only [Oper.upon]
      case value u => obtain ⟨rfl, rfl⟩ := h1; exact h _ (Ext.refl _)
      case enter f args =>
        obtain ⟨rfl, hc⟩ := h1
        exact hc.mono fun e w'' ⟨he, hx⟩ => by subst he; exact h _ hx
    | halt x w' => simp only [quietB] at h1
  · simp only [hw, Bool.false_eq_true, if_false]
    exact h _ (Ext.refl _)

/-- One operation oj, apart from oi: whether oi's value is already there makes no difference to it, and it makes none to oi. -/
theorem wpOp_late {j : Nat} {oi oj : Oper} {v : Value} (hj : ops[j]? = some oj) (hap : oi.apart ops oj = true) (hsi : ∀ cs b, oi.op ≠ .select cs b) (hsj : ∀ cs b, oj.op ≠ .select cs b)
    (hQ : ∀ c a w, ¬ Q (.panic c) a w) {K : Act → World → Prop} {a : Act} {w : World} (h : wpOp P ops Q j K (a.put oi.dst v) w) :
    wpOp P ops Q j (fun a' w' => Alike P ops oi a a' ∧ K (a'.put oi.dst v) w') a w := by
  obtain ⟨h1, h2, h3⟩ := Oper.apart_spec hap
  have keep : ∀ u, Alike P ops oi a (a.put oj.dst u) := fun u => ⟨execOp_put oi hsi a oj.dst u h3, wanted_put oi a oj.dst u h3⟩
  have keepD : ∀ d u, Alike P ops oi a ({ a with defers := d :: a.defers }.put oj.dst u) := fun d u =>
    ⟨execOp_put oi hsi { a with defers := d :: a.defers } oj.dst u h3, wanted_put oi { a with defers := d :: a.defers } oj.dst u h3⟩
  unfold wpOp at *
  simp only [hj] at *
  rw [wanted_put oj a oi.dst v h1] at h
  split
  · rename_i hw
    simp only [hw, if_true] at h
    rcases h with h | ⟨hasks, hlets⟩
    case inr => exact .inr ⟨by unfold Oper.asks at *; rw [execOp_put oj hsj a oi.dst v h1] at hasks; exact hasks, hlets⟩
    refine .inl ?_
    unfold Oper.wp at *
    rw [execOp_put oj hsj a oi.dst v h1] at h
    generalize (execOp a.eval oj).run P w = r at *
    cases r with
    | ok n w' =>
      cases n <;> simp only [Oper.upon] at h ⊢
      case value u => exact ⟨keep u, by rw [← Act.put_comm a v u h2]; exact h⟩
      case skip => exact ⟨keep _, by rw [← Act.put_comm a v undef h2]; exact h⟩
      case defer d =>
        refine ⟨keepD d _, ?_⟩
        rw [← Act.put_comm _ v undef h2, ← Act.put_defers]
        exact h
      case enter f args =>
        refine Calls.mono h fun e w'' he => ?_
        cases e with
        | returned u => exact ⟨keep u, by rw [← Act.put_comm a v u h2]; exact he⟩
        | panicked c => exact absurd he (hQ _ _ _)
        | outgrown => exact he
      case row row args => exact Rows.mono h fun u w'' he => ⟨keep u, by rw [← Act.put_comm a v u h2]; exact he⟩
    | halt x w' =>
      cases x <;> simp only [Oper.upon] at h ⊢
      case panic u => exact absurd h (hQ _ _ _)
  · rename_i hw
    simp only [hw] at h
    exact ⟨keep _, by rw [← Act.put_comm a v undef h2]; exact h⟩

/-- Whatever is listed, what it waits for is listed. -/
def Closed (md : Region.Mode) (ops : Array Oper) (listed : Array Bool) : Prop :=
  ∀ j oj, ops[j]? = some oj → listed.getD j false = true → ∀ e ∈ oj.after, Region.binds md e = true → listed.getD e.on false = true

theorem getD_both' {listed : Array Bool} {i : Nat} (h : listed.getD i true = false) : listed.getD i false = false := by
  rcases Nat.lt_or_ge i listed.size with h' | h'
  · simp [h'] at h ⊢; exact h
  · simp [Array.getElem?_eq_none h'] at h

theorem Closed.start (m : Nat) : Closed md ops (Array.replicate m false) := fun j oj _ h => by
  rcases Nat.lt_or_ge j m with h' | h'
  · simp [h'] at h
  · simp [h'] at h

theorem Closed.set {i : Nat} {listed : Array Bool} (h : Closed md ops listed) (hi : i ∈ Region.ready md ops listed) : Closed md ops (listed.setIfInBounds i true) := by
  obtain ⟨_, oi, hoi, hall⟩ := mem_ready.1 hi
  intro j oj hj hl e he hb
  by_cases hij : i = j
  · subst hij
    have : oj = oi := Option.some.inj (hj.symm.trans hoi)
    subst this
    exact getD_set_true (hall e he hb)
  · rw [getD_set_ne false hij] at hl
    exact getD_set_true (h j oj hj hl e he hb)

/-- Operation j waits for operation i, directly or through others. -/
def anc (md : Region.Mode) (ops : Array Oper) : Nat → Nat → Nat → Bool
  | 0, _, _ => false
  | f + 1, j, i => match ops[j]? with
    | some oj => oj.after.any fun e => Region.binds md e && (e.on == i || anc md ops f e.on i)
    | none => false

theorem anc_listed {listed : Array Bool} (hc : Closed md ops listed) {i : Nat} : ∀ (f j : Nat), listed.getD j false = true → anc md ops f j i = true → listed.getD i false = true
  | 0, j, _, h => by simp [anc] at h
  | f + 1, j, hj, h => by
    simp only [anc] at h
    split at h
    · rename_i oj hoj
      obtain ⟨e, he, hb⟩ := Array.any_eq_true'.1 h
      simp only [Bool.and_eq_true, Bool.or_eq_true, beq_iff_eq] at hb
      have h1 := hc j oj hoj hj e he hb.1
      rcases hb.2 with rfl | h2
      · exact h1
      · exact anc_listed hc f e.on h1 h2
    · cases h

theorem anc_ready {listed : Array Bool} (hc : Closed md ops listed) {i j : Nat} (hj : j ∈ Region.ready md ops listed) : ∀ {f : Nat}, anc md ops f j i = true → listed.getD i false = true
  | 0, h => by simp [anc] at h
  | f + 1, h => by
    obtain ⟨_, oj, hoj, hall⟩ := mem_ready.1 hj
    simp only [anc, hoj] at h
    obtain ⟨e, he, hb⟩ := Array.any_eq_true'.1 h
    simp only [Bool.and_eq_true, Bool.or_eq_true, beq_iff_eq] at hb
    have h1 := hall e he hb.1
    rcases hb.2 with rfl | h2
    · exact h1
    · exact anc_listed hc f e.on h1 h2

/-- Some operation of qs need not have come up before j. -/
def late (md : Region.Mode) (ops : Array Oper) (qs : List Nat) (j : Nat) : Bool := qs.any fun i => i != j && !anc md ops ops.size j i

/-- Whatever order is picked from here on, whatever new blocks come in between; and behind an operation that may come up before one of qs the world is of the class. -/
def AnyG (P : Program) (md : Region.Mode) (ops : Array Oper) (Q : Exit → Act → World → Prop) (C : World → Prop) (qs : List Nat) : Nat → Array Bool → Act → World → Prop
  | 0, listed, a, w => Region.ready md ops listed = [] ∧ ∀ w1, Ext w w1 → Q .normal a w1
  | fuel + 1, listed, a, w =>
    (Region.ready md ops listed = [] → ∀ w1, Ext w w1 → Q .normal a w1) ∧
    ∀ i ∈ Region.ready md ops listed, ∀ w1, Ext w w1 → wpOp P ops Q i (fun a' w' => (late md ops qs i = true → C w1 → C w') ∧ AnyG P md ops Q C qs fuel (listed.setIfInBounds i true) a' w') a w1

variable {qs : List Nat}

theorem AnyG.ext {fuel : Nat} {listed : Array Bool} {a : Act} {w w' : World} (h : AnyG P md ops Q C qs fuel listed a w) (hx : Ext w w') : AnyG P md ops Q C qs fuel listed a w' := by
  cases fuel with
  | zero => exact ⟨h.1, fun w1 k => h.2 w1 (hx.trans k)⟩
  | succ f => exact ⟨fun h0 w1 k => h.1 h0 w1 (hx.trans k), fun i hi w1 k => h.2 i hi w1 (hx.trans k)⟩

theorem AnyG.any : ∀ (fuel : Nat) (listed : Array Bool) (a : Act) (w : World), AnyG P md ops Q C qs fuel listed a w → wpAny P md ops Q fuel listed a w
  | 0, _, _, w, h => ⟨h.1, h.2 w (Ext.refl _)⟩
  | fuel + 1, listed, a, w, h => ⟨fun h0 => h.1 h0 w (Ext.refl _), fun i hi => wpOp_mono (fun a' w' h' => AnyG.any fuel _ a' w' h'.2) (h.2 i hi w (Ext.refl _))⟩

/-- Where nothing is late any more, another class of worlds may be looked at. -/
theorem AnyG.rebase {C' : World → Prop} {qs' : List Nat} : ∀ (fuel : Nat) (listed : Array Bool) (a : Act) (w : World), (∀ j oj, ops[j]? = some oj → listed.getD j true = false → late md ops qs j = false) → AnyG P md ops Q C' qs' fuel listed a w → AnyG P md ops Q C qs fuel listed a w
  | 0, _, _, _, _, h => h
  | fuel + 1, listed, a, w, hl, h => ⟨h.1, fun i hi w1 hx => wpOp_mono (fun a' w' h' => by
      obtain ⟨hun, oi, hoi, _⟩ := mem_ready.1 hi
      refine ⟨fun hlt => (by rw [hl i oi hoi hun] at hlt; cases hlt), AnyG.rebase fuel _ a' w' (fun j oj hj hju => hl j oj hj ?_) h'.2⟩
      by_cases hij : i = j
      · subst hij; exact hun
      · rw [getD_set_ne true hij] at hju; exact hju) (h.2 i hi w1 hx)⟩

theorem AnyG.first {i : Nat} {oi : Oper} {v : Value} (hi : ops[i]? = some oi) (hsel : ∀ (j : Nat) (o : Oper) cs b, ops[j]? = some o → o.op ≠ .select cs b) (hQ : ∀ c a w, ¬ Q (.panic c) a w)
    (hq : i ∈ qs) (hCx : ∀ w w', C w → Ext w w' → C w') :
    ∀ (fuel : Nat) (listed : Array Bool) (a : Act) (w : World), Closed md ops listed →
      (∀ j oj, ops[j]? = some oj → j ≠ i → listed.getD j true = false → (∀ e ∈ oj.after, Region.binds md e = true → e.on ≠ i) → oi.apart ops oj = true) →
      i ∈ Region.ready md ops listed → QY P ops C oi v a → C w →
      AnyG P md ops Q C qs fuel (listed.setIfInBounds i true) (a.put oi.dst v) w → AnyG P md ops Q C qs (fuel + 1) listed a w := by
  intro fuel
  induction fuel with
  | zero =>
    intro listed a w _ _ hr hy hC H
    refine ⟨fun h => (by rw [h] at hr; cases hr), fun j hj w1 hx => ?_⟩
    by_cases hji : j = i
    · subst hji
      exact hy.op hi (hCx _ _ hC hx) fun w' hx' => ⟨fun _ _ => hCx _ _ hC (hx.trans hx'), H.ext (hx.trans hx')⟩
    · have := ready_mono hj hji
      rw [H.1] at this
      cases this
  | succ fuel ih =>
    intro listed a w hcl hfree hr hy hC H
    refine ⟨fun h => (by rw [h] at hr; cases hr), fun j hj w1 hx => ?_⟩
    by_cases hji : j = i
    · subst hji
      exact hy.op hi (hCx _ _ hC hx) fun w' hx' => ⟨fun _ _ => hCx _ _ hC (hx.trans hx'), H.ext (hx.trans hx')⟩
    · have h1 := H.2 j (ready_mono hj hji) w1 hx
      obtain ⟨hjun, oj, hoj, hall⟩ := mem_ready.1 hj
      have hun := (mem_ready.1 hr).1
      have hnot : ∀ e ∈ oj.after, Region.binds md e = true → e.on ≠ i := fun e he hb heq => by
        have h1 := hall e he hb
        rw [heq, getD_both' hun] at h1
        cases h1
      have hlate : late md ops qs j = true := by
        refine List.any_eq_true.2 ⟨i, hq, ?_⟩
        simp only [Bool.and_eq_true, bne_iff_ne, ne_eq, Bool.not_eq_true']
        refine ⟨fun h => hji h.symm, ?_⟩
        cases ha : anc md ops ops.size j i with
        | false => rfl
        | true =>
          have := anc_ready hcl hj ha
          rw [getD_both' hun] at this
          cases this
      have h2 := wpOp_late hoj (hfree j oj hoj hji hjun hnot) (fun cs b => hsel i oi cs b hi) (fun cs b => hsel j oj cs b hoj) hQ h1
      have hfree' : ∀ k ok, ops[k]? = some ok → k ≠ i → (listed.setIfInBounds j true).getD k true = false →
          (∀ e ∈ ok.after, Region.binds md e = true → e.on ≠ i) → oi.apart ops ok = true := fun k ok hk hki hun hno => by
        refine hfree k ok hk hki ?_ hno
        by_cases hjk : j = k
        · subst hjk; exact hjun
        · rw [getD_set_ne true hjk] at hun; exact hun
      refine wpOp_mono (fun a' w' h3 => ?_) h2
      obtain ⟨h4, h5, h6⟩ := h3
      refine ⟨fun _ => h5 hlate, ih _ a' w' (hcl.set hj) hfree' (ready_mono hr (Ne.symm hji)) (hy.alike h4) (h5 hlate (hCx _ _ hC hx)) ?_⟩
      rw [Array.setIfInBounds_comm _ _ hji]
      exact h6

/-- An operation that does not look at the heap. -/
theorem AnyG.first0 {i : Nat} {oi : Oper} {v : Value} (hi : ops[i]? = some oi) (hsel : ∀ (j : Nat) (o : Oper) cs b, ops[j]? = some o → o.op ≠ .select cs b) (hQ : ∀ c a w, ¬ Q (.panic c) a w)
    (hCx : ∀ w w', C w → Ext w w' → C w') :
    ∀ (fuel : Nat) (listed : Array Bool) (a : Act) (w : World), Closed md ops listed →
      (∀ j oj, ops[j]? = some oj → j ≠ i → listed.getD j true = false → (∀ e ∈ oj.after, Region.binds md e = true → e.on ≠ i) → oi.apart ops oj = true) →
      i ∈ Region.ready md ops listed → QY P ops (fun _ => True) oi v a →
      AnyG P md ops Q C qs fuel (listed.setIfInBounds i true) (a.put oi.dst v) w → AnyG P md ops Q C qs (fuel + 1) listed a w := by
  intro fuel
  induction fuel with
  | zero =>
    intro listed a w _ _ hr hy H
    refine ⟨fun h => (by rw [h] at hr; cases hr), fun j hj w1 hx => ?_⟩
    by_cases hji : j = i
    · subst hji
      exact hy.op hi trivial fun w' hx' => ⟨fun _ hC => hCx _ _ hC hx', H.ext (hx.trans hx')⟩
    · have := ready_mono hj hji
      rw [H.1] at this
      cases this
  | succ fuel ih =>
    intro listed a w hcl hfree hr hy H
    refine ⟨fun h => (by rw [h] at hr; cases hr), fun j hj w1 hx => ?_⟩
    by_cases hji : j = i
    · subst hji
      exact hy.op hi trivial fun w' hx' => ⟨fun _ hC => hCx _ _ hC hx', H.ext (hx.trans hx')⟩
    · have h1 := H.2 j (ready_mono hj hji) w1 hx
      obtain ⟨hjun, oj, hoj, hall⟩ := mem_ready.1 hj
      have hun := (mem_ready.1 hr).1
      have hnot : ∀ e ∈ oj.after, Region.binds md e = true → e.on ≠ i := fun e he hb heq => by
        have h1 := hall e he hb
        rw [heq, getD_both' hun] at h1
        cases h1
      have h2 := wpOp_late hoj (hfree j oj hoj hji hjun hnot) (fun cs b => hsel i oi cs b hi) (fun cs b => hsel j oj cs b hoj) hQ h1
      have hfree' : ∀ k ok, ops[k]? = some ok → k ≠ i → (listed.setIfInBounds j true).getD k true = false →
          (∀ e ∈ ok.after, Region.binds md e = true → e.on ≠ i) → oi.apart ops ok = true := fun k ok hk hki hun hno => by
        refine hfree k ok hk hki ?_ hno
        by_cases hjk : j = k
        · subst hjk; exact hjun
        · rw [getD_set_ne true hjk] at hun; exact hun
      refine wpOp_mono (fun a' w' h3 => ?_) h2
      obtain ⟨h4, h5, h6⟩ := h3
      refine ⟨h5, ih _ a' w' (hcl.set hj) hfree' (ready_mono hr (Ne.symm hji)) (hy.alike h4) ?_⟩
      rw [Array.setIfInBounds_comm _ _ hji]
      exact h6

theorem AnyG.mov {i : Nat} {oi : Oper} {v : Value} {fuel : Nat} {listed : Array Bool} {a : Act} {w : World} (hi : ops[i]? = some oi) (hs : Region.noSelect ops = true) (hQ : ∀ c a w, ¬ Q (.panic c) a w)
    (hCx : ∀ w w', C w → Ext w w' → C w') (hcl : Closed md ops listed) (hf : Region.free md ops listed i = true) (hr : (Region.ready md ops listed).contains i = true) (hy : QY P ops (fun _ => True) oi v a)
    (h : AnyG P md ops Q C qs fuel (listed.setIfInBounds i true) (a.put oi.dst v) w) : AnyG P md ops Q C qs (fuel + 1) listed a w :=
  AnyG.first0 hi (Region.noSelect_spec hs) hQ hCx fuel listed a w hcl (Region.free_spec hi hf) (by simpa using hr) hy h

theorem AnyG.take {i : Nat} {oi : Oper} {v : Value} {fuel : Nat} {listed : Array Bool} {a : Act} {w : World} (hi : ops[i]? = some oi) (hs : Region.noSelect ops = true) (hQ : ∀ c a w, ¬ Q (.panic c) a w)
    (hq : i ∈ qs) (hCx : ∀ w w', C w → Ext w w' → C w') (hcl : Closed md ops listed) (hf : Region.free md ops listed i = true) (hr : (Region.ready md ops listed).contains i = true) (hy : QY P ops C oi v a) (hC : C w)
    (h : AnyG P md ops Q C qs fuel (listed.setIfInBounds i true) (a.put oi.dst v) w) : AnyG P md ops Q C qs (fuel + 1) listed a w :=
  AnyG.first hi (Region.noSelect_spec hs) hQ hq hCx fuel listed a w hcl (Region.free_spec hi hf) (by simpa using hr) hy hC h
end
end Go.EG
