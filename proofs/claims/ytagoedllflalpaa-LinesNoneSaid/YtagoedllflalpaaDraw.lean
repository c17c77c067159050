/- Statements whose order is open: a plan that covers every order is enough. Generic over the program: no condition. -/
import Derived.Test.YtagoedllflalpaaCode
namespace Go.EG
open Go.RowKit
set_option linter.unusedVariables false

theorem cI_call {P : Program} {fl : Bool} {dst : Option Nat} {op : Op} {f : Nat} {xs : List X} (h : cI P fl dst op = some (.call f xs)) :
    ∃ c : Call, op = .call c ∧ c.callee = .value (.func f) ∧ okFn P f = true ∧ xs = c.args.toList.map cX := by
  cases op with
  | call c =>
    obtain ⟨callee, args, ts⟩ := c
    simp only [cI] at h
    refine ⟨_, rfl, ?_⟩
    repeat' split at h
    all_goals first
      | (cases h; done)
      | (simp only [Option.some.injEq, I.call.injEq] at h; obtain ⟨rfl, rfl⟩ := h; rename_i h1 h2; exact ⟨rfl, h2, rfl⟩)
      | (simp only [Option.some.injEq, I.call.injEq] at h; obtain ⟨rfl, rfl⟩ := h; rename_i h2; exact ⟨rfl, h2, rfl⟩)
      | (simp at h; done)
  | _ =>
    exfalso
    simp only [cI] at h
    repeat' split at h
    all_goals first
      | (cases h; done)
      | (rename_i hx _ _ _ _; cases hx; done)
      | (rename_i hx _ _ _ _ _; cases hx; done)
      | (simp_all; done)

section
variable {P : Program} {w0 : World} {fp0 : List Nat} {n : Nat} {e : Env} {a : Act} {L Lb : List Ent} {w : World} {o : Oper} {i : I} {ops : Array Oper} {fl : List Nat}

theorem VQ_quiet {f : Bool} {K : SV → Prop} (hc : cI P f o.dst o.op = some i) (hA : Agree n e a) (h : VQ P w0 fp0 i e Lb K) :
    ∃ s, K s ∧ ∀ w, R w0 fp0 Lb w → quietB P w s.val ((execOp a.eval o).run P w) := by
  have hq : (isQ i = true ∧ VI P w0 fp0 i e Lb fun s _ => K s) ∨ ∃ g xs, i = .call g xs := by
    cases i <;> first | exact .inr ⟨_, _, rfl⟩ | exact .inl ⟨rfl, WI_VI h⟩ | exact h.elim
  rcases hq with ⟨hq, hv⟩ | ⟨g, xs, rfl⟩
  · obtain ⟨s, hk, hall⟩ := VI_pt hq hv
    refine ⟨s, hk, fun w hR => ?_⟩
    rcases VI_does hc hA hR (hall (fun s' L' => s' = s ∧ L' = Lb) ⟨rfl, rfl⟩) with ⟨v, h1, s', L', hs, hR', hk1, hk2⟩ | ⟨h0, _⟩ | ⟨h0, _⟩ | ⟨h0, _⟩
    · rw [h1]
      subst hk1
      exact ⟨rfl, hs.symm⟩
    · rw [hq] at h0; cases h0
    · rw [hq] at h0; cases h0
    · rw [hq] at h0; cases h0
  · obtain ⟨c, ho, hcal, hok, rfl⟩ := cI_call hc
    simp only [VQ] at h
    have h := gVs_elim h
    simp only [QCall] at h
    obtain ⟨l, hl, s, h1, hk⟩ := gAs_elim hA h
    refine ⟨s, hk, fun w hR => ?_⟩
    have e1 : c.args.map a.eval = (l.map SV.val).toArray := map_arr hl
    have : (execOp a.eval o).run P w = .ok (.enter g (l.map SV.val).toArray) w := by
      simp [execOp, ho, resolve, hcal, Act.eval, Deferred.ofValue, invoke, e1, okFn_spec hok]
    rw [this]
    exact ⟨rfl, h1 w hR⟩

def isMv (o : Oper) : Bool :=
  match o.op with
  | .move _ => true
  | _ => false

theorem VQ_mov {f : Bool} {K : SV → Prop} (hm : isMv o = true) (hc : cI P f o.dst o.op = some i) (hA : Agree n e a) (h : VQ P w0 fp0 i e Lb K) :
    ∃ s, K s ∧ ∀ w, True → quietB P w s.val ((execOp a.eval o).run P w) := by
  unfold isMv at hm
  split at hm
  · rename_i x ho
    rw [ho] at hc
    simp only [cI, Option.some.injEq] at hc
    subst hc
    obtain ⟨s, hs, hk⟩ := gA_elim (show gA (ev e (cX x)) K from h)
    refine ⟨s, hk, fun w _ => ?_⟩
    have hx := ev_eval hA hs
    have : (execOp a.eval o).run P w = .ok (.value (a.eval x)) w := by simp [execOp, ho]
    rw [this]
    exact ⟨rfl, hx⟩
  · cases hm

theorem VS_quietG {C : World → Prop} {io : Gop} {K : Env → Prop} (hVQ : ∀ {f : Bool} {e : Env} {K : SV → Prop}, cI P f o.dst o.op = some io.i → Agree n e a → VQ P w0 fp0 io.i e Lb K → ∃ s, K s ∧ ∀ w, C w → quietB P w s.val ((execOp a.eval o).run P w)) (hc : Comp1 P n ops fl o io) (hA : Agree n e a) (h : VS P w0 fp0 io e Lb K) :
    ∃ v e', QY P ops C o v a ∧ Agree n e' (a.put o.dst v) ∧ K e' := by
  obtain ⟨⟨f, hci⟩, hd, hok, hg⟩ := hc
  cases hgo : o.guard with
  | none =>
    rw [hgo] at hg
    simp only at hg
    rcases VS_eq h with ⟨_, h⟩ | ⟨g, want, hg', _⟩
    · have hw : Region.wanted o (yielded ops a.tmps) = true := by simp [Region.wanted, hgo]
      obtain ⟨s, hk, hall⟩ := hVQ hci hA h
      obtain ⟨s', hs', hk⟩ := pickD_elim hk
      exact ⟨s.val, _, .inl ⟨hw, hall⟩, agree_put hA hok hs', by rw [← hd]; exact hk⟩
    · rw [hg] at hg'; cases hg'
  | some p =>
    obtain ⟨j, want⟩ := p
    rw [hgo] at hg
    obtain ⟨g, hj, hg⟩ := hg
    rcases VS_eq h with ⟨hg', _⟩ | ⟨g', want', hg', h⟩
    · rw [hg] at hg'; cases hg'
    rw [hg] at hg'
    simp only [Option.some.injEq, Prod.mk.injEq] at hg'
    obtain ⟨rfl, rfl⟩ := hg'
    rcases gGuard_elim h with ⟨b, hb, h1, h2⟩ | ⟨vs, hb, h⟩
    · have hw := wanted_some hA hgo hj hb
      by_cases hbw : b = want
      · have hA' := agree_same hA (by rw [hbw] at hb; exact hb)
        obtain ⟨s, hk, hall⟩ := hVQ hci hA' (h1 hbw)
        obtain ⟨s', hs', hk⟩ := pickD_elim hk
        exact ⟨s.val, _, .inl ⟨by rw [hw]; simp [hbw], hall⟩, agree_put hA' hok hs', by rw [← hd]; exact hk⟩
      · have hbn : b = !want := by cases b <;> cases want <;> simp_all
        have hA' := agree_same hA (by rw [hbn] at hb; exact hb)
        exact ⟨undef, _, .inr ⟨by rw [hw]; simp [hbw], rfl⟩, agree_put hA' hok rfl, by rw [← hd]; exact h2 hbn⟩
    · exact ⟨undef, _, .inr ⟨wanted_tuple hA hgo hj hb, rfl⟩, agree_put hA hok rfl, by rw [← hd]; exact h⟩

theorem VS_quiet {io : Gop} {K : Env → Prop} (hc : Comp1 P n ops fl o io) (hA : Agree n e a) (h : VS P w0 fp0 io e Lb K) :
    ∃ v e', QY P ops (R w0 fp0 Lb) o v a ∧ Agree n e' (a.put o.dst v) ∧ K e' := VS_quietG (fun hci hA h => VQ_quiet hci hA h) hc hA h
theorem VS_mov {io : Gop} {K : Env → Prop} (hm : isMv o = true) (hc : Comp1 P n ops fl o io) (hA : Agree n e a) (h : VS P w0 fp0 io e Lb K) :
    ∃ v e', QY P ops (fun _ => True) o v a ∧ Agree n e' (a.put o.dst v) ∧ K e' := VS_quietG (fun hci hA h => VQ_mov hm hci hA h) hc hA h

def altHeads : Tr → List Nat
  | .alt i _ _ r => i :: altHeads r
  | _ => []

/-- Which operations a plan takes first. -/
def trQs : Tr → List Nat
  | .done => []
  | .take i t => i :: trQs t
  | .alt _ _ t r => trQs t ++ trQs r
  | .bar _ _ => []
  | .mov _ t => trQs t
  | .nil => []

/-- The plan covers every order. -/
def trOk (ops : Array Oper) : List Nat → Bool → Tr → Nat → Array Bool → Bool
  | qs, true, .done, _, listed => (Region.ready .any ops listed).isEmpty
  | qs, true, .take i t, f + 1, listed => qs.contains i && Region.free .any ops listed i && (Region.ready .any ops listed).contains i && trOk ops qs true t f (listed.setIfInBounds i true)
  | qs, true, .mov i t, f + 1, listed => (match ops[i]? with | some o => isMv o | none => false) && Region.free .any ops listed i && (Region.ready .any ops listed).contains i && trOk ops qs true t f (listed.setIfInBounds i true)
  | qs, true, .bar i t, f + 1, listed => (Region.ready .any ops listed == [i]) && ((List.range ops.size).all fun j => listed.getD j true || !late .any ops qs j) && trOk ops (trQs t) true t f (listed.setIfInBounds i true)
  | qs, b, .alt i lt t r, f + 1, listed => (!late .any ops qs i || lt) && (!b || (!(Region.ready .any ops listed).isEmpty && (Region.ready .any ops listed).all fun j => (i :: altHeads r).contains j)) &&
      trOk ops qs true t f (listed.setIfInBounds i true) && trOk ops qs false r (f + 1) listed
  | _, false, .nil, _, _ => true
  | _, _, _, _, _ => false

theorem CompL.get : ∀ {l : List Oper} {l' : List Gop} {i : Nat} {K : Gop → Prop}, CompL P n ops fl l l' → nthIO l' i K → ∃ o io, l[i]? = some o ∧ Comp1 P n ops fl o io ∧ K io
  | _, _, i, K, .nil, h => by cases i <;> exact h.elim
  | _, _, 0, K, .cons h1 h2, h => ⟨_, _, rfl, h1, h⟩
  | _, _, i + 1, K, .cons h1 h2, h => by
    obtain ⟨o, io, h3, h4⟩ := CompL.get h2 h
    exact ⟨o, io, by simpa using h3, h4⟩

variable {l : List Gop} {K : Env → List Ent → Prop} {Q : Exit → Act → World → Prop}

theorem VT_any (hc : CompL P n ops fl ops.toList l) (hs : Region.noSelect ops = true) (hQp : ∀ c a w, ¬ Q (.panic c) a w) (hK : ∀ e a L w, Agree n e a → R w0 fp0 L w → K e L → Q .normal a w) :
    ∀ (t : Tr) (qs : List Nat) (Lb : List Ent) (b : Bool) (fuel : Nat) (listed : Array Bool) (e : Env) (a : Act) (L : List Ent) (w : World), trOk ops qs b t fuel listed = true → Closed .any ops listed → Agree n e a → R w0 fp0 L w →
      ((∃ i ∈ qs, listed.getD i false = false) → R w0 fp0 Lb w) → VT P w0 fp0 l K t Lb e L →
      (b = true → AnyG P .any ops Q (R w0 fp0 Lb) qs fuel listed a w) ∧
      (∀ i ∈ altHeads t, i ∈ Region.ready .any ops listed → ∃ f, fuel = f + 1 ∧ ∀ w1, Ext w w1 → wpOp P ops Q i (fun a' w' => (late .any ops qs i = true → R w0 fp0 Lb w1 → R w0 fp0 Lb w') ∧ AnyG P .any ops Q (R w0 fp0 Lb) qs f (listed.setIfInBounds i true) a' w') a w1)
  | .done, qs, Lb, b, fuel, listed, e, a, L, w, ht, hcl, hA, hR, hC, h => by
    refine ⟨fun hb => ?_, fun i hi => by cases hi⟩
    subst hb
    simp only [trOk, List.isEmpty_iff] at ht
    have h0 : ∀ w1, Ext w w1 → Q .normal a w1 := fun w1 hx => hK e a L w1 hA (hR.below hx) h
    cases fuel with
    | zero => exact ⟨ht, h0⟩
    | succ f => exact ⟨fun _ => h0, fun i hi => by rw [ht] at hi; cases hi⟩
  | .nil, qs, Lb, b, fuel, listed, e, a, L, w, ht, hcl, hA, hR, hC, h => by
    refine ⟨fun hb => ?_, fun i hi => by cases hi⟩
    subst hb
    cases fuel <;> simp [trOk] at ht
  | .take i t, qs, Lb, b, fuel, listed, e, a, L, w, ht, hcl, hA, hR, hC, h => by
    refine ⟨fun hb => ?_, fun i hi => by cases hi⟩
    subst hb
    cases fuel with
    | zero => simp [trOk] at ht
    | succ f =>
      simp only [trOk, Bool.and_eq_true] at ht
      obtain ⟨⟨⟨h1, h2⟩, h3⟩, h4⟩ := ht
      simp only [VT] at h
      obtain ⟨o, io, ho, hcp, h⟩ := hc.get h
      obtain ⟨v, e', hy, hA', hk⟩ := VS_quiet hcp hA h
      have hq : i ∈ qs := by simpa using h1
      have hr : i ∈ Region.ready .any ops listed := by simpa using h3
      have hCw : R w0 fp0 Lb w := hC ⟨i, hq, getD_both' (mem_ready.1 hr).1⟩
      refine AnyG.take (by simpa using ho) hs hQp hq (fun w w' h1 h2 => h1.below h2) hcl h2 h3 hy hCw ?_
      refine (VT_any hc hs hQp hK t qs Lb true f _ e' _ L w h4 (hcl.set hr) hA' hR (fun _ => hCw) hk).1 rfl
  | .bar i t, qs, Lb, b, fuel, listed, e, a, L, w, ht, hcl, hA, hR, hC, h => by
    refine ⟨fun hb => ?_, fun i hi => by cases hi⟩
    subst hb
    cases fuel with
    | zero => simp [trOk] at ht
    | succ f =>
      simp only [trOk, Bool.and_eq_true, beq_iff_eq, List.all_eq_true, Bool.or_eq_true, Bool.not_eq_true'] at ht
      obtain ⟨⟨h1, h2⟩, h3⟩ := ht
      have hlate : ∀ j oj, ops[j]? = some oj → listed.getD j true = false → late .any ops qs j = false := fun j oj hj hun => by
        have hlt : j < ops.size := by
          rcases Nat.lt_or_ge j ops.size with h' | h'
          · exact h'
          · rw [Array.getElem?_eq_none h'] at hj; cases hj
        rcases h2 j (List.mem_range.2 hlt) with h' | h'
        · rw [hun] at h'; cases h'
        · exact h'
      refine ⟨fun h0 => (by rw [h1] at h0; cases h0), fun j hj w1 hx => ?_⟩
      have hji : j = i := by rw [h1] at hj; simpa using hj
      subst hji
      obtain ⟨hun, oi, hoi, _⟩ := mem_ready.1 hj
      simp only [VT] at h
      obtain ⟨o, io, ho, hcp, hv⟩ := hc.get h
      have ho' : ops[j]? = some o := by simpa using ho
      have hstep := VO_step (Q := Q) (K' := fun a' w' => (late .any ops qs j = true → R w0 fp0 Lb w1 → R w0 fp0 Lb w') ∧ AnyG P .any ops Q (R w0 fp0 Lb) qs f (listed.setIfInBounds j true) a' w') hcp hA (hR.below hx) hv
        (fun e' a' L' w' hA' hR' hk => by
          refine ⟨fun hlt => (by rw [hlate j o ho' hun] at hlt; cases hlt), ?_⟩
          have ih := (VT_any hc hs hQp hK t (trQs t) L' true f _ e' a' L' w' h3 (hcl.set hj) hA' hR' (fun _ => hR') hk).1 rfl
          refine AnyG.rebase _ _ _ _ (fun j' oj' hj' hun' => hlate j' oj' hj' ?_) ih
          by_cases hij : j = j'
          · subst hij; exact hun
          · rw [getD_set_ne true hij] at hun'; exact hun')
      unfold wpOp
      simp only [ho']
      split
      · rename_i hw; rw [if_pos hw] at hstep; exact .inl hstep
      · rename_i hw; rw [if_neg hw] at hstep; exact hstep
  | .mov i t, qs, Lb, b, fuel, listed, e, a, L, w, ht, hcl, hA, hR, hC, h => by
    refine ⟨fun hb => ?_, fun i hi => by cases hi⟩
    subst hb
    cases fuel with
    | zero => simp [trOk] at ht
    | succ f =>
      simp only [trOk, Bool.and_eq_true] at ht
      obtain ⟨⟨⟨h1, h2⟩, h3⟩, h4⟩ := ht
      simp only [VT] at h
      obtain ⟨o, io, ho, hcp, h⟩ := hc.get h
      have ho' : ops[i]? = some o := by simpa using ho
      simp only [ho'] at h1
      obtain ⟨v, e', hy, hA', hk⟩ := VS_mov h1 hcp hA h
      have hr : i ∈ Region.ready .any ops listed := by simpa using h3
      refine AnyG.mov ho' hs hQp (fun w w' h1 h2 => h1.below h2) hcl h2 h3 hy ?_
      refine (VT_any hc hs hQp hK t qs Lb true f _ e' _ L w h4 (hcl.set hr) hA' hR (fun ⟨q, hq, hu⟩ => hC ⟨q, hq, ?_⟩) hk).1 rfl
      by_cases hqi : i = q
      · subst hqi; exact getD_both' (mem_ready.1 hr).1
      · rw [getD_set_ne false hqi] at hu; exact hu
  | .alt i lt t r, qs, Lb, b, fuel, listed, e, a, L, w, ht, hcl, hA, hR, hC, h => by
    cases fuel with
    | zero => cases b <;> simp [trOk] at ht
    | succ f =>
      have ht' : ((!late .any ops qs i || lt) = true ∧ (!b || (!(Region.ready .any ops listed).isEmpty && (Region.ready .any ops listed).all fun j => (i :: altHeads r).contains j)) = true) ∧
          trOk ops qs true t f (listed.setIfInBounds i true) = true ∧ trOk ops qs false r (f + 1) listed = true := by
        cases b <;> simp only [trOk, Bool.and_eq_true, and_assoc] at ht ⊢ <;> exact ht
      obtain ⟨⟨h1, h2⟩, h3, h4⟩ := ht'
      obtain ⟨X, hi, hX, hrr⟩ := VT_alt h
      have ih2 := (VT_any hc hs hQp hK r qs Lb false (f + 1) listed e a L w h4 hcl hA hR hC hrr).2
      have key : ∀ j ∈ altHeads (.alt i lt t r), j ∈ Region.ready .any ops listed → ∃ f', f + 1 = f' + 1 ∧ ∀ w1, Ext w w1 → wpOp P ops Q j (fun a' w' => (late .any ops qs j = true → R w0 fp0 Lb w1 → R w0 fp0 Lb w') ∧ AnyG P .any ops Q (R w0 fp0 Lb) qs f' (listed.setIfInBounds j true) a' w') a w1 := by
        intro j hj hjr
        rcases List.mem_cons.1 hj with rfl | hj
        · refine ⟨f, rfl, fun w1 hx => ?_⟩
          obtain ⟨o, io, ho, hcp, hv⟩ := hc.get hi
          have ho' : ops[j]? = some o := by simpa using ho
          have hstep := VO_step (Q := Q) (K' := fun a' w' => (late .any ops qs j = true → R w0 fp0 Lb w1 → R w0 fp0 Lb w') ∧ AnyG P .any ops Q (R w0 fp0 Lb) qs f (listed.setIfInBounds j true) a' w') hcp hA (hR.below hx) hv
            (fun e' a' L' w' hA' hR' hk => by
              obtain ⟨hk1, hk2⟩ := hX _ _ hk
              have hl : late .any ops qs j = true → R w0 fp0 Lb w' := fun hlt => hk1 (by rw [hlt] at h1; simpa using h1) w' hR'
              refine ⟨fun hlt _ => hl hlt, (VT_any hc hs hQp hK t qs Lb true f _ e' a' L' w' h3 (hcl.set hjr) hA' hR' (fun hex => ?_) hk2).1 rfl⟩
              cases hlate : late .any ops qs j with
              | true => exact hl hlate
              | false =>
                exfalso
                obtain ⟨x, hx, hun⟩ := hex
                have hlx := List.any_eq_false.1 hlate x hx
                simp only [Bool.and_eq_true, bne_iff_ne, ne_eq, Bool.not_eq_true', not_and, Bool.not_eq_false] at hlx
                by_cases hxj : x = j
                · subst hxj
                  have h0 := (mem_ready.1 hjr).1
                  rcases Nat.lt_or_ge x listed.size with h' | h'
                  · simp [h'] at hun
                  · simp [Array.getElem?_eq_none h'] at h0
                · have := getD_set_true (i := j) (anc_ready hcl hjr (hlx hxj))
                  rw [this] at hun
                  cases hun)
          unfold wpOp
          simp only [ho']
          split
          · rename_i hw; rw [if_pos hw] at hstep; exact .inl hstep
          · rename_i hw; rw [if_neg hw] at hstep; exact hstep
        · exact ih2 j hj hjr
      refine ⟨fun hb => ?_, key⟩
      subst hb
      simp only [Bool.not_true, Bool.false_or, Bool.and_eq_true, List.all_eq_true] at h2
      obtain ⟨h20, h2⟩ := h2
      refine ⟨fun h0 w1 hx => ?_, fun j hj w1 hx => ?_⟩
      · rw [h0] at h20; cases h20
      · obtain ⟨f', hf, hall⟩ := key j (by simpa [altHeads] using h2 j hj) hj
        cases hf
        exact hall w1 hx
end
end Go.EG
