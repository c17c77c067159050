/- Statements whose order is open: a plan that covers every order is enough. Generic over the program: no condition. -/
import Derived.Test.YtkekhgnbdhlmhaaDoorCode
namespace Go.EG
open Go.RowKit
set_option linter.unusedVariables false

theorem cI_call {P : Program} {fl : Bool} {dst : Option Nat} {op : Op} {f : Nat} {xs : List X} (h : cI P fl dst op = some (.call f xs)) :
    ∃ c : Call, op = .call c ∧ c.callee = .value (.func f) ∧ okFn P f = true ∧ xs = c.args.toList.map cX := by
  cases op with
  | call c =>
    obtain ⟨callee, args, ts⟩ := c
    simp only [cI] at h
    refine ⟨_, rfl, ?_⟩
    repeat' split at h
    all_goals first
      | (cases h; done)
      | (simp only [Option.some.injEq, I.call.injEq] at h; obtain ⟨rfl, rfl⟩ := h; rename_i h1 h2; exact ⟨rfl, h2, rfl⟩)
      | (simp only [Option.some.injEq, I.call.injEq] at h; obtain ⟨rfl, rfl⟩ := h; rename_i h2; exact ⟨rfl, h2, rfl⟩)
      | (simp at h; done)
  | _ =>
    exfalso
    simp only [cI] at h
    repeat' split at h
    all_goals first
      | (cases h; done)
      | (rename_i hx _ _ _ _; cases hx; done)
      | (rename_i hx _ _ _ _ _; cases hx; done)
      | (simp_all; done)

section
variable {P : Program} {w0 : World} {fp0 : List Nat} {n : Nat} {e : Env} {a : Act} {L Lb : List Ent} {w : World} {o : Oper} {i : I} {ops : Array Oper} {fl : List Nat}

theorem VQ_quiet {f : Bool} {K : SV → Prop} (hc : cI P f o.dst o.op = some i) (hA : Agree n e a) (h : VQ P w0 fp0 i e Lb K) :
    ∃ s, K s ∧ ∀ w, R w0 fp0 Lb w → quietB P w s.val ((execOp a.eval o).run P w) := by
  have hq : (isQ i = true ∧ VI P w0 fp0 i e Lb fun s _ => K s) ∨ ∃ g xs, i = .call g xs := by
    cases i <;> first | exact .inr ⟨_, _, rfl⟩ | exact .inl ⟨rfl, WI_VI h⟩ | exact h.elim
  rcases hq with ⟨hq, hv⟩ | ⟨g, xs, rfl⟩
  · obtain ⟨s, hk, hall⟩ := VI_pt hq hv
    refine ⟨s, hk, fun w hR => ?_⟩
    rcases VI_does hc hA hR (hall (fun s' L' => s' = s ∧ L' = Lb) ⟨rfl, rfl⟩) with ⟨v, h1, s', L', hs, hR', hk1, hk2⟩ | ⟨h0, _⟩ | ⟨h0, _⟩ | ⟨h0, _⟩
    · rw [h1]
      subst hk1
      exact ⟨rfl, hs.symm⟩
    · rw [hq] at h0; cases h0
    · rw [hq] at h0; cases h0
    · rw [hq] at h0; cases h0
  · obtain ⟨c, ho, hcal, hok, rfl⟩ := cI_call hc
    simp only [VQ] at h
    have h := gVs_elim h
    simp only [QCall] at h
    obtain ⟨l, hl, s, h1, hk⟩ := gAs_elim hA h
    refine ⟨s, hk, fun w hR => ?_⟩
    have e1 : c.args.map a.eval = (l.map SV.val).toArray := map_arr hl
    have : (execOp a.eval o).run P w = .ok (.enter g (l.map SV.val).toArray) w := by
      simp [execOp, ho, resolve, hcal, Act.eval, Deferred.ofValue, invoke, e1, okFn_spec hok]
    rw [this]
    exact ⟨rfl, h1 w hR⟩

theorem VS_quiet {io : Gop} {K : Env → Prop} (hc : Comp1 P n ops fl o io) (hA : Agree n e a) (h : VS P w0 fp0 io e Lb K) :
    ∃ v e', QY P ops (R w0 fp0 Lb) o v a ∧ Agree n e' (a.put o.dst v) ∧ K e' := by
  obtain ⟨⟨f, hci⟩, hd, hok, hg⟩ := hc
  cases hgo : o.guard with
  | none =>
    rw [hgo] at hg
    simp only at hg
    rcases VS_eq h with ⟨_, h⟩ | ⟨g, want, hg', _⟩
    · have hw : Region.wanted o (yielded ops a.tmps) = true := by simp [Region.wanted, hgo]
      obtain ⟨s, hk, hall⟩ := VQ_quiet hci hA h
      exact ⟨s.val, _, .inl ⟨hw, hall⟩, agree_put hA hok rfl, by rw [← hd]; exact hk⟩
    · rw [hg] at hg'; cases hg'
  | some p =>
    obtain ⟨j, want⟩ := p
    rw [hgo] at hg
    obtain ⟨g, hj, hg⟩ := hg
    rcases VS_eq h with ⟨hg', _⟩ | ⟨g', want', hg', h⟩
    · rw [hg] at hg'; cases hg'
    rw [hg] at hg'
    simp only [Option.some.injEq, Prod.mk.injEq] at hg'
    obtain ⟨rfl, rfl⟩ := hg'
    rcases gGuard_elim h with ⟨b, hb, h1, h2⟩ | ⟨vs, hb, h⟩
    · have hw := wanted_some hA hgo hj hb
      by_cases hbw : b = want
      · have hA' := agree_same hA (by rw [hbw] at hb; exact hb)
        obtain ⟨s, hk, hall⟩ := VQ_quiet hci hA' (h1 hbw)
        exact ⟨s.val, _, .inl ⟨by rw [hw]; simp [hbw], hall⟩, agree_put hA' hok rfl, by rw [← hd]; exact hk⟩
      · have hbn : b = !want := by cases b <;> cases want <;> simp_all
        have hA' := agree_same hA (by rw [hbn] at hb; exact hb)
        exact ⟨undef, _, .inr ⟨by rw [hw]; simp [hbw], rfl⟩, agree_put hA' hok rfl, by rw [← hd]; exact h2 hbn⟩
    · exact ⟨undef, _, .inr ⟨wanted_tuple hA hgo hj hb, rfl⟩, agree_put hA hok rfl, by rw [← hd]; exact h⟩

def altHeads : Tr → List Nat
  | .alt i _ _ r => i :: altHeads r
  | _ => []

/-- The plan covers every order. -/
def trOk (ops : Array Oper) (qs : List Nat) : Bool → Tr → Nat → Array Bool → Bool
  | true, .done, _, listed => (Region.ready .any ops listed).isEmpty
  | true, .take i t, f + 1, listed => qs.contains i && Region.free .any ops listed i && (Region.ready .any ops listed).contains i && trOk ops qs true t f (listed.setIfInBounds i true)
  | b, .alt i lt t r, f + 1, listed => (!late .any ops qs i || lt) && (!b || (!(Region.ready .any ops listed).isEmpty && (Region.ready .any ops listed).all fun j => (i :: altHeads r).contains j)) &&
      trOk ops qs true t f (listed.setIfInBounds i true) && trOk ops qs false r (f + 1) listed
  | false, .nil, _, _ => true
  | _, _, _, _ => false

theorem CompL.get : ∀ {l : List Oper} {l' : List Gop} {i : Nat} {K : Gop → Prop}, CompL P n ops fl l l' → nthIO l' i K → ∃ o io, l[i]? = some o ∧ Comp1 P n ops fl o io ∧ K io
  | _, _, i, K, .nil, h => by cases i <;> exact h.elim
  | _, _, 0, K, .cons h1 h2, h => ⟨_, _, rfl, h1, h⟩
  | _, _, i + 1, K, .cons h1 h2, h => by
    obtain ⟨o, io, h3, h4⟩ := CompL.get h2 h
    exact ⟨o, io, by simpa using h3, h4⟩

variable {qs : List Nat} {l : List Gop} {K : Env → List Ent → Prop} {Q : Exit → Act → World → Prop}

theorem VT_any (hc : CompL P n ops fl ops.toList l) (hs : Region.noSelect ops = true) (hQp : ∀ c a w, ¬ Q (.panic c) a w) (hK : ∀ e a L w, Agree n e a → R w0 fp0 L w → K e L → Q .normal a w) :
    ∀ (t : Tr) (b : Bool) (fuel : Nat) (listed : Array Bool) (e : Env) (a : Act) (L : List Ent) (w : World), trOk ops qs b t fuel listed = true → Closed .any ops listed → Agree n e a → R w0 fp0 L w →
      ((∃ i ∈ qs, listed.getD i false = false) → R w0 fp0 Lb w) → VT P w0 fp0 l Lb K t e L →
      (b = true → AnyG P .any ops Q (R w0 fp0 Lb) qs fuel listed a w) ∧
      (∀ i ∈ altHeads t, i ∈ Region.ready .any ops listed → ∃ f, fuel = f + 1 ∧ ∀ w1, Ext w w1 → wpOp P ops Q i (fun a' w' => (late .any ops qs i = true → R w0 fp0 Lb w') ∧ AnyG P .any ops Q (R w0 fp0 Lb) qs f (listed.setIfInBounds i true) a' w') a w1)
  | .done, b, fuel, listed, e, a, L, w, ht, hcl, hA, hR, hC, h => by
    refine ⟨fun hb => ?_, fun i hi => by cases hi⟩
    subst hb
    simp only [trOk, List.isEmpty_iff] at ht
    have h0 : ∀ w1, Ext w w1 → Q .normal a w1 := fun w1 hx => hK e a L w1 hA (hR.below hx) h
    cases fuel with
    | zero => exact ⟨ht, h0⟩
    | succ f => exact ⟨fun _ => h0, fun i hi => by rw [ht] at hi; cases hi⟩
  | .nil, b, fuel, listed, e, a, L, w, ht, hcl, hA, hR, hC, h => by
    refine ⟨fun hb => ?_, fun i hi => by cases hi⟩
    subst hb
    cases fuel <;> simp [trOk] at ht
  | .take i t, b, fuel, listed, e, a, L, w, ht, hcl, hA, hR, hC, h => by
    refine ⟨fun hb => ?_, fun i hi => by cases hi⟩
    subst hb
    cases fuel with
    | zero => simp [trOk] at ht
    | succ f =>
      simp only [trOk, Bool.and_eq_true] at ht
      obtain ⟨⟨⟨h1, h2⟩, h3⟩, h4⟩ := ht
      simp only [VT] at h
      obtain ⟨o, io, ho, hcp, h⟩ := hc.get h
      obtain ⟨v, e', hy, hA', hk⟩ := VS_quiet hcp hA h
      have hq : i ∈ qs := by simpa using h1
      have hr : i ∈ Region.ready .any ops listed := by simpa using h3
      have hCw : R w0 fp0 Lb w := hC ⟨i, hq, getD_both' (mem_ready.1 hr).1⟩
      refine AnyG.take (by simpa using ho) hs hQp hq (fun w w' h1 h2 => h1.below h2) hcl h2 h3 hy hCw ?_
      refine (VT_any hc hs hQp hK t true f _ e' _ L w h4 (hcl.set hr) hA' hR (fun _ => hCw) hk).1 rfl
  | .alt i lt t r, b, fuel, listed, e, a, L, w, ht, hcl, hA, hR, hC, h => by
    cases fuel with
    | zero => cases b <;> simp [trOk] at ht
    | succ f =>
      have ht' : ((!late .any ops qs i || lt) = true ∧ (!b || (!(Region.ready .any ops listed).isEmpty && (Region.ready .any ops listed).all fun j => (i :: altHeads r).contains j)) = true) ∧
          trOk ops qs true t f (listed.setIfInBounds i true) = true ∧ trOk ops qs false r (f + 1) listed = true := by
        cases b <;> simp only [trOk, Bool.and_eq_true, and_assoc] at ht ⊢ <;> exact ht
      obtain ⟨⟨h1, h2⟩, h3, h4⟩ := ht'
      obtain ⟨X, hi, hX, hrr⟩ := VT_alt h
      have ih2 := (VT_any hc hs hQp hK r false (f + 1) listed e a L w h4 hcl hA hR hC hrr).2
      have key : ∀ j ∈ altHeads (.alt i lt t r), j ∈ Region.ready .any ops listed → ∃ f', f + 1 = f' + 1 ∧ ∀ w1, Ext w w1 → wpOp P ops Q j (fun a' w' => (late .any ops qs j = true → R w0 fp0 Lb w') ∧ AnyG P .any ops Q (R w0 fp0 Lb) qs f' (listed.setIfInBounds j true) a' w') a w1 := by
        intro j hj hjr
        rcases List.mem_cons.1 hj with rfl | hj
        · refine ⟨f, rfl, fun w1 hx => ?_⟩
          obtain ⟨o, io, ho, hcp, hv⟩ := hc.get hi
          have ho' : ops[j]? = some o := by simpa using ho
          have hstep := VO_step (Q := Q) (K' := fun a' w' => (late .any ops qs j = true → R w0 fp0 Lb w') ∧ AnyG P .any ops Q (R w0 fp0 Lb) qs f (listed.setIfInBounds j true) a' w') hcp hA (hR.below hx) hv
            (fun e' a' L' w' hA' hR' hk => by
              obtain ⟨hk1, hk2⟩ := hX _ _ hk
              have hl : late .any ops qs j = true → R w0 fp0 Lb w' := fun hlt => hk1 (by rw [hlt] at h1; simpa using h1) w' hR'
              refine ⟨hl, (VT_any hc hs hQp hK t true f _ e' a' L' w' h3 (hcl.set hjr) hA' hR' (fun hex => ?_) hk2).1 rfl⟩
              cases hlate : late .any ops qs j with
              | true => exact hl hlate
              | false =>
                exfalso
                obtain ⟨x, hx, hun⟩ := hex
                have hlx := List.any_eq_false.1 hlate x hx
                simp only [Bool.and_eq_true, bne_iff_ne, ne_eq, Bool.not_eq_true', not_and, Bool.not_eq_false] at hlx
                by_cases hxj : x = j
                · subst hxj
                  have h0 := (mem_ready.1 hjr).1
                  rcases Nat.lt_or_ge x listed.size with h' | h'
                  · simp [h'] at hun
                  · simp [Array.getElem?_eq_none h'] at h0
                · have := getD_set_true (i := j) (anc_ready hcl hjr (hlx hxj))
                  rw [this] at hun
                  cases hun)
          unfold wpOp
          simp only [ho']
          split
          · rename_i hw; rw [if_pos hw] at hstep; exact .inl hstep
          · rename_i hw; rw [if_neg hw] at hstep; exact hstep
        · exact ih2 j hj hjr
      refine ⟨fun hb => ?_, key⟩
      subst hb
      simp only [Bool.not_true, Bool.false_or, Bool.and_eq_true, List.all_eq_true] at h2
      obtain ⟨h20, h2⟩ := h2
      refine ⟨fun h0 w1 hx => ?_, fun j hj w1 hx => ?_⟩
      · rw [h0] at h20; cases h20
      · obtain ⟨f', hf, hall⟩ := key j (by simpa [altHeads] using h2 j hj) hj
        cases hf
        exact hall w1 hx
end
end Go.EG
