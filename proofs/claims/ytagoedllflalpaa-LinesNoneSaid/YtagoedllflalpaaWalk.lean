/- The whole body: what VC asks is enough (VC_wp); from the model's code to the small form by reckoning (cC); a call of a function whose body was shown so. Generic over the program: no condition. -/
import Derived.Test.YtagoedllflalpaaDraw
import Derived.Deep.LoopGhost
namespace Go.EG
open Go.RowKit
set_option linter.unusedVariables false

/-! ### The small form by reckoning -/

def okDstB (n : Nat) : Option Nat → Bool
  | some d => decide (d < n)
  | none => true
theorem okDstB_spec {n : Nat} {d : Option Nat} (h : okDstB n d = true) : okDst n d := by
  intro x hx
  subst hx
  simpa [okDstB] using h
def flOf (fl : List Nat) : Option Nat → Bool
  | some d => fl.contains d
  | none => false

def cGop (P : Program) (n : Nat) (ops : Array Oper) (fl : List Nat) (o : Oper) : Option Gop :=
  if okDstB n o.dst = true then
    match cI P (flOf fl o.dst) o.dst o.op with
    | some i => match o.guard with
      | none => some ⟨o.dst, none, i⟩
      | some (j, want) => match (ops[j]?).bind (·.dst) with
        | some g => some ⟨o.dst, some (g, want), i⟩
        | none => none
    | none => none
  else none

def cGops (P : Program) (n : Nat) (ops : Array Oper) (fl : List Nat) : List Oper → Option (List Gop)
  | [] => some []
  | o :: l => match cGop P n ops fl o with
    | some io => match cGops P n ops fl l with
      | some l' => some (io :: l')
      | none => none
    | none => none

def trAt (ts : List (Nat × Tr)) (id : Nat) : Option Tr :=
  match ts with
  | [] => none
  | (k, t) :: ts => if k = id then some t else trAt ts id

/-- The slot that is written first. -/
def leftDst : Code → Option Nat
  | .region _ ops _ => (ops[0]?).bind (·.dst)
  | .seq a _ => leftDst a
  | .block _ c => leftDst c
  | .loop c => leftDst c
  | _ => none
/-- Branches come together ahead of such a part. -/
def isCut (fl : List Nat) (b : Code) : Bool :=
  match leftDst b with
  | some d => fl.contains (1000000 + d)
  | none => false

def cC (P : Program) (n : Nat) (fl : List Nat) (ts : List (Nat × Tr)) : Code → Option C
  | .skip => some .skip
  | .region id ops false => (cGops P n ops fl ops.toList).map .reg
  | .region id ops true => match trAt ts id, cGops P n ops fl ops.toList with
    | some t, some l => if (P.follows .mixedOrders && Region.noSelect ops && trOk ops (trQs t) true t ops.size (Array.replicate ops.size false)) = true then some (.drw l t) else none
    | _, _ => none
  | .seq a b => match cC P n fl ts a, cC P n fl ts b with
    | some a', some b' => some (match isCut fl b with | true => .cut a' b' | false => .seq a' b')
    | _, _ => none
  | .cond x a b => match cC P n fl ts a, cC P n fl ts b with
    | some a, some b => some (.cond (cX x) a b)
    | _, _ => none
  | .block id c => (cC P n fl ts c).map (.blk id)
  | .loop c => (cC P n fl ts c).map .loop
  | .exit id => some (.exit id)
  | .label _ => some .skip
  | .ret => some .ret
  | _ => none

section
variable {P : Program} {w0 : World} {fp0 : List Nat} {n : Nat} {fl : List Nat} {ts : List (Nat × Tr)}

theorem cGop_spec {ops : Array Oper} {o : Oper} {io : Gop} (h : cGop P n ops fl o = some io) : Comp1 P n ops fl o io := by
  unfold cGop at h
  split at h
  · rename_i hd
    split at h
    · rename_i i hi
      have hok := okDstB_spec hd
      split at h
      · rename_i hg
        simp only [Option.some.injEq] at h; subst h
        exact ⟨⟨_, hi⟩, rfl, hok, by rw [hg]⟩
      · rename_i j want hg
        split at h
        · rename_i g hj
          simp only [Option.some.injEq] at h; subst h
          exact ⟨⟨_, hi⟩, rfl, hok, by rw [hg]; exact ⟨g, hj, rfl⟩⟩
        · cases h
    · cases h
  · cases h

theorem cGops_spec {ops : Array Oper} : ∀ {l : List Oper} {l' : List Gop}, cGops P n ops fl l = some l' → CompL P n ops fl l l'
  | [], l', h => by simp only [cGops, Option.some.injEq] at h; subst h; exact .nil
  | o :: l, l', h => by
    simp only [cGops] at h
    split at h
    · rename_i io h1
      split at h
      · rename_i l'' h2
        simp only [Option.some.injEq] at h; subst h
        exact .cons (cGop_spec h1) (cGops_spec h2)
      · cases h
    · cases h

theorem subV_agree {a : Act} : ∀ {e' e : Env}, Agree n e a → subV e' e → Agree n e' a
  | [], e, hA, _ => ⟨hA.size, hA.defers, fun t s h => by cases h⟩
  | (t, s) :: e', e, hA, h => by
    obtain ⟨h1, h2⟩ := h
    have ih := subV_agree hA h2
    obtain ⟨u, hu, hv⟩ := gA_elim h1
    refine ⟨hA.size, hA.defers, fun t' s' hl => ?_⟩
    simp only [look] at hl
    split at hl
    · rename_i heq
      subst heq
      simp only [Option.some.injEq] at hl
      subst hl
      rw [← hv]
      exact hA.at_ _ _ hu
    · exact ih.at_ _ _ hl

theorem VC_wp : ∀ {c : Code} {c' : C} {K : Exit → Env → List Ent → Prop} {e : Env} {a : Act} {L : List Ent} {w : World}, cC P n fl ts c = some c' → Agree n e a → R w0 fp0 L w →
    VC P w0 fp0 c' K e L → c.wp P (wQ w0 fp0 n K) a w
  | .skip, c', K, e, a, L, w, hc, hA, hR, h => by
    simp only [cC, Option.some.injEq] at hc; subst hc
    exact wp_skip ⟨e, L, hA, hR, h⟩
  | .label _, c', K, e, a, L, w, hc, hA, hR, h => by
    simp only [cC, Option.some.injEq] at hc; subst hc
    exact wp_label ⟨e, L, hA, hR, h⟩
  | .ret, c', K, e, a, L, w, hc, hA, hR, h => by
    simp only [cC, Option.some.injEq] at hc; subst hc
    exact wp_ret ⟨e, L, hA, hR, h⟩
  | .exit id, c', K, e, a, L, w, hc, hA, hR, h => by
    simp only [cC, Option.some.injEq] at hc; subst hc
    exact wp_exit ⟨e, L, hA, hR, h⟩
  | .region id ops false, c', K, e, a, L, w, hc, hA, hR, h => by
    simp only [cC, Option.map_eq_some_iff] at hc
    obtain ⟨l, hl, rfl⟩ := hc
    exact wp_region_list (VL_wp (cGops_spec hl) hA hR h)
  | .region id ops true, c', K, e, a, L, w, hc, hA, hR, h => by
    simp only [cC] at hc
    split at hc
    · rename_i t l ht hl
      split at hc
      · rename_i hok
        simp only [Option.some.injEq] at hc; subst hc
        simp only [Bool.and_eq_true] at hok
        obtain ⟨⟨h1, h2⟩, h3⟩ := hok
        refine wp_region_any h1 (AnyG.any _ _ _ _ ((VT_any (K := K .normal) (cGops_spec hl) h2 (fun c a w hq => hq) (fun e a L w hA hR hk => ⟨e, L, hA, hR, hk⟩) t (trQs t) L true _ _ e a L _ h3 (Closed.start _) hA hR.drew (fun _ => hR.drew) h).1 rfl))
      · cases hc
    · cases hc
  | .seq x y, c', K, e, a, L, w, hc, hA, hR, h => by
    simp only [cC] at hc
    split at hc
    · rename_i cx cy hx hy
      split at hc
      · simp only [Option.some.injEq] at hc; subst hc
        simp only [VC] at h
        obtain ⟨α, E, H, I, h1, h2⟩ := h.h
        refine wp_seq (Code.wp_mono (fun x a w hq => ?_) (VC_wp hx hA hR h1))
        cases x with
        | normal =>
          obtain ⟨e', L', hA', hR', hk⟩ := hq
          obtain ⟨x, hI, hs, hr⟩ := hk.h
          exact VC_wp hy (subV_agree hA' hs) (hr _ hR') (h2 x hI)
        | exit id => exact hq
        | ret => exact hq
        | goto l => exact hq
        | panic ch => exact hq
        | outgrown => exact hq
      · simp only [Option.some.injEq] at hc; subst hc
        refine wp_seq (Code.wp_mono (fun x a w hq => ?_) (VC_wp hx hA hR h))
        cases x with
        | normal =>
          obtain ⟨e', L', hA', hR', hk⟩ := hq
          exact VC_wp hy hA' hR' hk
        | exit id => exact hq
        | ret => exact hq
        | goto l => exact hq
        | panic ch => exact hq
        | outgrown => exact hq
    · cases hc
  | .cond x y z, c', K, e, a, L, w, hc, hA, hR, h => by
    simp only [cC] at hc
    split at hc
    · rename_i cy cz hy hz
      simp only [Option.some.injEq] at hc; subst hc
      simp only [VC] at h
      obtain ⟨t, ht, h⟩ := gBool_elim h
      obtain ⟨h1, h2⟩ := bcase_elim h
      exact wp_cond_split (t := t) (ev_eval hA ht) (fun htt => VC_wp hy hA hR (h1 htt)) (fun htt => VC_wp hz hA hR (h2 htt))
    · cases hc
  | .block id x, c', K, e, a, L, w, hc, hA, hR, h => by
    simp only [cC, Option.map_eq_some_iff] at hc
    obtain ⟨cx, hx, rfl⟩ := hc
    refine wp_block (Code.wp_mono (fun x a w hq => ?_) (VC_wp hx hA hR h))
    cases x with
    | exit id' =>
      obtain ⟨e', L', hA', hR', hk⟩ := hq
      simp only [Exit.inBlock]
      simp only [kBlk] at hk
      split
      · rename_i hid; rw [if_pos hid] at hk; exact ⟨e', L', hA', hR', hk⟩
      · rename_i hid; rw [if_neg hid] at hk; exact ⟨e', L', hA', hR', hk⟩
    | normal => exact hq
    | ret => exact hq
    | goto l => exact hq
    | panic ch => exact hq
    | outgrown => exact hq
  | .loop x, c', K, e, a, L, w, hc, hA, hR, h => by
    simp only [cC, Option.map_eq_some_iff] at hc
    obtain ⟨cx, hx, rfl⟩ := hc
    simp only [VC] at h
    obtain ⟨α, E, H, I, μ, ⟨x0, hI0, hs0, hr0⟩, hround⟩ := h.h
    refine wp_loop_ghost (fun m a w => ∃ x, I x ∧ μ x = m ∧ Agree n (E x) a ∧ R w0 fp0 (H x) w) (μ x0) ⟨x0, hI0, rfl, subV_agree hA hs0, hr0 w hR⟩ ?_
    rintro m a w ⟨x, hI, rfl, hA', hR'⟩
    refine Code.wp_mono (fun ex a w hq => ?_) (VC_wp hx hA' hR' (hround x hI))
    cases ex with
    | normal =>
      obtain ⟨e', L', hA2, hR2, ⟨y, ⟨hI2, hlt⟩, hs, hr⟩⟩ := hq
      exact ⟨μ y, hlt, y, hI2, rfl, subV_agree hA2 hs, hr w hR2⟩
    | exit id => exact hq
    | ret => exact hq
    | goto l => exact hq
    | panic ch => exact hq
    | outgrown => exact hq
  | .rangeFunc .., c', K, e, a, L, w, hc, hA, hR, h => by simp [cC] at hc
  | .scope .., c', K, e, a, L, w, hc, hA, hR, h => by simp [cC] at hc
  | .goto .., c', K, e, a, L, w, hc, hA, hR, h => by simp [cC] at hc
  | .refuse .., c', K, e, a, L, w, hc, hA, hR, h => by simp [cC] at hc

/-! ### Functions -/

inductive RV where
  | t (n : Nat)
  | c (t n : Nat)

def cRes (P : Program) : List ResultVar → Option (List RV)
  | [] => some []
  | .tmp t :: rs => match cRes P rs with
    | some l => some (.t t :: l)
    | none => none
  | .cell t ty :: rs => match P.underlying ty, P.info? ty, cRes P rs with
    | some (.struct _), some j, some l => if 0 < j.size then some (.c t j.size :: l) else none
    | _, _, _ => none

/-- What the results' slots hold. -/
def gRes : List RV → Env → List Ent → (List Value → Prop) → Prop
  | [], e, L, K => K []
  | .t t :: rs, e, L, K => gA (look e t) fun s => svK s fun v => gRes rs e L fun l => K (v :: l)
  | .c t m :: rs, e, L, K => gA (look e t) fun s => match s with
    | .ptr key b off => match boxAt key L with
      | some (b', cs, _) => (b' = b ∧ off + m ≤ cs.length) ∧ gRes rs e L fun l => K (.agg ((cs.drop off).take m).toArray :: l)
      | none => False
    | _ => False

def oneRes : List Value → Value
  | [v] => v
  | l => .tuple l.toArray

def oneK (l : List Value) (K : Value → Prop) : Prop :=
  match l with
  | [v] => K v
  | l => K (.tuple l.toArray)

/-- Where a body ends. -/
def fnK (rs : List RV) (K : Value → List Ent → Prop) : Exit → Env → List Ent → Prop
  | .normal, e, L => gRes rs e L fun l => oneK l fun v => Stop (K v L)
  | .ret, e, L => gRes rs e L fun l => oneK l fun v => Stop (K v L)
  | _, _, _ => False
theorem oneK_elim {l : List Value} {K : Value → Prop} (h : oneK l K) : K (oneRes l) := by
  match l, h with
  | [], h => exact h
  | [_], h => exact h
  | _ :: _ :: _, h => exact h

/-- The frame at a function's start. -/
def startE : Nat → List SV → Env
  | _, [] => []
  | k, s :: l => (k, s) :: startE (k + 1) l

theorem startE_look : ∀ (l : List SV) (k t : Nat) (s : SV), look (startE k l) t = some s → k ≤ t ∧ l[t - k]? = some s
  | [], k, t, s, h => by cases h
  | x :: l, k, t, s, h => by
    simp only [startE, look] at h
    split at h
    · rename_i hk
      subst hk
      simp only [Option.some.injEq] at h
      subst h
      simp
    · rename_i hk
      obtain ⟨h1, h2⟩ := startE_look l (k + 1) t s h
      refine ⟨by omega, ?_⟩
      have : t - k = (t - (k + 1)) + 1 := by omega
      rw [this]
      simpa using h2

theorem agree_start {l : List SV} (h : l.length ≤ n) : Agree n (startE 0 l) { tmps := (l.map SV.val).toArray ++ Array.replicate (n - (l.map SV.val).toArray.size) undef, defers := [] } := by
  refine ⟨by simp; omega, rfl, fun t s hl => ?_⟩
  obtain ⟨_, h2⟩ := startE_look l 0 t s hl
  simp only [Nat.sub_zero] at h2
  have hlt : t < l.length := (List.getElem?_eq_some_iff.1 h2).1
  simp [Array.getElem?_append, hlt]
  have h3 := (List.getElem?_eq_some_iff.1 h2).2
  rw [h3]

def resF (a : Act) : ResultVar → Sem Value
  | .tmp t => pure (a.tmps.getD t undef)
  | .cell c t => do loadVar t (← asAddr (a.tmps.getD c undef))

theorem gRes_run {a : Act} {w : World} {e : Env} {L : List Ent} (hA : Agree n e a) (hR : R w0 fp0 L w) : ∀ {rs : List ResultVar} {l' : List RV} {K : List Value → Prop}, cRes P rs = some l' → gRes l' e L K →
    ∃ l, K l ∧ (rs.mapM (resF a) : Sem (List Value)).run P w = .ok l w
  | [], l', K, hc, h => by
    simp only [cRes, Option.some.injEq] at hc; subst hc
    exact ⟨[], h, by simp [List.mapM_nil, Sem.run_pure]⟩
  | .tmp t :: rs, l', K, hc, h => by
    simp only [cRes] at hc
    split at hc
    · rename_i l0 h0
      simp only [Option.some.injEq] at hc; subst hc
      obtain ⟨s, hs, h⟩ := gA_elim h
      obtain ⟨l, hk, hl⟩ := gRes_run hA hR h0 (svK_elim h)
      refine ⟨_, hk, ?_⟩
      have := hA.getD hs
      simp only [List.mapM_cons, resF, Sem.run_bind, Sem.run_pure, Result.andThen_ok, this]
      rw [hl]
      rfl
    · cases hc
  | .cell t ty :: rs, l', K, hc, h => by
    simp only [cRes] at hc
    split at hc
    · rename_i fs j l0 h1 h2 h0
      split at hc
      · rename_i hpos
        simp only [Option.some.injEq] at hc; subst hc
        obtain ⟨s, hs, h⟩ := gA_elim h
        split at h
        · rename_i key b off
          split at h
          · rename_i b' cs T hb
            obtain ⟨⟨rfl, hle⟩, h⟩ := h
            obtain ⟨l, hk, hl⟩ := gRes_run hA hR h0 h
            refine ⟨_, hk, ?_⟩
            have := hA.getD hs
            have hload := run_loadn (P := P) (w := w) (b := b') (off := off) (vs := (cs.drop off).take j.size) (.inl ⟨_, h1⟩) h2 (by simp; omega) (fun i v hv => by
              rw [cell_box hR hb]
              rw [List.getElem?_take] at hv
              split at hv
              · simpa using hv
              · cases hv)
            simp only [List.mapM_cons, resF, Sem.run_bind, Sem.run_pure, this, SV.val, asAddr, Result.andThen_ok]
            rw [hload]
            simp only [Result.andThen_ok]
            rw [hl]
            rfl
          · exact h.elim
        · exact h.elim
      · cases hc
    · cases hc

/-- A function whose body does so. -/
theorem calls_VC {f : FuncId} {fn : Func} {c : Code} {c' : C} {l : List SV} {w : World} {L : List Ent} {K : Value → List Ent → Prop} {rs : List RV}
    (hf : P.funcs[f]? = some fn) (hb : fn.body = some c) (hn : fn.ntmps = n) (hc : cC P n fl ts c = some c') (hrs : cRes P fn.results.toList = some rs) (hl : l.length ≤ n) (hR : R w0 fp0 L w)
    (h : VC P w0 fp0 c' (fnK rs K) (startE 0 l) L) :
    Calls P f (l.map SV.val).toArray w fun x w' => ∃ v L', x = .returned v ∧ R w0 fp0 L' w' ∧ K v L' := by
  refine calls_of_wp hf hb ?_
  subst hn
  refine Code.wp_mono (fun x a w hq => ?_) (VC_wp hc (agree_start hl) hR h)
  have key : ∀ e L, Agree fn.ntmps e a → R w0 fp0 L w → gRes rs e L (fun l => oneK l fun v => Stop (K v L)) →
      a.defers = [] ∧ ∃ v, (results fn a.tmps).run P w = .ok v w ∧ ∃ v' L', Ending.returned v = .returned v' ∧ R w0 fp0 L' w ∧ K v' L' := by
    intro e L hA hR hk
    obtain ⟨l, hkl, hrun⟩ := gRes_run (P := P) (w := w) hA hR hrs hk
    refine ⟨hA.defers, oneRes l, ?_, _, L, rfl, hR, (oneK_elim hkl).h⟩
    have e1 : results fn a.tmps = (do let vs ← fn.results.mapM (resF a); pure (if h : vs.size = 1 then vs[0] else .tuple vs)) := rfl
    rw [e1, Array.mapM_eq_mapM_toList]
    simp only [map_eq_pure_bind, bind_assoc, pure_bind, Sem.run_bind]
    rw [hrun]
    simp only [Result.andThen_ok, Sem.run_pure]
    match l with
    | [] => rfl
    | [v] => rfl
    | v :: v' :: l => simp [oneRes]
  cases x with
  | normal => obtain ⟨e, L, hA, hR, hk⟩ := hq; exact key e L hA hR hk
  | ret => obtain ⟨e, L, hA, hR, hk⟩ := hq; exact key e L hA hR hk
  | exit id => obtain ⟨e, L, hA, hR, hk⟩ := hq; exact hk.elim
  | goto l => exact hq
  | panic ch => exact hq.elim
  | outgrown => exact hq.elim
end

/-- The small form of a function: its slots, its results, its body. -/
def irOf (P : Program) (f : Nat) (fl : List Nat) (ts : List (Nat × Tr)) : Option (Nat × List RV × C) :=
  match P.funcs[f]? with
  | some fn => match fn.body with
    | some c => match cC P fn.ntmps fl ts c, cRes P fn.results.toList with
      | some c', some rs => some (fn.ntmps, rs, c')
      | _, _ => none
    | none => none
  | none => none

/-- A call of a function of which the small form is known. -/
theorem calls_ir {P : Program} {f : Nat} {fl : List Nat} {ts : List (Nat × Tr)} {n : Nat} {rs : List RV} {c' : C} {w0 w : World} {fp0 : List Nat} {L : List Ent} {K : Value → List Ent → Prop} (l : List SV)
    (hir : irOf P f fl ts = some (n, rs, c')) (hl : l.length ≤ n) (hR : R w0 fp0 L w) (h : VC P w0 fp0 c' (fnK rs K) (startE 0 l) L) :
    Calls P f (l.map SV.val).toArray w fun x w' => ∃ v L', x = .returned v ∧ R w0 fp0 L' w' ∧ K v L' := by
  unfold irOf at hir
  split at hir
  · rename_i fn hf
    split at hir
    · rename_i c hb
      split at hir
      · rename_i c1 rs1 hc hrs
        simp only [Option.some.injEq, Prod.mk.injEq] at hir
        obtain ⟨h1, h2, h3⟩ := hir
        subst h1 h2 h3
        exact calls_VC hf hb rfl hc hrs hl hR h
      · cases hir
    · cases hir
  · cases hir
end Go.EG
