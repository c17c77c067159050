/- The fifth part of 'what the small form asks is enough': maps, type assertions, slices shortened. Generic over the program: no condition. -/
import Derived.Test.YtagoedllflalpaaSound4
import Derived.MapKept
namespace Go.EG
open Go.RowKit
set_option linter.unusedVariables false
set_option linter.unusedSimpArgs false

section
variable {P : Program} {w0 : World} {fp0 : List Nat} {n : Nat} {e : Env} {a : Act} {L : List Ent} {w : World} {k : SV → List Ent → Prop} {o : Oper}

theorem okCells_mix : ∀ {ks : List LK} {xs ys : List Value}, okCells xs xs ks → okCells ys ys ks → okCells xs ys ks
  | [], xs, ys, hx, hy => by
    obtain ⟨rfl, _⟩ := okCells_nil hx
    obtain ⟨rfl, _⟩ := okCells_nil hy
    trivial
  | .int kd :: ks, xs, ys, hx, hy => by
    obtain ⟨p, q, xs', _, rfl, h2, h3⟩ := okCells_int hx
    obtain ⟨p', q', ys', _, rfl, h5, h6⟩ := okCells_int hy
    simp only [List.cons.injEq] at h2 h5
    rw [← h2.2] at h3
    rw [← h5.2] at h6
    exact ⟨⟨rfl, rfl⟩, okCells_mix h3 h6⟩
  | .bool :: ks, xs, ys, hx, hy => by
    obtain ⟨p, q, xs', _, rfl, h2, h3⟩ := okCells_bool hx
    obtain ⟨p', q', ys', _, rfl, h5, h6⟩ := okCells_bool hy
    simp only [List.cons.injEq] at h2 h5
    rw [← h2.2] at h3
    rw [← h5.2] at h6
    exact okCells_mix (ks := ks) h3 h6
  | .str :: ks, xs, ys, hx, hy => by unfold okCells at hx; split at hx <;> simp_all
  | .ptr :: ks, xs, ys, hx, hy => by unfold okCells at hx; split at hx <;> simp_all
  | .slc :: ks, xs, ys, hx, hy => by unfold okCells at hx; split at hx <;> simp_all
  | .map :: ks, xs, ys, hx, hy => by unfold okCells at hx; split at hx <;> simp_all
  | .raw :: ks, xs, ys, hx, hy => by unfold okCells at hx; split at hx <;> simp_all

theorem eqCells_eq : ∀ {ks : List LK} {xs ys : List Value}, okCells xs ys ks → eqCells xs ys = true → xs = ys
  | [], xs, ys, hx, _ => by
    obtain ⟨rfl, rfl⟩ := okCells_nil hx
    rfl
  | .int kd :: ks, xs, ys, hx, h => by
    obtain ⟨p, q, xs', ys', rfl, rfl, h3⟩ := okCells_int hx
    simp only [eqCells, Bool.and_eq_true, decide_eq_true_eq] at h
    rw [h.1, eqCells_eq h3 h.2]
  | .bool :: ks, xs, ys, hx, h => by
    obtain ⟨p, q, xs', ys', rfl, rfl, h3⟩ := okCells_bool hx
    simp only [eqCells, Bool.and_eq_true, decide_eq_true_eq] at h
    rw [h.1, eqCells_eq h3 h.2]
  | .str :: ks, xs, ys, hx, hy => by unfold okCells at hx; split at hx <;> simp_all
  | .ptr :: ks, xs, ys, hx, hy => by unfold okCells at hx; split at hx <;> simp_all
  | .slc :: ks, xs, ys, hx, hy => by unfold okCells at hx; split at hx <;> simp_all
  | .map :: ks, xs, ys, hx, hy => by unfold okCells at hx; split at hx <;> simp_all
  | .raw :: ks, xs, ys, hx, hy => by unfold okCells at hx; split at hx <;> simp_all
theorem eqCells_self : ∀ {ks : List LK} {xs : List Value}, okCells xs xs ks → eqCells xs xs = true
  | [], xs, hx => by
    obtain ⟨rfl, _⟩ := okCells_nil hx
    rfl
  | .int kd :: ks, xs, hx => by
    obtain ⟨p, q, xs', ys', rfl, h2, h3⟩ := okCells_int hx
    simp only [List.cons.injEq] at h2
    rw [← h2.2] at h3
    simp [eqCells, eqCells_self h3]
  | .bool :: ks, xs, hx => by
    obtain ⟨p, q, xs', ys', rfl, h2, h3⟩ := okCells_bool hx
    simp only [List.cons.injEq] at h2
    rw [← h2.2] at h3
    simp [eqCells, eqCells_self h3]
  | .str :: ks, xs, hx => by unfold okCells at hx; split at hx <;> simp_all
  | .ptr :: ks, xs, hx => by unfold okCells at hx; split at hx <;> simp_all
  | .slc :: ks, xs, hx => by unfold okCells at hx; split at hx <;> simp_all
  | .map :: ks, xs, hx => by unfold okCells at hx; split at hx <;> simp_all
  | .raw :: ks, xs, hx => by unfold okCells at hx; split at hx <;> simp_all

theorem keyEq_iff {kk : KK} {x y : Value} (hx : keyOk kk x) (hy : keyOk kk y) : keyEq x y = true ↔ x = y := by
  cases kk with
  | int kd =>
    obtain ⟨p, rfl⟩ := hx
    obtain ⟨q, rfl⟩ := hy
    simp [keyEq]
  | agg ks =>
    obtain ⟨p, rfl, hx⟩ := hx
    obtain ⟨q, rfl, hy⟩ := hy
    simp only [keyEq]
    constructor
    · intro h
      have := eqCells_eq (okCells_mix hx hy) h
      rw [Array.ext' this]
    · intro h
      simp only [Value.agg.injEq] at h
      subst h
      exact eqCells_self hx

theorem sameBits_cells : ∀ {ks : List LK} {xs : List Value} (m : Nat), okCells xs xs ks → (xs.zip xs).all (fun (x, y) => Instr.sameBits m x y) = true
  | [], xs, m, hx => by
    obtain ⟨rfl, _⟩ := okCells_nil hx
    rfl
  | .int kd :: ks, xs, m, hx => by
    obtain ⟨p, q, xs', ys', rfl, h2, h3⟩ := okCells_int hx
    simp only [List.cons.injEq] at h2
    rw [← h2.2] at h3
    have := sameBits_cells m h3
    cases m <;> simp_all [Instr.sameBits]
  | .bool :: ks, xs, m, hx => by
    obtain ⟨p, q, xs', ys', rfl, h2, h3⟩ := okCells_bool hx
    simp only [List.cons.injEq] at h2
    rw [← h2.2] at h3
    have := sameBits_cells m h3
    cases m <;> simp_all [Instr.sameBits]
  | .str :: ks, xs, m, hx => by unfold okCells at hx; split at hx <;> simp_all
  | .ptr :: ks, xs, m, hx => by unfold okCells at hx; split at hx <;> simp_all
  | .slc :: ks, xs, m, hx => by unfold okCells at hx; split at hx <;> simp_all
  | .map :: ks, xs, m, hx => by unfold okCells at hx; split at hx <;> simp_all
  | .raw :: ks, xs, m, hx => by unfold okCells at hx; split at hx <;> simp_all

theorem key_stays {kk : KK} {x : Value} (hx : keyOk kk x) : (Instr.keyThatStays x x).run P w = .ok x w := by
  have : Instr.sameBits 10000 x x = true := by
    cases kk with
    | int kd =>
      obtain ⟨p, rfl⟩ := hx
      simp [Instr.sameBits]
    | agg ks =>
      obtain ⟨p, rfl, hx⟩ := hx
      rw [show (10000 : Nat) = 9999 + 1 from rfl]
      simp only [Instr.sameBits, beq_self_eq_true, Bool.true_and]
      exact sameBits_cells 9999 hx
  simp [Instr.keyThatStays, this]

theorem keyTy_int {t : TypeId} {kd : IntKind} (h : keyTy P t = some (.int kd)) : P.underlying t = some (.int kd) := by
  unfold keyTy at h
  split at h
  · simp only [Option.some.injEq, KK.int.injEq] at h; subst h; assumption
  · split at h
    · obtain ⟨_, _, h⟩ := Option.map_eq_some_iff.1 h; cases h
    · cases h
  · cases h
theorem keyTy_agg {t : TypeId} {ks : List LK} (h : keyTy P t = some (.agg ks)) : ∃ fs, P.underlying t = some (.struct fs) ∧ P.stoodInHeld t = false ∧ fieldKs P fs.toList 0 = some ks := by
  unfold keyTy at h
  split at h
  · cases h
  · rename_i fs hu
    split at h
    · rename_i hs
      obtain ⟨ks', h1, h2⟩ := Option.map_eq_some_iff.1 h
      simp only [KK.agg.injEq] at h2
      subst h2
      exact ⟨fs, hu, hs, h1⟩
    · cases h
  · cases h

theorem key_equal {t : TypeId} {kk : KK} {x y : Value} (ht : keyTy P t = some kk) (hx : keyOk kk x) (hy : keyOk kk y) : (Op.equal t x y).run P w = .ok (keyEq x y) w := by
  cases kk with
  | int kd =>
    obtain ⟨p, rfl⟩ := hx
    obtain ⟨q, rfl⟩ := hy
    have := run_equalIn_int (P := P) w 9999 t kd kd p q (keyTy_int ht)
    simp only [keyEq]
    exact this
  | agg ks =>
    obtain ⟨p, rfl, hx⟩ := hx
    obtain ⟨q, rfl, hy⟩ := hy
    obtain ⟨fs, hu, hs, hk⟩ := keyTy_agg ht
    have hft : P.underlying t = some (.struct (P.fieldsOf t)) := by simp [Program.fieldsOf, hu]
    have hfe : P.fieldsOf t = fs := by simp [Program.fieldsOf, hu]
    have he : (Op.equalIn 10000 t (.agg p) (.agg q)).run P w = .ok (eqCells p.toList q.toList) w := by
      rw [show (10000 : Nat) = 9999 + 1 from rfl, run_equalIn_struct w 9999 t p q hft hs, hfe]
      have := eqFields_run (P := P) (w := w) (d := 9998) (xs := p) (ys := q) fs.toList 0 ks hk (by simpa using okCells_mix hx hy)
      simpa using this
    exact he

theorem check_fields {m : Nat} {em : Bool} {cs : Array Value} : ∀ (fs : List Field) (i : Nat) (ks : List LK), fieldKs P fs i = some ks → okCells (cs.toList.drop i) (cs.toList.drop i) ks →
    (forIn fs PUnit.unit (fun f _ => do
      if f.name ≠ "_" then Instr.checkKey em (m + 1) f.type (← part f.type cs f.offset)
      pure (ForInStep.yield PUnit.unit)) : Sem PUnit).run P w = .ok PUnit.unit w
  | [], i, ks, hk, hok => by simp
  | f :: fs, i, ks, hk, hok => by
    simp only [fieldKs] at hk
    split at hk
    · rename_i hcond
      obtain ⟨hoff, hname⟩ := hcond
      have hnm : f.name ≠ "_" := by simpa using hname
      split at hk
      · rename_i kd hu
        obtain ⟨ks', hks', rfl⟩ := Option.map_eq_some_iff.1 hk
        obtain ⟨p, q, lx, ly, hx, hy, hok'⟩ := okCells_int hok
        obtain ⟨ex, ex'⟩ := drop_head hx
        obtain ⟨ey, ey'⟩ := drop_head hy
        have ih := check_fields (m := m) (em := em) (cs := cs) fs (i + 1) ks' hks' (by rw [ex']; rw [ex'] at ey'; rw [← ey'] at hok'; exact hok')
        have p1 : (part f.type cs f.offset).run P w = .ok (.int kd p) w := by simp [part, isAgg, run_underlying hu, hoff, ex]
        have c1 : (Instr.checkKey em (m + 1) f.type (.int kd p)).run P w = .ok () w := by simp [Instr.checkKey, run_underlying hu]
        simp only [List.forIn_cons, if_pos hnm, Sem.run_bind, p1, Result.andThen_ok, c1, Sem.run_pure]
        exact ih
      · rename_i hu
        obtain ⟨ks', hks', rfl⟩ := Option.map_eq_some_iff.1 hk
        obtain ⟨p, q, lx, ly, hx, hy, hok'⟩ := okCells_bool hok
        obtain ⟨ex, ex'⟩ := drop_head hx
        obtain ⟨ey, ey'⟩ := drop_head hy
        have ih := check_fields (m := m) (em := em) (cs := cs) fs (i + 1) ks' hks' (by rw [ex']; rw [ex'] at ey'; rw [← ey'] at hok'; exact hok')
        have p1 : (part f.type cs f.offset).run P w = .ok (.bool p) w := by simp [part, isAgg, run_underlying hu, hoff, ex]
        have c1 : (Instr.checkKey em (m + 1) f.type (.bool p)).run P w = .ok () w := by simp [Instr.checkKey, run_underlying hu]
        simp only [List.forIn_cons, if_pos hnm, Sem.run_bind, p1, Result.andThen_ok, c1, Sem.run_pure]
        exact ih
      · cases hk
    · cases hk

theorem key_check' {t : TypeId} {kk : KK} {x : Value} (em : Bool) (m : Nat) (ht : keyTy P t = some kk) (hx : keyOk kk x) : (Instr.checkKey em (m + 1 + 1) t x).run P w = .ok () w := by
  cases kk with
  | int kd =>
    obtain ⟨p, rfl⟩ := hx
    simp [Instr.checkKey, run_underlying (keyTy_int ht)]
  | agg ks =>
    obtain ⟨p, rfl, hx⟩ := hx
    obtain ⟨fs, hu, hs, hk⟩ := keyTy_agg ht
    have := check_fields (P := P) (w := w) (m := m) (em := em) (cs := p) fs.toList 0 ks hk (by simpa using hx)
    rw [Instr.checkKey]
    simp only [run_underlying hu, Sem.run_bind, Result.andThen_ok]
    rw [← Array.forIn_toList]
    simp only [bind_pure_comp, map_pure, bind_assoc, pure_bind] at this ⊢
    rw [this]
    rfl
theorem key_check {t : TypeId} {kk : KK} {x : Value} (em : Bool) (ht : keyTy P t = some kk) (hx : keyOk kk x) : (Instr.checkKey em 10000 t x).run P w = .ok () w := key_check' em 9998 ht hx

def mfind : List MapEntry → Value → Nat → Option (Nat × Value)
  | [], _, _ => none
  | e :: es, x, i => if keyEq x e.key then some (i, e.val) else mfind es x (i + 1)

theorem find_asking {t : TypeId} {kk : KK} {x : Value} (ht : keyTy P t = some kk) (hx : keyOk kk x) : ∀ (es : List MapEntry) (i : Nat), (∀ e ∈ es, keyOk kk e.key) → (Instr.findAsking t x es i).run P w = .ok (mfind es x i) w
  | [], i, _ => by simp [Instr.findAsking, mfind]
  | e :: es, i, h => by
    have h1 := key_equal (P := P) (w := w) ht hx (h e List.mem_cons_self)
    have ih := find_asking ht hx es (i + 1) (fun e he => h e (List.mem_cons_of_mem _ he))
    simp only [Instr.findAsking, Sem.run_bind, h1, Result.andThen_ok, mfind]
    cases keyEq x e.key
    · simpa using ih
    · simp

theorem find_now_int {kd : IntKind} {x : Value} (hx : keyOk (.int kd) x) : ∀ (es : List MapEntry) (i : Nat), (∀ e ∈ es, keyOk (.int kd) e.key) → Instr.findNow (.int kd) x es i = some (mfind es x i)
  | [], i, _ => by simp [Instr.findNow, mfind]
  | e :: es, i, h => by
    have ih := find_now_int hx es (i + 1) (fun e he => h e (List.mem_cons_of_mem _ he))
    obtain ⟨q, hq⟩ := h e List.mem_cons_self
    obtain ⟨p, rfl⟩ := hx
    simp only [Instr.findNow, hq, Instr.sameNow, if_true, mfind, keyEq]
    by_cases hpq : p = q
    · simp [hpq]
    · have : (p == q) = false := by simp [hpq]
      simp [this, hpq, ih]

theorem find_key {t : TypeId} {kk : KK} {x : Value} (ht : keyTy P t = some kk) (hx : keyOk kk x) (es : List MapEntry) (h : ∀ e ∈ es, keyOk kk e.key) : (Instr.findKey t x es).run P w = .ok (mfind es x 0) w := by
  cases kk with
  | int kd =>
    simp [Instr.findKey, run_underlying (keyTy_int ht), find_now_int hx es 0 h]
  | agg ks =>
    have hask := find_asking (P := P) (w := w) ht hx es 0 h
    obtain ⟨fs, hu, hs, hk⟩ := keyTy_agg ht
    cases es with
    | nil => simp [Instr.findKey, run_underlying hu, Instr.findNow, mfind]
    | cons e es =>
      simp only [Instr.findKey, run_underlying hu, Sem.run_bind, Result.andThen_ok, Instr.findNow, Instr.sameNow]
      exact hask

theorem mget_find {x : Value} : ∀ (es : List MapEntry) (i : Nat), mget (es.map fun e => (e.key, e.val)) x = (mfind es x i).map (·.2)
  | [], i => by simp [mget, mfind]
  | e :: es, i => by
    simp only [List.map_cons, mget, mfind]
    cases keyEq x e.key
    · simpa using mget_find es (i + 1)
    · simp

theorem mfind_some {kk : KK} {x : Value} (hx : keyOk kk x) : ∀ (es : List MapEntry) (i : Nat) {j : Nat} {v : Value}, (∀ e ∈ es, keyOk kk e.key) → mfind es x i = some (j, v) →
    ∃ m e, j = i + m ∧ es[m]? = some e ∧ e.key = x ∧ e.val = v ∧ ∀ u, mset (es.map fun e => (e.key, e.val)) x u = (es.modify m fun e => { e with key := x, val := u }).map fun e => (e.key, e.val)
  | [], i, j, v, _, h => by cases h
  | e :: es, i, j, v, hk, h => by
    simp only [mfind] at h
    by_cases hq : keyEq x e.key = true
    · rw [if_pos hq] at h
      simp only [Option.some.injEq, Prod.mk.injEq] at h
      obtain ⟨rfl, rfl⟩ := h
      refine ⟨0, e, rfl, rfl, ((keyEq_iff hx (hk e List.mem_cons_self)).1 hq).symm, rfl, fun u => ?_⟩
      simp [mset, hq, List.modify_cons]
    · rw [if_neg hq] at h
      obtain ⟨m, e', h1, h2, h3, h4, h5⟩ := mfind_some hx es (i + 1) (fun e he => hk e (List.mem_cons_of_mem _ he)) h
      refine ⟨m + 1, e', by omega, by simpa using h2, h3, h4, fun u => ?_⟩
      simp only [List.map_cons, mset, if_neg hq, h5, List.modify_succ_cons]
theorem mfind_none {x : Value} : ∀ (es : List MapEntry) (i : Nat), mfind es x i = none → ∀ u, mset (es.map fun e => (e.key, e.val)) x u = (es.map fun e => (e.key, e.val)) ++ [(x, u)]
  | [], i, h, u => by simp [mset]
  | e :: es, i, h, u => by
    simp only [mfind] at h
    by_cases hq : keyEq x e.key = true
    · rw [if_pos hq] at h; cases h
    · rw [if_neg hq] at h
      simp only [List.map_cons, mset, if_neg hq, mfind_none es (i + 1) h u, List.cons_append]
theorem mset_ok {kk : KK} {x u : Value} (hx : keyOk kk x) : ∀ (m : List (Value × Value)), (∀ p ∈ m, keyOk kk p.1) → ∀ p ∈ mset m x u, keyOk kk p.1
  | [], _, p, hp => by
    simp only [mset, List.mem_singleton] at hp
    subst hp; exact hx
  | (k', u') :: m, h, p, hp => by
    simp only [mset] at hp
    split at hp
    · rcases List.mem_cons.1 hp with rfl | hp
      · exact hx
      · exact h p (List.mem_cons_of_mem _ hp)
    · rcases List.mem_cons.1 hp with rfl | hp
      · exact h _ List.mem_cons_self
      · exact mset_ok hx m (fun p hp => h p (List.mem_cons_of_mem _ hp)) p hp

theorem map_ent {key b : Nat} {kk : KK} {m : List (Value × Value)} (hR : R w0 fp0 L w) (h : mapAt key L = some (b, kk, m)) : (Ent.mapE key b kk m).ok w := by
  obtain ⟨L', h1, _⟩ := mapAt_perm h
  exact (hR.perm h1).ok _ List.mem_cons_self

theorem does_lku {t kt et : TypeId} {x y : Operand} {ok : Bool} {kk : KK} {j : TypeInfo} {z : Value} (ho : o.op = .lookup t x y ok) (ht : P.underlying t = some (.map kt et)) (hk : keyTy P kt = some kk) (hj : P.info? et = some j) (hz : j.zero = some z)
    (hA : Agree n e a) (hR : R w0 fp0 L w) (h : VI P w0 fp0 (.lku kk ok z (cX x) (cX y)) e L k) : GivesP P w0 fp0 o a w k := by
  simp only [VI] at h
  obtain ⟨s, hp, h'⟩ := gA_elim h
  clear h
  obtain ⟨u, hq, h⟩ := gA_elim h'
  clear h'
  have ex := ev_eval hA hp
  have ey := ev_eval hA hq
  have hzv : (zeroValue et).run P w = .ok z w := by simp [zeroValue, typeInfo, hj, hz]
  split at h
  · rename_i key b
    split at h
    · rename_i b' kk' m hm
      obtain ⟨⟨rfl, rfl, hku⟩, h1, h2⟩ := h
      obtain ⟨es, clock, hb, hes, hks⟩ := map_ent hR hm
      have hks' : ∀ e ∈ es.toList, keyOk kk' e.key := fun e he => hks (e.key, e.val) (by rw [← hes]; exact List.mem_map_of_mem he)
      have hf := find_key (P := P) (w := w) hk hku es.toList hks'
      have hg := mget_find (x := u.val) es.toList 0
      rw [hes] at hg
      have hc := key_check (P := P) (w := w) es.isEmpty hk hku
      cases hfm : mfind es.toList u.val 0 with
      | none =>
        rw [hfm] at hf hg
        refine gives_pure hR (v := lkV ok z false) (s := .v (lkV ok z false)) ?_ rfl (h2 (by rw [hg]; rfl))
        simp only [SV.val] at ex
        cases ok <;> simp [execOp, ho, ex, ey, Instr.lookup, run_underlying ht, MapKept.run_getObj_map hb, hc, hf, hzv, lkV]
      | some p =>
        rw [hfm] at hf hg
        refine gives_pure hR (v := lkV ok p.2 true) (s := .v (lkV ok p.2 true)) ?_ rfl (h1 p.2 (by rw [hg]; rfl))
        simp only [SV.val] at ex
        cases ok <;> simp [execOp, ho, ex, ey, Instr.lookup, run_underlying ht, MapKept.run_getObj_map hb, hc, hf, lkV]
    · exact h.elim
  · obtain ⟨hku, h⟩ := h
    have hc := key_check (P := P) (w := w) true hk hku
    have hf := find_key (P := P) (w := w) hk hku [] (by simp)
    refine gives_pure hR (v := lkV ok z false) (s := .v (lkV ok z false)) ?_ rfl h
    simp only [SV.val] at ex
    cases ok <;> simp [execOp, ho, ex, ey, Instr.lookup, run_underlying ht, hc, hf, hzv, lkV, mfind]
  · exact h.elim

theorem R_setMap {key b : Nat} {kk : KK} {m m' : List (Value × Value)} {es : Array MapEntry} {clock : Nat} (hR : R w0 fp0 L w) (h : mapAt key L = some (b, kk, m)) (hes : es.toList.map (fun e => (e.key, e.val)) = m') (hks : ∀ p ∈ m', keyOk kk p.1) :
    R w0 fp0 (setMap key m' L) { w with heap := w.heap.setIfInBounds b (.map es clock) } := by
  obtain ⟨es0, c0, hb, _, _⟩ := map_ent hR h
  obtain ⟨L', h1, h2⟩ := mapAt_perm h
  have hs := MapKept.heap_set (o' := .map es clock) hb
  refine R.perm (R.write (e' := .mapE key b kk m') (hR.perm h1) (by simp [Ent.fp]) (by simp [Ent.fp]) ⟨es, clock, hs.1, hes, hks⟩ (by simp) rfl rfl rfl (fun b' hb' => hs.2 b' (by simpa [Ent.fp] using hb'))) (h2 m').symm

theorem does_mup {t kt et : TypeId} {x y z : Operand} {kk : KK} (ho : o.op = .mapUpdate t x y z) (ht : P.underlying t = some (.map kt et)) (hk : keyTy P kt = some kk)
    (hA : Agree n e a) (hR : R w0 fp0 L w) (h : VI P w0 fp0 (.mup kk (cX x) (cX y) (cX z)) e L k) : ∃ w', (execOp a.eval o).run P w = .ok .skip w' ∧ Fin w0 fp0 k undef w' := by
  simp only [VI] at h
  obtain ⟨s, hp, h'⟩ := gA_elim h
  clear h
  obtain ⟨u, hq, h''⟩ := gA_elim h'
  clear h'
  obtain ⟨v, hr, h⟩ := gA_elim h''
  clear h''
  have ex := ev_eval hA hp
  have ey := ev_eval hA hq
  have ez := ev_eval hA hr
  split at h
  · rename_i key b
    split at h
    · rename_i b' kk' m hm
      obtain ⟨⟨rfl, rfl, hku⟩, h⟩ := h
      obtain ⟨es, clock, hb, hes, hks⟩ := map_ent hR hm
      have hks' : ∀ e ∈ es.toList, keyOk kk' e.key := fun e he => hks (e.key, e.val) (by rw [← hes]; exact List.mem_map_of_mem he)
      have hf := find_key (P := P) (w := w) hk hku es.toList hks'
      have hc := key_check (P := P) (w := w) false hk hku
      simp only [SV.val] at ex
      cases hfm : mfind es.toList u.val 0 with
      | none =>
        rw [hfm] at hf
        have hms := mfind_none es.toList 0 hfm v.val
        rw [hes] at hms
        refine ⟨{ w with heap := w.heap.setIfInBounds b' (.map (es.push { key := u.val, val := v.val, born := clock }) (clock + 1)) }, ?_, .v undef, _, rfl, ?_, h⟩
        · simp [execOp, ho, ex, ey, ez, Instr.mapUpdate, run_underlying ht, MapKept.run_getObj_map hb, hc, hf, MapKept.run_setObj_map _ hb]
        · exact R_setMap hR hm (by simp [hms, hes]) (mset_ok hku m hks)
      | some p =>
        obtain ⟨i, v0⟩ := p
        rw [hfm] at hf
        obtain ⟨q, e0, h1, h2, h3, h4, h5⟩ := mfind_some hku es.toList 0 hks' hfm
        have hi : i = q := by omega
        subst hi
        have hms := h5 v.val
        rw [hes] at hms
        have hst := key_stays (P := P) (w := w) hku
        have hget : es[i]? = some e0 := by rw [← Array.getElem?_toList]; exact h2
        refine ⟨{ w with heap := w.heap.setIfInBounds b' (.map (es.modify i fun e => { e with key := u.val, val := v.val }) clock) }, ?_, .v undef, _, rfl, ?_, h⟩
        · simp [execOp, ho, ex, ey, ez, Instr.mapUpdate, run_underlying ht, MapKept.run_getObj_map hb, hc, hf, MapKept.run_setObj_map _ hb, hget, h3, hst]
        · exact R_setMap hR hm (by rw [hms, Array.toList_modify]) (mset_ok hku m hks)
    · exact h.elim
  · exact h.elim

theorem does_mkm {t kt et : TypeId} {r : Option Operand} {kk : KK} {key : Nat} (ho : o.op = .makeMap t r) (ht : P.underlying t = some (.map kt et)) 
    (hA : Agree n e a) (hR : R w0 fp0 L w) (h : VI P w0 fp0 (.mkm key kk (r.map cX)) e L k) : Gives P w0 fp0 o a w k := by
  simp only [VI] at h
  refine ⟨.map (some w.heap.size), w.alloc (.map #[] 0), ?_, .mp key w.heap.size, .mapE key w.heap.size kk [] :: L, rfl, ?_, ?_⟩
  · cases r with
    | none => simp [execOp, ho, Instr.makeMap]
    | some y =>
      obtain ⟨kl, l, hl, h⟩ := gNum_elim h
      have ey := ev_eval hA hl
      simp only [SV.val] at ey
      simp [execOp, ho, Instr.makeMap, run_underlying ht, ey, asInt, asIntOf]
  · exact hR.alloc _ _ rfl ⟨#[], 0, heap_alloc_new w _, rfl, by simp⟩
  · cases r with
    | none => exact h _
    | some y =>
      obtain ⟨kl, l, hl, h⟩ := gNum_elim h
      exact h _

theorem does_tas {x : Operand} {xt t : TypeId} {ok : Bool} {j : TypeInfo} {z : Value} (ho : o.op = .typeAssert x xt t ok) (ht : isIfc P t = false) (hj : P.info? t = some j) (hz : j.zero = some z)
    (hA : Agree n e a) (hR : R w0 fp0 L w) (h : VI P w0 fp0 (.tas t ok z (cX x)) e L k) : GivesP P w0 fp0 o a w k := by
  simp only [VI] at h
  obtain ⟨s, hp, h'⟩ := gA_elim h
  clear h
  have ex := ev_eval hA hp
  have hzv : (zeroValue t).run P w = .ok z w := by simp [zeroValue, typeInfo, hj, hz]
  obtain ⟨d, hd, hni⟩ : ∃ d, P.underlying t = some d ∧ ∀ m, d ≠ .interface m := by
    unfold isIfc at ht
    split at ht
    · cases ht
    · rename_i d hni hd
      exact ⟨d, hd, fun m hm => hni m hm⟩
    · cases ht
  split at h'
  · rename_i T v
    simp only [SV.val] at ex
    by_cases hT : T = t
    · subst hT
      refine gives_pure hR (v := lkV ok v true) (s := .v (lkV ok v true)) ?_ rfl (h'.1 rfl)
      cases d <;> first | exact absurd rfl (hni _) | (cases ok <;> simp [execOp, ho, ex, Instr.typeAssert, run_underlying hd, lkV])
    · obtain ⟨rfl, h'⟩ := h'.2 hT
      refine gives_pure hR (v := lkV true z false) (s := .v (lkV true z false)) ?_ rfl h'
      cases d <;> first | exact absurd rfl (hni _) | simp [execOp, ho, ex, Instr.typeAssert, run_underlying hd, hT, hzv, lkV]
  · obtain ⟨rfl, h'⟩ := h'
    simp only [SV.val] at ex
    refine gives_pure hR (v := lkV true z false) (s := .v (lkV true z false)) ?_ rfl h'
    cases d <;> first | exact absurd rfl (hni _) | simp [execOp, ho, ex, Instr.typeAssert, run_underlying hd, hzv, lkV]
  · exact h'.elim

theorem ownsRow_cut {e : TypeId} {size m : Nat} {a : Option Addr} {n c : Nat} {xs : List Value} (h : w.ownsRow 0 e size (.slice a n c) n xs) (hm : m ≤ n) : w.ownsRow 0 e size (.slice a m c) m (xs.take (m * size)) := by
  obtain ⟨h1, h2⟩ := h
  have hle : m * size ≤ n * size := Nat.mul_le_mul_right _ hm
  refine ⟨by simp; omega, ?_⟩
  rcases h2 with ⟨h2, rfl⟩ | ⟨g, cap, cur, hv, hg, hh, h3, h4, h5, h6⟩
  · simp only [Value.slice.injEq] at h2
    obtain ⟨rfl, _, rfl⟩ := h2
    have : m = 0 := by omega
    subst this
    exact .inl ⟨rfl, rfl⟩
  · simp only [Value.slice.injEq] at hv
    obtain ⟨rfl, _, rfl⟩ := hv
    refine .inr ⟨g, _, cur, rfl, hg, hh, by omega, h4, h5, ?_⟩
    rw [← h6, List.take_take, Nat.min_eq_left hle]

theorem does_slo {t el : TypeId} {x : Operand} {hi : Option Operand} {j : TypeInfo} (ho : o.op = .slice t x none hi none) (ht : P.underlying t = some (.slice el)) (hj : P.info? el = some j)
    (hA : Agree n e a) (hR : R w0 fp0 L w) (h : VI P w0 fp0 (.slo j.size (cX x) (hi.map cX)) e L k) : Gives P w0 fp0 o a w k := by
  simp only [VI] at h
  obtain ⟨s, hp, h'⟩ := gA_elim h
  clear h
  split at h'
  · rename_i key ad m c
    split at h'
    · rename_i ow hown
      have hk : ∃ hv : Int, ((ow.a = ad ∧ ow.c = c ∧ ow.sz = j.size ∧ 0 ≤ hv ∧ hv ≤ ow.n) ∧ k (.sl key ad hv.toNat c) (setOwn key ad hv.toNat c (ow.xs.take (hv.toNat * j.size)) L)) ∧
          ∀ K : Int → Prop, K hv → gOpt e (hi.map cX) m K := by
        cases hi with
        | none => exact ⟨m, h', fun K hK => hK⟩
        | some y =>
          obtain ⟨kl, l, hl, hh⟩ := gNum_elim h'
          exact ⟨l, hh, fun K hK => by simp only [Option.map_some, gOpt, hl]; exact hK⟩
      obtain ⟨hv, ⟨⟨e1, e2, e3, h1, h2⟩, hk⟩, hK⟩ := hk
      have h3 : ow.n ≤ c := by
        rcases (own_row hR hown).2 with ⟨_, h⟩ | ⟨g, cap, cur, hv', _, _, hcap, _⟩
        · omega
        · simp only [Value.slice.injEq] at hv'
          omega
      have hs := does_slc (P := P) (w0 := w0) (fp0 := fp0) (L := L) (k := fun s _ => s = .v (.slice ad hv.toNat c)) (lo := none) ho ht hj hA hR (by
        simp only [VI, hp, gA]
        refine hK _ ⟨⟨by omega, h1, by omega⟩, ?_⟩
        have : offA ad c (0 : Int).toNat j.size = ad := by
          unfold offA
          split
          · rfl
          · cases ad with
            | none => rfl
            | some ad => simp [Addr.add]
        simp only [this]
        simp)
      obtain ⟨v, hrun, s', L', hv', _, hs'⟩ := hs
      subst hs'
      refine ⟨v, w, hrun, .sl key ad hv.toNat c, _, hv', ?_, hk⟩
      obtain ⟨oa, on, oc, oT, osz, oxs⟩ := ow
      simp only at e1 e2 e3 h2 h3
      subst e1 e2 e3
      obtain ⟨L1, p1, p2⟩ := ownAt_perm hown
      have hR1 := hR.perm p1
      have hok : w.ownsRow 0 oT j.size (.slice oa on oc) on oxs := hR1.ok _ List.mem_cons_self
      have hcut := ownsRow_cut hok (m := hv.toNat) (by omega)
      refine R.perm (R.write (e' := .own key oa hv.toNat oc oT j.size (oxs.take (hv.toNat * j.size))) hR1 ?_ ?_ hcut rfl rfl rfl rfl (fun _ _ => rfl)) (p2 _ _ _ _).symm
      · intro b hb; cases oa <;> simp [Ent.fp, Value.ownBlock] at hb ⊢ <;> exact hb
      · cases oa <;> simp [Ent.fp, Value.ownBlock]
    · exact h'.elim
  · exact h'.elim

theorem zeroCells_eq (z : Array Value) (m sz : Nat) (hz : z.size = sz) (hs : 0 < sz) : (Builtin.zeroCells z m).toList = (List.replicate m z.toList).flatten := by
  subst hz
  exact madeCells_eq z m _ rfl hs

/-- Appending the elements of a new slice: of zeros. -/
theorem appz_run {t ti ty el : TypeId} {j : TypeInfo} {z : Value} {ki : IntKind} {kv : IntKind} (ht : P.underlying t = some (.slice el)) (hti : P.underlying ti = some (.int ki)) (hj : P.info? el = some j) (hz : j.zero = some z) (hzs : z.cells.size = j.size) (hpos : 0 < j.size)
    {a : Option Addr} {n c : Nat} {xs : List Value} (hown : w.ownsRow 0 el j.size (.slice a n c) n xs) (m : Nat)
    (h1 : ∀ u ∈ (List.replicate m z.cells.toList).flatten, u.oneCell' = true) (h63 : n + m ≤ maxLen) (hbytes : (n + m) * j.bytes ≤ 140737488355328) :
    ∃ a' c' w', (Builtin.append_ #[t, ti] ty #[.slice a n c, .int kv (m : Int)]).run P w = .ok (.slice a' (n + m) c') w' ∧ w'.ownsRow 0 el j.size (.slice a' (n + m) c') (n + m) (xs ++ (List.replicate m z.cells.toList).flatten) ∧ w.grownBy w' (Value.slice a n c).ownBlock ∧
      (∀ g, (Value.slice a' (n + m) c').ownBlock = some g → (Value.slice a n c).ownBlock = some g ∨ (w.heap.size ≤ g ∧ g < w'.heap.size)) := by
  have hgref : w.grownBy w (Value.slice a n c).ownBlock := ⟨rfl, rfl, rfl, Nat.le_refl _, fun _ _ _ => rfl⟩
  have hsmall : n + m ≤ 9223372036854775807 := by simp only [maxLen] at h63; omega
  have hwrap : IntKind.i64.wrap (m : Int) = (m : Int) := by
    have h64 : (m : Int) % 2 ^ 64 = m := by omega
    have hng : ¬ ((m : Int) ≥ 2 ^ (64 - 1)) := by omega
    simp only [IntKind.wrap, IntKind.bits, IntKind.signed, h64, decide_eq_false hng, Bool.and_false, Bool.false_eq_true, if_false]
  have hlt0 : ¬ ((m : Int) < 0) := by omega
  have hmb : m * j.bytes ≤ 140737488355328 := Nat.le_trans (Nat.mul_le_mul_right _ (by omega)) hbytes
  have hb48 : ¬ (281474976710656 < (m : Int) * (j.bytes : Int)) := by
    have : ((m * j.bytes : Nat) : Int) = (m : Int) * (j.bytes : Int) := by simp
    omega
  generalize hys : (List.replicate m z.cells.toList).flatten = ys at h1 ⊢
  have hzc : (Builtin.zeroCells z.cells m).toList = ys := by rw [zeroCells_eq z.cells m j.size hzs hpos]; exact hys
  have hl : ys.length = m * j.size := by rw [← hys]; simp [hzs]
  have hlen : (xs ++ ys).length = (n + m) * j.size := by rw [List.length_append, hown.1, hl, Nat.add_mul]
  have hzc' : Builtin.zeroCells z.cells m = ys.toArray := by rw [← hzc]
  by_cases hm : m = 0
  · subst hm
    have hy : ys = [] := List.eq_nil_of_length_eq_zero (by simpa using hl)
    subst hy
    refine ⟨a, c, w, ?_, by simpa using hown, hgref, fun g hg => .inl hg⟩
    rcases hown.2 with ⟨h2, h3⟩ | ⟨g, cap, cur, h2, _, _, hnc, _⟩
    · simp only [Value.slice.injEq] at h2
      obtain ⟨rfl, rfl, rfl⟩ := h2
      simp [Builtin.append_, run_underlying ht, run_underlying hti, sizeOf, typeInfo, hj, asInt, asIntOf, IntKind.wrap, IntKind.bits, IntKind.signed]
    · simp only [Value.slice.injEq] at h2
      obtain ⟨rfl, _, rfl⟩ := h2
      simp [Builtin.append_, run_underlying ht, run_underlying hti, sizeOf, typeInfo, hj, asInt, asIntOf, IntKind.wrap, IntKind.bits, IntKind.signed, hnc, storeCells]
  · have hmz : ¬ (m * j.size = 0) := fun h => by
      have := Nat.mul_pos (Nat.pos_of_ne_zero hm) hpos
      omega
    have grown : ∀ (old : Nat), old < n + m → ∀ (row : Option Nat),
        (w.drew.alloc (.cells (xs.toArray ++ ys.toArray ++ Builtin.zeroCells z.cells (grownCap w (n + m) old el - (n + m))) el)).ownsRow 0 el j.size
          (.slice (some ⟨w.heap.size, 0, none⟩) (n + m) (grownCap w (n + m) old el)) (n + m) (xs ++ ys) ∧
        w.grownBy (w.drew.alloc (.cells (xs.toArray ++ ys.toArray ++ Builtin.zeroCells z.cells (grownCap w (n + m) old el - (n + m))) el)) row := by
      intro old ho row
      have hge := grownCap_ge w (n + m) old el
      have hcm : grownCap w (n + m) old el ≤ maxLen := grownCap_le_maxLen w (n + m) old el h63
      refine ⟨⟨hlen, .inr ⟨w.heap.size, _, _, rfl, Nat.zero_le _, heap_alloc_new w.drew _, hge, hcm, ?_, ?_⟩⟩, ⟨rfl, rfl, rfl, by simp, fun k hk _ => heap_alloc_old w.drew _ hk⟩⟩
      · simp only [Array.size_append, List.size_toArray, size_zeroCells, hzs, hown.1, hl, ← Nat.add_mul]
        congr 1
        omega
      · simp only [Array.toList_append, List.append_assoc]
        rw [← List.append_assoc, ← hlen]
        exact List.take_left
    rcases hown.2 with ⟨h2, h3⟩ | ⟨g, cap, cur, h2, _, hg, hnc, hcm, hcs, htake⟩
    · simp only [Value.slice.injEq] at h2
      obtain ⟨rfl, rfl, rfl⟩ := h2
      have hx : xs = [] := List.eq_nil_of_length_eq_zero (by simpa using hown.1)
      subst hx
      have hgr := grown 0 (by omega) (Value.ownBlock (.slice none 0 0))
      have h48' : ¬ (281474976710656 < Builtin.nextslicecap m 0 * j.bytes) := by rw [nextslicecap_zero (by omega)]; omega
      have h63' : ¬ (9223372036854775807 < (m : Int)) := by omega
      simp only [Nat.zero_add, List.nil_append, Array.empty_append] at hgr ⊢
      refine ⟨some ⟨w.heap.size, 0, none⟩, grownCap w m 0 el, _, ?_, hgr.1, hgr.2, fun g hg => ?_⟩
      · simp [Builtin.append_, run_underlying ht, run_underlying hti, sizeOf, typeInfo, zeroValue, hj, hz, asInt, asIntOf, hwrap, hlt0, hb48, hm, h63', h48', Question.forced, run_firstCells_none, hmz, newRow, grownCap, hzc', Nat.ne_of_gt hpos]
      · simp only [Value.ownBlock, Option.some.injEq] at hg
        exact .inr ⟨by omega, by simp; omega⟩
    · simp only [Value.slice.injEq] at h2
      obtain ⟨rfl, _, rfl⟩ := h2
      by_cases hroom : n + m ≤ c
      · have hfit : n * j.size + ys.length ≤ cur.size := by rw [hl, hcs, ← Nat.add_mul]; exact Nat.mul_le_mul_right _ hroom
        have hst := run_storeCells_at P g (n * j.size) el ys 0 cur w hg (by simpa using hfit) h1
        simp only [Nat.add_zero] at hst
        refine ⟨some ⟨g, 0, none⟩, c, w.setRow g (cur.toList.take (n * j.size) ++ ys ++ cur.toList.drop (n * j.size + ys.length)).toArray, ?_, ⟨hlen, .inr ⟨g, c, _, rfl, Nat.zero_le _, setRow_heap w g cur _ el _ hg, hroom, hcm, ?_, ?_⟩⟩, ⟨rfl, rfl, rfl, by simp, fun k _ hk => setRow_other w g k _ (fun e => hk (by simp [Value.ownBlock, e]))⟩, fun g' hg' => .inl hg'⟩
        · simp [Builtin.append_, run_underlying ht, run_underlying hti, sizeOf, typeInfo, zeroValue, hj, hz, asInt, asIntOf, hwrap, hlt0, hb48, hroom, hmz, Nat.ne_of_gt hpos, hm, hzc', Addr.add_lit, hst]
        · simp only [List.size_toArray, List.length_append, List.length_take, List.length_drop, Array.length_toList]
          omega
        · rw [htake, ← hlen]
          exact List.take_left
      · have holds : ∀ i u, xs[i]? = some u → w.cell? ((⟨g, 0, none⟩ : Addr).add i) = some u := hown.cells (g := g) rfl
        have hfo := run_firstCells_some (P := P) w.drew j.size n ⟨g, 0, none⟩ n c xs hown.1 (by simpa using holds)
        have h48' : ¬ (281474976710656 < Builtin.nextslicecap (n + m) c * j.bytes) := by
          have := growslice_fits (need := n + m) (old := c) (bytes := j.bytes) (by omega) hbytes
          omega
        have h63' : ¬ (9223372036854775807 < ((n : Int) + (m : Int))) := by omega
        have hgr := grown c (by omega) (Value.ownBlock (.slice (some ⟨g, 0, none⟩) n c))
        refine ⟨some ⟨w.heap.size, 0, none⟩, grownCap w (n + m) c el, _, ?_, hgr.1, hgr.2, fun g hg => ?_⟩
        · simp [Builtin.append_, run_underlying ht, run_underlying hti, sizeOf, typeInfo, zeroValue, hj, hz, asInt, asIntOf, hwrap, hlt0, hb48, hroom, hmz, Nat.ne_of_gt hpos, hm, h63', h48', Question.forced, hfo, newRow, grownCap, hzc']
          congr 2
          apply Array.ext'
          simp [List.append_assoc]
        · simp only [Value.ownBlock, Option.some.injEq] at hg
          exact .inr ⟨by omega, by simp; omega⟩

theorem does_apz {t ti el key : TypeId} {ki : IntKind} {x y : Operand} {j : TypeInfo} {z : Value} (ho : o.op = .call { callee := .builtin .append, args := #[x, y], argTypes := #[t, ti] }) (ht : P.underlying t = some (.slice el)) (hti : P.underlying ti = some (.int ki)) (hj : P.info? el = some j) (hz : j.zero = some z)
    (hzs : z.cells.size = j.size) (hpos : 0 < j.size) (hA : Agree n e a) (hR : R w0 fp0 L w) (h : VI P w0 fp0 (.apz key el j.size j.bytes z.cells.toList (cX x) (cX y)) e L k) : Gives P w0 fp0 o a w k := by
  simp only [VI] at h
  obtain ⟨s, hp, h'⟩ := gA_elim h
  clear h
  obtain ⟨kv, q, hq, ⟨h0, hone⟩, h⟩ := gNum_elim h'
  clear h'
  have ex := ev_eval hA hp
  have ey := ev_eval hA hq
  simp only [SV.val] at ey
  obtain ⟨m, rfl⟩ := Int.eq_ofNat_of_zero_le h0
  simp only [Int.ofNat_eq_natCast, Int.toNat_natCast] at *
  have hone' : ∀ u ∈ (List.replicate m z.cells.toList).flatten, u.oneCell' = true := fun u hu => by
    obtain ⟨l, hl, hu⟩ := List.mem_flatten.1 hu
    rw [List.eq_of_mem_replicate hl] at hu
    exact oneAll_iff hone u hu
  have fin : ∀ (a' : Option Addr) (c' : Nat × Nat) (w' : World) (sv : Value), s.val = sv → (Builtin.append_ #[t, ti] o.type #[sv, .int kv m]).run P w = .ok (.slice a' c'.1 c'.2) w' → Fin w0 fp0 k (.slice a' c'.1 c'.2) w' → Gives P w0 fp0 o a w k := fun a' c' w' sv hs hr hf => by
    refine ⟨_, w', ?_, hf⟩
    subst hs
    simp only [execOp, ho, resolve, invoke, builtin, Sem.run_bind, Sem.run_pure, Result.andThen_ok, List.map_toArray, List.map_cons, List.map_nil, ex, ey, hr]
  split at h
  · rename_i key' a1 n1 c1
    split at h
    · rename_i ow hb
      obtain ⟨⟨rfl, rfl, rfl, hT, hS⟩, ⟨h63, hby⟩, hk⟩ := h
      have hrow := own_row hR hb
      rw [hT, hS] at hrow
      obtain ⟨a', c', w', hrun, hown, hg, hf⟩ := appz_run (P := P) (ty := o.type) (kv := kv) ht hti hj hz hzs hpos hrow m hone' h63 hby
      refine fin a' (ow.n + m, c') w' _ rfl hrun ⟨.sl key' a' (ow.n + m) c', _, rfl, R_app hR hb (by rw [hT, hS]; exact hown) hg hf, hk a' c'⟩
    · exact h.elim
  · obtain ⟨⟨h63, hby⟩, hk⟩ := h
    have hrow : w.ownsRow 0 el j.size (.slice none 0 0) 0 [] := World.ownsRow_nil _ _ _ _
    obtain ⟨a', c', w', hrun, hown, hg, hf⟩ := appz_run (P := P) (ty := o.type) (kv := kv) ht hti hj hz hzs hpos hrow m hone' (by omega) (by simpa using hby)
    have hR' := hR.ownNil key el j.size
    have hb' : ownAt key (.own key none 0 0 el j.size [] :: L) = some ⟨none, 0, 0, el, j.size, []⟩ := by simp [ownAt]
    have hfin := R_app (a' := a') (m := m) (c' := c') (ys := (List.replicate m z.cells.toList).flatten) hR' hb' hown hg hf
    simp only [setOwn, if_true, Nat.zero_add, List.nil_append] at hfin
    refine fin a' (m, c') w' _ rfl (by simpa [SV.val] using hrun) ⟨.sl key a' m c', _, rfl, hfin, hk a' c'⟩
  · exact h.elim
end
end Go.EG
