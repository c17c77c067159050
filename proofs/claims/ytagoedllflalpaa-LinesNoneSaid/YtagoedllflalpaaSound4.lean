/- The fourth part of 'what the small form asks is enough': slicing, equality of structs and pointers. Generic over the program: no condition. -/
import Derived.Test.YtagoedllflalpaaSound3
namespace Go.EG
open Go.RowKit
set_option linter.unusedVariables false
set_option linter.unusedSimpArgs false

section
variable {P : Program} {w0 : World} {fp0 : List Nat} {n : Nat} {e : Env} {a : Act} {L : List Ent} {w : World} {k : SV → List Ent → Prop} {o : Oper}

theorem does_slc {t el : TypeId} {x : Operand} {lo hi : Option Operand} {j : TypeInfo} (ho : o.op = .slice t x lo hi none) (ht : P.underlying t = some (.slice el)) (hj : P.info? el = some j)
    (hA : Agree n e a) (hR : R w0 fp0 L w) (h : VI P w0 fp0 (.slc j.size (cX x) (lo.map cX) (hi.map cX)) e L k) : GivesP P w0 fp0 o a w k := by
  simp only [VI] at h
  obtain ⟨s, hp, h⟩ := gA_elim h
  have ex := ev_eval hA hp
  have hlo : ∀ {K : Int → Prop}, gOpt e (lo.map cX) 0 K → ∃ l : Int, K l ∧ (lo = none ∧ l = 0 ∨ ∃ y kl, lo = some y ∧ a.eval y = .int kl l) := fun {K} hh => by
    cases lo with
    | none => exact ⟨0, hh, .inl ⟨rfl, rfl⟩⟩
    | some y =>
      obtain ⟨kl, l, hl, hh⟩ := gNum_elim hh
      exact ⟨l, hh, .inr ⟨y, kl, rfl, ev_eval hA hl⟩⟩
  have hhi : ∀ {m : Nat} {K : Int → Prop}, gOpt e (hi.map cX) m K → ∃ l : Int, K l ∧ (hi = none ∧ l = m ∨ ∃ y kl, hi = some y ∧ a.eval y = .int kl l) := fun {m K} hh => by
    cases hi with
    | none => exact ⟨m, hh, .inl ⟨rfl, rfl⟩⟩
    | some y =>
      obtain ⟨kl, l, hl, hh⟩ := gNum_elim hh
      exact ⟨l, hh, .inr ⟨y, kl, rfl, ev_eval hA hl⟩⟩
  obtain ⟨l, h, hl⟩ := hlo h
  have key : ∀ (ad : Option Addr) (m c : Nat), s.val = .slice ad m c → gOpt e (hi.map cX) m (fun h => (0 ≤ l ∧ l ≤ h ∧ h ≤ c) ∧ k (.v (.slice (offA ad c l.toNat j.size) (h.toNat - l.toNat) (c - l.toNat))) L) → GivesP P w0 fp0 o a w k := fun ad m c hs hh => by
    obtain ⟨hv, ⟨⟨c1, c2, c3⟩, hk⟩, hz⟩ := hhi hh
    clear hh h hlo hhi
    refine gives_pure hR (v := .slice (offA ad c l.toNat j.size) (hv.toNat - l.toNat) (c - l.toNat)) ?_ rfl hk
    have sb : ∀ (kk : IntKind) (i : Int) (y : Nat) (code : BoundsCode), 0 ≤ i → i ≤ y → (Instr.sliceBound (.int kk i) y code).run P w = .ok i.toNat w := fun kk i y code h0 h1 => run_sliceBound w kk i y code h0 h1
    have hb : (Instr.sliceBounds true m c (lo.map a.eval) (hi.map a.eval) none).run P w = .ok (l.toNat, hv.toNat, c) w := by
      have hle : l ≤ ((hv.toNat : Nat) : Int) := by omega
      rcases hl with ⟨rfl, rfl⟩ | ⟨y, kl, rfl, hy⟩ <;> rcases hz with ⟨rfl, rfl⟩ | ⟨y', kh, rfl, hy'⟩
      · simp [Instr.sliceBounds]
      · simp only [Instr.sliceBounds, Option.map_none, Option.map_some, hy', Sem.run_bind, Sem.run_pure, Result.andThen_ok, sb kh hv c _ (by omega) c3, if_true]; simp
      · simp only [Instr.sliceBounds, Option.map_none, Option.map_some, hy, Sem.run_bind, Sem.run_pure, Result.andThen_ok]
        rw [sb kl l m _ c1 c2]; simp
      · simp only [Instr.sliceBounds, Option.map_none, Option.map_some, hy, hy', Sem.run_bind, Sem.run_pure, Result.andThen_ok, sb kh hv c _ (by omega) c3, if_true]
        rw [sb kl l hv.toNat _ c1 hle]; simp
    simp only [execOp, ho, Instr.sliceAt, Instr.slice, run_underlying ht, ex, hs, Option.map_none, Sem.run_bind, Result.andThen_ok, hb, sizeOf, typeInfo, hj, run_program, Sem.run_pure, offA]
  split at h
  · exact key _ _ _ rfl h
  · exact key _ _ _ rfl h
  · exact h.elim

theorem does_fld {t : TypeId} {x : Operand} {f : Nat} {fs : Array Field} {fd : Field} {lk : LK} (ho : o.op = .field t x f) (ht : P.underlying t = some (.struct fs)) (hf : fs[f]? = some fd) (hlk : lkOf P fd.type = some lk)
    (hA : Agree n e a) (hR : R w0 fp0 L w) (h : VI P w0 fp0 (.fld fd.offset lk (cX x)) e L k) : GivesP P w0 fp0 o a w k := by
  simp only [VI] at h
  obtain ⟨s, hp, h⟩ := gA_elim h
  have ex := ev_eval hA hp
  split at h
  · rename_i cs
    obtain ⟨v, hv, h⟩ := gV_elim h
    rw [nth_eq, Array.getElem?_toList] at hv
    simp only [SV.val] at ex
    refine gives_pure hR (s := .v v) ?_ rfl h
    have hpart : (part fd.type cs fd.offset).run P w = .ok v w := by
      unfold lkOf at hlk
      cases hu : P.underlying fd.type with
      | none => simp [hu] at hlk
      | some d => cases d <;> simp [hu] at hlk <;> simp [part, isAgg, run_underlying hu, hv]
    simp only [execOp, ho, Instr.field, run_underlying ht, Sem.run_bind, Result.andThen_ok, hf, ex, asAgg, Sem.run_pure, hpart, SV.val]
  · exact h.elim

theorem okCells_nil {xs ys : List Value} (h : okCells xs ys []) : xs = [] ∧ ys = [] := by
  unfold okCells at h
  split at h
  · rename_i heq; cases heq
  · rename_i heq; cases heq
  · exact ⟨rfl, rfl⟩
  · exact h.elim
theorem okCells_int {xs ys : List Value} {kd : IntKind} {ks : List LK} (h : okCells xs ys (.int kd :: ks)) : ∃ p q xs' ys', xs = .int kd p :: xs' ∧ ys = .int kd q :: ys' ∧ okCells xs' ys' ks := by
  unfold okCells at h
  split at h
  · rename_i heq
    simp only [List.cons.injEq, LK.int.injEq] at heq
    obtain ⟨rfl, rfl⟩ := heq
    obtain ⟨⟨rfl, rfl⟩, h⟩ := h
    exact ⟨_, _, _, _, rfl, rfl, h⟩
  · rename_i heq; cases heq
  · rename_i heq; cases heq
  · exact h.elim
theorem okCells_bool {xs ys : List Value} {ks : List LK} (h : okCells xs ys (.bool :: ks)) : ∃ p q xs' ys', xs = .bool p :: xs' ∧ ys = .bool q :: ys' ∧ okCells xs' ys' ks := by
  unfold okCells at h
  split at h
  · rename_i heq; cases heq
  · rename_i heq
    simp only [List.cons.injEq, true_and] at heq
    subst heq
    exact ⟨_, _, _, _, rfl, rfl, h⟩
  · rename_i heq; cases heq
  · exact h.elim

theorem drop_head {xs : Array Value} {m : Nat} {v : Value} {l : List Value} (h : xs.toList.drop m = v :: l) : xs[m]? = some v ∧ xs.toList.drop (m + 1) = l := by
  constructor
  · have := congrArg (fun l => l[0]?) h
    simpa using this
  · have := congrArg List.tail h
    simpa using this

theorem eqFields_run {d : Nat} {xs ys : Array Value} : ∀ (fs : List Field) (m : Nat) (ks : List LK), fieldKs P fs m = some ks → okCells (xs.toList.drop m) (ys.toList.drop m) ks →
    (Op.eqFields (d + 1) xs ys fs).run P w = .ok (eqCells (xs.toList.drop m) (ys.toList.drop m)) w
  | [], m, ks, hk, hok => by
    simp only [fieldKs, Option.some.injEq] at hk
    subst hk
    obtain ⟨h1, h2⟩ := okCells_nil hok
    rw [h1, h2]
    simp [Op.eqFields, eqCells]
  | f :: fs, m, ks, hk, hok => by
    simp only [fieldKs] at hk
    split at hk
    · rename_i hcond
      obtain ⟨hoff, hname⟩ := hcond
      have hnm : f.name ≠ "_" := by simpa using hname
      split at hk
      · rename_i kd hu
        obtain ⟨ks', hks', rfl⟩ := Option.map_eq_some_iff.1 hk
        obtain ⟨p, q, lx, ly, hx, hy, hok'⟩ := okCells_int hok
        obtain ⟨ex, ex'⟩ := drop_head hx
        obtain ⟨ey, ey'⟩ := drop_head hy
        have ih := eqFields_run (d := d) (xs := xs) (ys := ys) fs (m + 1) ks' hks' (by rw [ex', ey']; exact hok')
        rw [ex', ey'] at ih
        rw [hx, hy]
        have p1 : (part f.type xs f.offset).run P w = .ok (.int kd p) w := by simp [part, isAgg, run_underlying hu, hoff, ex]
        have p2 : (part f.type ys f.offset).run P w = .ok (.int kd q) w := by simp [part, isAgg, run_underlying hu, hoff, ey]
        simp only [Op.eqFields, if_pos hnm, Sem.run_bind, p1, p2, Result.andThen_ok, run_equalIn_int w d _ _ _ p q hu, eqCells]
        by_cases hpq : p = q
        · simp [hpq, ih]
        · simp [hpq]
      · rename_i hu
        obtain ⟨ks', hks', rfl⟩ := Option.map_eq_some_iff.1 hk
        obtain ⟨p, q, lx, ly, hx, hy, hok'⟩ := okCells_bool hok
        obtain ⟨ex, ex'⟩ := drop_head hx
        obtain ⟨ey, ey'⟩ := drop_head hy
        have ih := eqFields_run (d := d) (xs := xs) (ys := ys) fs (m + 1) ks' hks' (by rw [ex', ey']; exact hok')
        rw [ex', ey'] at ih
        rw [hx, hy]
        have p1 : (part f.type xs f.offset).run P w = .ok (.bool p) w := by simp [part, isAgg, run_underlying hu, hoff, ex]
        have p2 : (part f.type ys f.offset).run P w = .ok (.bool q) w := by simp [part, isAgg, run_underlying hu, hoff, ey]
        simp only [Op.eqFields, if_pos hnm, Sem.run_bind, p1, p2, Result.andThen_ok, run_equalIn_bool' w d _ p q hu, eqCells]
        by_cases hpq : p = q
        · simp [hpq, ih]
        · simp [hpq]
      · cases hk
    · cases hk

theorem does_eqa {op : BinOp} {t yt : TypeId} {x y : Operand} {fs : Array Field} {ks : List LK} (ho : o.op = .binOp op t x y yt) {ng : Bool} (hop : op = if ng then .neq else .eql) (ht : P.underlying t = some (.struct fs)) (hs : P.stoodInHeld t = false) (hg : P.eqGuardType P.depth t = false) (hks : fieldKs P fs.toList 0 = some ks)
    (hA : Agree n e a) (hR : R w0 fp0 L w) (h : VI P w0 fp0 (.eqa ng ks (cX x) (cX y)) e L k) : GivesP P w0 fp0 o a w k := by
  simp only [VI] at h
  obtain ⟨s, hp, h'⟩ := gA_elim h
  clear h
  obtain ⟨u, hq, h⟩ := gA_elim h'
  clear h'
  have ex := ev_eval hA hp
  have ey := ev_eval hA hq
  split at h
  · rename_i p q
    obtain ⟨hok, hk⟩ := h
    simp only [SV.val] at ex ey
    have hft : P.underlying t = some (.struct (P.fieldsOf t)) := by simp [Program.fieldsOf, ht]
    have hfe : P.fieldsOf t = fs := by simp [Program.fieldsOf, ht]
    have he : (Op.equalIn 10000 t (.agg p) (.agg q)).run P w = .ok (eqCells p.toList q.toList) w := by
      rw [show (10000 : Nat) = 9999 + 1 from rfl, run_equalIn_struct w 9999 t p q hft hs, hfe]
      have := eqFields_run (P := P) (w := w) (d := 9998) (xs := p) (ys := q) fs.toList 0 ks hks (by simpa using hok)
      simpa using this
    have hgd := run_eqGuard_agg (P := P) w op t x y p q hg
    cases ng <;> simp only [if_true, Bool.false_eq_true, if_false] at hop <;> subst hop
    · refine gives_pure hR (s := .v (.bool (ngB false (eqCells p.toList q.toList)))) ?_ rfl hk
      simp only [execOp, ho, ex, ey, Sem.run_bind, hgd, Result.andThen_ok, run_eql_struct, he, Sem.run_pure, SV.val, ngB]
    · refine gives_pure hR (s := .v (.bool (ngB true (eqCells p.toList q.toList)))) ?_ rfl hk
      simp only [execOp, ho, ex, ey, Sem.run_bind, hgd, Result.andThen_ok, run_neq_struct, he, Sem.run_pure, SV.val, ngB]
  · exact h.elim

theorem eqi_same {t el : TypeId} {j : TypeInfo} (hd : P.underlying t = some (.pointer el)) (hj : P.info? el = some j) (hpos : ¬ j.size = 0) (d : Nat) (p q : Addr) (hb : p.block = q.block) : (Op.equalIn (d + 1) t (.pointer (some p)) (.pointer (some q))).run P w = .ok (decide (p = q)) w := by
  have : (p == q) = decide (p = q) := by by_cases h : p = q <;> simp [h]
  simp [Op.equalIn, run_underlying hd, sizeOf, typeInfo, hj, hpos, sameAddr, hb, this]

theorem does_eqp {op : BinOp} {t yt el : TypeId} {x y : Operand} {j : TypeInfo} (ho : o.op = .binOp op t x y yt) {ng : Bool} (hop : op = if ng then .neq else .eql) (ht : P.underlying t = some (.pointer el)) (hj : P.info? el = some j) (hpos : 0 < j.size)
    (hA : Agree n e a) (hR : R w0 fp0 L w) (h : VI P w0 fp0 (.eqp ng (cX x) (cX y)) e L k) : GivesP P w0 fp0 o a w k := by
  simp only [VI] at h
  obtain ⟨s, hp, h⟩ := gA_elim h
  obtain ⟨u, hq, p, q, ⟨h1, h2, h3⟩, hk⟩ := gA_elim h
  have ex := (ev_eval hA hp).trans h1
  have ey := (ev_eval hA hq).trans h2
  have he : (Op.equal t (.pointer (some p)) (.pointer (some q))).run P w = .ok (decide (p = q)) w := eqi_same ht hj (by omega) 9999 p q h3
  have hgd : (eqGuard op t x y (.pointer (some p)) (.pointer (some q))).run P w = .ok () w := by cases op <;> simp [eqGuard]
  cases ng <;> simp only [if_true, Bool.false_eq_true, if_false] at hop <;> subst hop
  · refine gives_pure hR (s := .v (.bool (ngB false (decide (p = q))))) ?_ rfl hk
    simp [execOp, ho, ex, ey, hgd, binOp, he, SV.val, ngB]
  · refine gives_pure hR (s := .v (.bool (ngB true (decide (p = q))))) ?_ rfl hk
    simp [execOp, ho, ex, ey, hgd, binOp, he, SV.val, ngB]
end
end Go.EG
