/- The second part of 'what the small form asks is enough': memory, comparisons with nil, calls. Generic over the program: no condition. -/
import Derived.Test.YtagoedllflalpaaSound
namespace Go.EG
open Go.RowKit
set_option linter.unusedVariables false
set_option linter.unusedSimpArgs false

section
variable {P : Program} {w0 : World} {fp0 : List Nat} {n : Nat} {e : Env} {a : Act} {L : List Ent} {w : World} {k : SV → List Ent → Prop} {o : Oper}

theorem gAs_elim {e : Env} {a : Act} {n : Nat} (hA : Agree n e a) : ∀ {xs : List Operand} {K : List SV → Prop}, gAs e (xs.map cX) K → ∃ l, xs.map a.eval = l.map SV.val ∧ K l
  | [], K, h => ⟨[], rfl, h⟩
  | x :: xs, K, h => by
    obtain ⟨s, hs, h⟩ := gA_elim h
    obtain ⟨l, hl, h⟩ := gAs_elim hA (xs := xs) h
    exact ⟨s :: l, by simp [ev_eval hA hs, hl], h⟩

theorem map_arr {xs : Array Operand} {f : Operand → Value} {l : List Value} (h : xs.toList.map f = l) : xs.map f = l.toArray := by
  subst h; apply Array.ext'; simp

theorem cellsV_val (s : SV) : s.val.cells.toList = cellsV s := by
  cases s with
  | v x => cases x <;> rfl
  | _ => rfl

theorem heap_box {key b : Nat} {cs : List Value} {T : TypeId} (hR : R w0 fp0 L w) (h : boxAt key L = some (b, cs, T)) : w.heap[b]? = some (.cells cs.toArray T (0, 0)) := by
  obtain ⟨L', h1, _⟩ := boxAt_perm h
  exact (hR.perm h1).ok _ List.mem_cons_self

theorem cell_box {key b off : Nat} {cs : List Value} {T : TypeId} (hR : R w0 fp0 L w) (h : boxAt key L = some (b, cs, T)) : w.cell? ⟨b, off, none⟩ = cs[off]? := by
  rw [cell_of_row w b off _ T (0, 0) (heap_box hR h)]
  simp

theorem own_row {key : Nat} {o : Own} (hR : R w0 fp0 L w) (h : ownAt key L = some o) : w.ownsRow 0 o.T o.sz (.slice o.a o.n o.c) o.n o.xs := by
  obtain ⟨L', h1, _⟩ := ownAt_perm (a := o.a) (n := o.n) (c := o.c) (T := o.T) (sz := o.sz) (xs := o.xs) h
  exact (hR.perm h1).ok _ List.mem_cons_self

theorem owns_some {T sz : Nat} {a : Option Addr} {n c : Nat} {xs : List Value} (h : w.ownsRow 0 T sz (.slice a n c) n xs) (hx : 0 < xs.length) :
    ∃ g cur, a = some ⟨g, 0, none⟩ ∧ w.heap[g]? = some (.cells cur T (0, 0)) ∧ xs.length ≤ cur.size ∧ cur.size = c * sz ∧ n ≤ c ∧ c ≤ maxLen ∧ cur.toList.take xs.length = xs := by
  obtain ⟨h1, h2⟩ := h
  rcases h2 with ⟨h2, h3⟩ | ⟨g, cap, cur, hv, hg, hh, h3, h4, h5, h6⟩
  · subst h3
    simp at h1
    simp [h1] at hx
  · simp only [Value.slice.injEq] at hv
    obtain ⟨rfl, _, rfl⟩ := hv
    refine ⟨g, cur, rfl, hh, ?_, h5, h3, h4, by rw [h1]; exact h6⟩
    rw [h1, h5]
    exact Nat.mul_le_mul_right _ h3

theorem cell_own {key : Nat} {o : Own} {j : Nat} {v : Value} (hR : R w0 fp0 L w) (h : ownAt key L = some o) (hv : o.xs[j]? = some v) : ∃ g, o.a = some ⟨g, 0, none⟩ ∧ w.cell? ⟨g, j, none⟩ = some v := by
  have hj : j < o.xs.length := (List.getElem?_eq_some_iff.1 hv).1
  obtain ⟨g, cur, ha, hg, hl, _, _, _, ht⟩ := owns_some (own_row hR h) (by omega)
  refine ⟨g, ha, ?_⟩
  rw [cell_of_row w g j cur o.T (0, 0) hg, ← hv, ← ht, List.getElem?_take, if_pos hj, Array.getElem?_toList]

theorem run_load1 {t : TypeId} {ad : Addr} {v : Value} {lk : LK} (ht : lkOf P t = some lk) (hc : w.cell? ad = some v) : (loadVar t ad).run P w = .ok v w := by
  unfold lkOf at ht
  cases hu : P.underlying t with
  | none => simp [hu] at ht
  | some d => cases d <;> simp [hu] at ht <;> simp [loadVar, isAgg, run_underlying hu, hc]

theorem does_ld {t : TypeId} {x : Operand} {lk : LK} (ho : o.op = .load t x) (ht : lkOf P t = some lk)
    (hA : Agree n e a) (hR : R w0 fp0 L w) (h : VI P w0 fp0 (.ld lk (cX x)) e L k) : GivesP P w0 fp0 o a w k := by
  simp only [VI] at h
  obtain ⟨s, hp, h⟩ := gA_elim h
  have ex := ev_eval hA hp
  have key : ∀ (ad : Addr) (v : Value), s.val = .pointer (some ad) → w.cell? ad = some v → k (.v v) L → GivesP P w0 fp0 o a w k := fun ad v hs hc hk => by
    refine gives_pure hR (v := v) ?_ rfl hk
    simp [execOp, ho, ex, hs, Instr.loadAt, Instr.sureAddr, run_load1 ht hc]
  have gen : (loadK lk fun v => Rd w0 fp0 L s [v] ∧ k (.v v) L) → GivesP P w0 fp0 o a w k := fun h => by
    obtain ⟨v, hrd, hk⟩ := loadK_elim h
    obtain ⟨b, off, hs, hc⟩ := hrd w hR
    exact key _ v hs (by simpa using hc 0 v rfl) hk
  split at h
  · rename_i kk b off
    split at h
    · rename_i b' cs T hb
      obtain ⟨rfl, h⟩ := h
      obtain ⟨v, hv, h⟩ := gV_elim h
      rw [nth_eq] at hv
      exact key ⟨b', off, none⟩ v rfl (by rw [cell_box hR hb, hv]) h
    · exact gen h
  · rename_i kk a' i
    split at h
    · rename_i ow hb
      obtain ⟨rfl, h⟩ := h
      obtain ⟨v, hv, h⟩ := loadK_elim h
      obtain ⟨g, ha, hc⟩ := cell_own hR hb hv
      exact key ⟨g, i, none⟩ v (by simp [SV.val, ha, add_lit']) hc h
    · exact h.elim
  · exact gen h

theorem run_loadn {t : TypeId} {b off : Nat} {vs : List Value} {j : TypeInfo} (ht : (∃ fs, P.underlying t = some (.struct fs)) ∨ ∃ m el, P.underlying t = some (.array m el)) (hj : P.info? t = some j) (hl : vs.length = j.size)
    (hc : ∀ i v, vs[i]? = some v → w.cell? ⟨b, off + i, none⟩ = some v) : (loadVar t ⟨b, off, none⟩).run P w = .ok (.agg vs.toArray) w := by
  have h1 := run_loadCells_list (P := P) w ⟨b, off, none⟩ vs (fun i v hv => by rw [add_lit']; exact hc i v hv)
  rw [hl] at h1
  rcases ht with ⟨fs, ht⟩ | ⟨m, el, ht⟩ <;> simp [loadVar, isAgg, run_underlying ht, sizeOf, typeInfo, hj, h1]

theorem does_lda {ks : List LK} {t : TypeId} {x : Operand} {j : TypeInfo} (ho : o.op = .load t x) (ht : (∃ fs, P.underlying t = some (.struct fs)) ∨ ∃ m el, P.underlying t = some (.array m el)) (hj : P.info? t = some j) (hpos : 0 < j.size)
    (hA : Agree n e a) (hR : R w0 fp0 L w) (h : VI P w0 fp0 (.lda j.size ks (cX x)) e L k) : GivesP P w0 fp0 o a w k := by
  simp only [VI] at h
  obtain ⟨s, hp, h⟩ := gA_elim h
  have ex := ev_eval hA hp
  have key : ∀ (b off : Nat) (vs : List Value), s.val = .pointer (some ⟨b, off, none⟩) → vs.length = j.size → (∀ i v, vs[i]? = some v → w.cell? ⟨b, off + i, none⟩ = some v) → k (.v (.agg vs.toArray)) L → GivesP P w0 fp0 o a w k := fun b off vs hs hl hc hk => by
    refine gives_pure hR (v := .agg vs.toArray) ?_ rfl hk
    simp [execOp, ho, ex, hs, Instr.loadAt, Instr.sureAddr, run_loadn ht hj hl hc]
  have gen : (∃ vs : List Value, vs.length = j.size ∧ Rd w0 fp0 L s vs ∧ k (.v (.agg vs.toArray)) L) → GivesP P w0 fp0 o a w k := fun h => by
    obtain ⟨vs, hl, hrd, hk⟩ := h
    obtain ⟨b, off, hs, hc⟩ := hrd w hR
    exact key _ _ vs hs hl hc hk
  split at h
  · rename_i kk b off
    split at h
    · rename_i b' cs T hb
      obtain ⟨⟨rfl, h1⟩, h⟩ := h
      refine key b' off _ rfl (by simp; omega) (fun i v hv => ?_) h
      rw [cell_box hR hb]
      rw [List.getElem?_take] at hv
      split at hv
      · simpa using hv
      · cases hv
    · exact gen h
  · rename_i kk a' i
    split at h
    · rename_i ow hb
      obtain ⟨rfl, vs, hl, hvs, h⟩ := h
      have h0 : 0 < vs.length := by omega
      · have hc : ∀ q v, vs[q]? = some v → ow.xs[i + q]? = some v := fun q v hv => by
          rw [← hvs, List.getElem?_take] at hv
          split at hv
          · simpa using hv
          · cases hv
        obtain ⟨v0, hv0⟩ : ∃ v, vs[0]? = some v := ⟨vs[0], by simp [h0]⟩
        obtain ⟨g, ha, _⟩ := cell_own hR hb (hc 0 v0 hv0)
        refine key g i vs (by simp [SV.val, ha, add_lit']) hl (fun q v hv => ?_) h
        obtain ⟨g', ha', hcell⟩ := cell_own hR hb (hc q v hv)
        rw [ha] at ha'
        simp only [Option.some.injEq, Addr.mk.injEq, and_true] at ha'
        rw [ha']
        exact hcell
    · exact h.elim
  · exact gen h

theorem splice_take {cur cs vs : List Value} {off : Nat} (ht : cur.take cs.length = cs) (h : off + vs.length ≤ cs.length) : (splice cur off vs).take cs.length = splice cs off vs := by
  apply List.ext_getElem?
  intro i
  have hcur : ∀ j, j < cs.length → cur[j]? = cs[j]? := fun j hj => by rw [← ht, List.getElem?_take, if_pos (by simpa [ht] using hj)]
  have hle : cs.length ≤ cur.length := by have := congrArg List.length ht; simp at this; omega
  have h1 : (cur.take off).length = off := by simp; omega
  have h2 : (cs.take off).length = off := by simp; omega
  simp only [splice]
  rw [List.getElem?_take]
  by_cases hi : i < cs.length
  · rw [if_pos hi, List.append_assoc, List.append_assoc, List.getElem?_append (l₁ := cur.take off), List.getElem?_append (l₁ := cs.take off), h1, h2]
    by_cases h3 : i < off
    · rw [if_pos h3, if_pos h3, List.getElem?_take, List.getElem?_take, if_pos h3, if_pos h3]; exact hcur i hi
    · rw [if_neg h3, if_neg h3, List.getElem?_append, List.getElem?_append (l₁ := vs) (l₂ := cs.drop _)]
      by_cases h4 : i - off < vs.length
      · rw [if_pos h4, if_pos h4]
      · rw [if_neg h4, if_neg h4, List.getElem?_drop, List.getElem?_drop]
        exact hcur _ (by omega)
  · rw [if_neg hi, List.getElem?_eq_none]
    simp; omega

theorem R_setBox {key b : Nat} {cs cs' : List Value} {T : TypeId} (hR : R w0 fp0 L w) (hb : boxAt key L = some (b, cs, T)) : R w0 fp0 (setBox key cs' L) (w.setRow b cs'.toArray) := by
  obtain ⟨L', h1, h2⟩ := boxAt_perm hb
  have hR' := hR.perm h1
  have hg : w.heap[b]? = some (.cells cs.toArray T (0, 0)) := heap_box hR hb
  refine (R.write (w' := w.setRow b cs'.toArray) (e' := .box key b cs' T) hR' (fun x hx => hx) (by simp [Ent.fp]) (setRow_heap w b _ _ T (0, 0) hg) (by simp) rfl rfl rfl (fun x hx => setRow_other w b x _ (by simpa [Ent.fp] using hx))).perm (h2 cs').symm

theorem R_setOwn {key : Nat} {ow : Own} {xs' : List Value} {g : Nat} {cur : Array Value} (hR : R w0 fp0 L w) (hb : ownAt key L = some ow) (ha : ow.a = some ⟨g, 0, none⟩) (hg : w.heap[g]? = some (.cells cur ow.T (0, 0)))
    (hl : xs'.length = ow.xs.length) {cur' : Array Value} (hc : cur'.size = cur.size) (ht : cur'.toList.take ow.xs.length = xs') : R w0 fp0 (setOwn key ow.a ow.n ow.c xs' L) (w.setRow g cur') := by
  have hrow := own_row hR hb
  obtain ⟨L', h1, h2⟩ := ownAt_perm (a := ow.a) (n := ow.n) (c := ow.c) (T := ow.T) (sz := ow.sz) (xs := ow.xs) hb
  have hR' := hR.perm h1
  refine (R.write (w' := w.setRow g cur') (e' := .own key ow.a ow.n ow.c ow.T ow.sz xs') hR' (fun x hx => hx) (by simp [Ent.fp, ha, Value.ownBlock]) ?_ (by simp) rfl rfl rfl (fun x hx => setRow_other w g x _ (by simpa [Ent.fp, ha, Value.ownBlock] using hx))).perm (h2 _ _ _ _).symm
  obtain ⟨r1, r2⟩ := hrow
  refine ⟨by rw [hl]; exact r1, ?_⟩
  rcases r2 with ⟨r2, _⟩ | ⟨g', cap, cur0, hv, _, hh, r3, r4, r5, r6⟩
  · rw [ha] at r2; simp at r2
  · rw [ha] at hv
    simp only [Value.slice.injEq, Option.some.injEq, Addr.mk.injEq, and_true, true_and] at hv
    obtain ⟨rfl, rfl⟩ := hv
    rw [hg] at hh
    simp only [Option.some.injEq, Obj.cells.injEq, and_true] at hh
    subst hh
    refine .inr ⟨g, _, cur', by rw [ha], Nat.zero_le _, setRow_heap w g _ _ ow.T (0, 0) hg, r3, r4, by rw [hc]; exact r5, ?_⟩
    rw [← r1]; exact ht

theorem run_stn {t : TypeId} {b off : Nat} {u : Value} {j : TypeInfo} {cur : Array Value} {T : TypeId} (hj : P.info? t = some j) (hl : u.cells.size = j.size) (h1 : ∀ v ∈ u.cells.toList, v.oneCell' = true)
    (hg : w.heap[b]? = some (.cells cur T (0, 0))) (hf : off + u.cells.toList.length ≤ cur.size) :
    (storeVar t ⟨b, off, none⟩ u).run P w = .ok () (w.setRow b (splice cur.toList off u.cells.toList).toArray) := by
  have h2 := run_storeCells_at P b off T u.cells.toList 0 cur w hg (by simpa using hf) h1
  simp only [Nat.add_zero] at h2
  simp only [storeVar, sizeOf, typeInfo, hj, Sem.run_bind, run_program, Result.andThen_ok, Sem.run_pure, hl, ne_eq, not_true_eq_false, if_false, splice]
  exact h2

theorem does_st {t : TypeId} {x y : Operand} {j : TypeInfo} (ho : o.op = .store t x y) (hj : P.info? t = some j) (hpos : 0 < j.size)
    (hA : Agree n e a) (hR : R w0 fp0 L w) (h : VI P w0 fp0 (.st j.size (cX x) (cX y)) e L k) : ∃ w', (execOp a.eval o).run P w = .ok .skip w' ∧ Fin w0 fp0 k undef w' := by
  simp only [VI] at h
  obtain ⟨s, hp, h'⟩ := gA_elim h
  clear h
  obtain ⟨u, hq, ⟨h1, h2⟩, h⟩ := gA_elim h'
  clear h'
  have ex := ev_eval hA hp
  have ey := ev_eval hA hq
  have hsz : u.val.cells.size = j.size := by rw [← Array.length_toList, cellsV_val]; exact h1
  have hone : ∀ v ∈ u.val.cells.toList, v.oneCell' = true := by rw [cellsV_val]; exact oneAll_iff h2
  have key : ∀ (b off : Nat) (cur : Array Value) (T : TypeId) (L' : List Ent), s.val = .pointer (some ⟨b, off, none⟩) → w.heap[b]? = some (.cells cur T (0, 0)) → off + (cellsV u).length ≤ cur.size →
      R w0 fp0 L' (w.setRow b (splice cur.toList off (cellsV u)).toArray) → k (.v undef) L' → ∃ w', (execOp a.eval o).run P w = .ok .skip w' ∧ Fin w0 fp0 k undef w' := fun b off cur T L' hs hg hf hR' hk => by
    have hrun := run_stn (P := P) (w := w) (off := off) hj hsz hone hg (by rw [cellsV_val]; exact hf)
    rw [cellsV_val] at hrun
    refine ⟨_, ?_, .v undef, L', rfl, hR', hk⟩
    simp [execOp, ho, ex, ey, hs, Instr.storeAt, Instr.sureAddr, hrun]
  have gen : (∃ L', St w0 fp0 L s (cellsV u) L' ∧ k (.v undef) L') → ∃ w', (execOp a.eval o).run P w = .ok .skip w' ∧ Fin w0 fp0 k undef w' := fun h => by
    obtain ⟨L', hst, hk⟩ := h
    obtain ⟨b, off, cur, T, hs, hg, hf, hR'⟩ := hst w hR
    exact key b off cur T L' hs hg hf hR' hk
  split at h
  · rename_i kk b off
    split at h
    · rename_i b' cs T hb
      obtain ⟨⟨rfl, h3⟩, h⟩ := h
      have hg := heap_box hR hb
      refine key b' off _ T _ rfl hg (by simp; omega) ?_ h
      simpa using R_setBox (cs' := splice cs off (cellsV u)) hR hb
    · exact gen h
  · rename_i kk a' i
    split at h
    · rename_i ow hb
      obtain ⟨⟨rfl, h3⟩, h⟩ := h
      by_cases h0 : 0 < ow.xs.length
      · obtain ⟨g, cur, ha, hg, hle, _, _, _, ht⟩ := owns_some (own_row hR hb) h0
        refine key g i cur ow.T _ (by simp [SV.val, ha, add_lit']) hg (by omega) ?_ h
        refine R_setOwn hR hb ha hg (splice_length (by omega)) (by simp [splice_length (cs := cur.toList) (vs := cellsV u) (off := i) (by simp; omega)]) ?_
        simp only [List.toList_toArray]
        exact splice_take ht (by omega)
      · have hz : ow.xs.length = 0 := by omega
        omega
    · exact h.elim
  · exact gen h

theorem does_alc {t : TypeId} {j : TypeInfo} {z : Value} {key : Nat} (ho : o.op = .alloc t) (hj : P.info? t = some j) (hz : j.zero = some z)
    (hA : Agree n e a) (hR : R w0 fp0 L w) (h : VI P w0 fp0 (.alc key t z.cells.toList) e L k) : Gives P w0 fp0 o a w k := by
  simp only [VI] at h
  refine ⟨.pointer (some ⟨w.heap.size, 0, none⟩), w.alloc (.cells z.cells t), ?_, .ptr key w.heap.size 0, _, rfl, ?_, h w.heap.size⟩
  · simp [execOp, ho, Instr.alloc, zeroValue, typeInfo, hj, hz, newVar, newRow]
  · simpa using hR.box key z.cells.toList t

theorem does_box {t : TypeId} {x : Operand} {key : Nat} (ho : o.op = .box t x)
    (hA : Agree n e a) (hR : R w0 fp0 L w) (h : VI P w0 fp0 (.box key t (cX x)) e L k) : Gives P w0 fp0 o a w k := by
  simp only [VI] at h
  obtain ⟨s, hp, h⟩ := gA_elim h
  have ex := ev_eval hA hp
  refine ⟨.pointer (some ⟨w.heap.size, 0, none⟩), w.alloc (.cells s.val.cells t), ?_, .ptr key w.heap.size 0, _, rfl, ?_, h w.heap.size⟩
  · simp [execOp, ho, ex, Instr.box, newVar, newRow]
  · have := hR.box key (cellsV s) t
    rw [← cellsV_val] at this ⊢
    simpa using this

theorem does_mkf {fn : Fn} {fi ca : Array Operand} (ho : o.op = .makeFunc fn fi ca)
    (hA : Agree n e a) (hR : R w0 fp0 L w) (h : VI P w0 fp0 (.mkf fn (fi.toList.map cX) (ca.toList.map cX)) e L k) : GivesP P w0 fp0 o a w k := by
  simp only [VI] at h
  obtain ⟨l, hl, h⟩ := gAs_elim hA h
  obtain ⟨l', hl', h⟩ := gAs_elim hA h
  refine gives_pure hR ?_ rfl h
  have e1 : fi.map a.eval = (l.map SV.val).toArray := map_arr hl
  have e2 : ca.map a.eval = (l'.map SV.val).toArray := map_arr hl'
  simp only [execOp, ho, Instr.makeFunc, SV.val, e1, e2, Sem.run_bind, Sem.run_pure, Result.andThen_ok]

theorem okFn_spec {f : FuncId} (h : okFn P f = true) (args : Array Value) : (callFunc f args).run P w = .ok (.enter f args) w := by
  unfold okFn at h
  split at h
  · rename_i fn hf
    simp only [Bool.and_eq_true, bne_iff_ne, ne_eq] at h
    cases hb : fn.body with
    | none => simp [hb] at h
    | some c => simp [callFunc, hf, h.1, hb]
  · cases h

theorem call_does {f : FuncId} {args : List Value} (hrun : (execOp a.eval o).run P w = .ok (.enter f args.toArray) w) (hR : R w0 fp0 L w) {i : I} (hi : isQ i = false) (h : CallK P w0 fp0 f args L k) : Does P w0 fp0 o a w i k :=
  .inr (.inr (.inr ⟨hi, f, _, hrun, (h w hR).mono fun e w' ⟨v, s, L', he, hs, hR', hk⟩ => ⟨v, he, s, L', hs, hR', hk⟩⟩))

theorem does_call {c : Call} {f : FuncId} (ho : o.op = .call c) (hc : c.callee = .value (.func f)) (hf : okFn P f = true)
    (hA : Agree n e a) (hR : R w0 fp0 L w) (h : VI P w0 fp0 (.call f (c.args.toList.map cX)) e L k) : Does P w0 fp0 o a w (.call f (c.args.toList.map cX)) k := by
  simp only [VI] at h
  obtain ⟨l, hl, h⟩ := gAs_elim hA h
  refine call_does ?_ hR rfl h
  have e1 : c.args.map a.eval = (l.map SV.val).toArray := map_arr hl
  simp [execOp, ho, resolve, hc, Act.eval, Deferred.ofValue, invoke, e1, okFn_spec hf]

theorem does_cald {c : Call} {x : Operand} (ho : o.op = .call c) (hc : c.callee = .value x)
    (hA : Agree n e a) (hR : R w0 fp0 L w) (h : VI P w0 fp0 (.cald (cX x) (c.args.toList.map cX)) e L k) : Does P w0 fp0 o a w (.cald (cX x) (c.args.toList.map cX)) k := by
  simp only [VI] at h
  obtain ⟨s, hp, h⟩ := gA_elim h
  have ex := ev_eval hA hp
  obtain ⟨l, hl, h⟩ := gAs_elim hA h
  split at h
  · rename_i f first captured
    obtain ⟨hf, h⟩ := h
    refine call_does ?_ hR rfl h
    have e1 : c.args.map a.eval = (l.map SV.val).toArray := map_arr hl
    simp only [SV.val] at ex
    simp [execOp, ho, resolve, hc, ex, Deferred.ofValue, invoke, e1, okFn_spec hf]
  · exact h.elim

theorem eqi_ptr {t el : TypeId} (hd : P.underlying t = some (.pointer el)) (d : Nat) (p : Option Addr) : (Op.equalIn (d + 1) t (.pointer p) (.pointer none)).run P w = .ok p.isNone w := by
  cases p <;> simp [Op.equalIn, run_underlying hd]
theorem eq_ptr {t el : TypeId} (hd : P.underlying t = some (.pointer el)) (p : Option Addr) : (Op.equal t (.pointer p) (.pointer none)).run P w = .ok p.isNone w := eqi_ptr hd 9999 p
theorem eqi_slc {t el : TypeId} (hd : P.underlying t = some (.slice el)) (d : Nat) (p : Option Addr) (n c : Nat) : (Op.equalIn (d + 1) t (.slice p n c) (.slice none 0 0)).run P w = .ok p.isNone w := by
  cases p <;> simp [Op.equalIn, run_underlying hd]
theorem eq_slc {t el : TypeId} (hd : P.underlying t = some (.slice el)) (p : Option Addr) (n c : Nat) : (Op.equal t (.slice p n c) (.slice none 0 0)).run P w = .ok p.isNone w := eqi_slc hd 9999 p n c
theorem eqi_map {t ke el : TypeId} (hd : P.underlying t = some (.map ke el)) (d : Nat) (p : Option Nat) : (Op.equalIn (d + 1) t (.map p) (.map none)).run P w = .ok p.isNone w := by
  cases p <;> simp [Op.equalIn, run_underlying hd]
theorem eq_map {t ke el : TypeId} (hd : P.underlying t = some (.map ke el)) (p : Option Nat) : (Op.equal t (.map p) (.map none)).run P w = .ok p.isNone w := eqi_map hd 9999 p
theorem eqi_ifc {t : TypeId} {ms : Array (String × TypeId)} (hd : P.underlying t = some (.interface ms)) (d : Nat) (u : TypeId) (v : Value) : (Op.equalIn (d + 1) t (.iface u v) .nilIface).run P w = .ok false w ∧ (Op.equalIn (d + 1) t .nilIface .nilIface).run P w = .ok true w := by
  constructor <;> simp [Op.equalIn, run_underlying hd]
theorem eq_ifc {t : TypeId} {ms : Array (String × TypeId)} (hd : P.underlying t = some (.interface ms)) (u : TypeId) (v : Value) : (Op.equal t (.iface u v) .nilIface).run P w = .ok false w ∧ (Op.equal t .nilIface .nilIface).run P w = .ok true w := eqi_ifc hd 9999 u v
theorem eqi_fn {t : TypeId} {ps rs : Array TypeId} {vr : Bool} (hd : P.underlying t = some (.func ps rs vr)) (d : Nat) (fn : Fn) (a b : Array Value) : (Op.equalIn (d + 1) t (.func fn a b) .nilFunc).run P w = .ok false w ∧ (Op.equalIn (d + 1) t .nilFunc .nilFunc).run P w = .ok true w := by
  constructor <;> simp [Op.equalIn, run_underlying hd]
theorem eq_fn {t : TypeId} {ps rs : Array TypeId} {vr : Bool} (hd : P.underlying t = some (.func ps rs vr)) (fn : Fn) (a b : Array Value) : (Op.equal t (.func fn a b) .nilFunc).run P w = .ok false w ∧ (Op.equal t .nilFunc .nilFunc).run P w = .ok true w := eqi_fn hd 9999 fn a b

theorem does_eqn {op : BinOp} {t yt : TypeId} {x y : Operand} (ho : o.op = .binOp op t x y yt) {ng : Bool} {nk : NK} (hop : op = if ng then .neq else .eql) (hnk : nkOf P t = some nk) (hy : isNil nk y = true) (hA : Agree n e a) (hR : R w0 fp0 L w)
    (h : VI P w0 fp0 (.eqn nk ng (cX x)) e L k) : GivesP P w0 fp0 o a w k := by
  simp only [VI] at h
  obtain ⟨s, hp, h'⟩ := gA_elim h
  clear h
  have ex := ev_eval hA hp
  have fin : ∀ (b : Bool) (yv : Value), y = .const yv → k (.v (.bool (ngB ng b))) L → (eqGuard op t x y s.val yv).run P w = .ok () w → (binOp .eql t s.val yv).run P w = .ok (.bool b) w → (binOp .neq t s.val yv).run P w = .ok (.bool (!b)) w → GivesP P w0 fp0 o a w k := fun b yv hyv hk hg h1 h2 => by
    subst hyv
    have ey : a.eval (.const yv) = yv := rfl
    cases ng <;> simp only [if_true, Bool.false_eq_true, if_false] at hop <;> subst hop
    · exact gives_pure hR (v := .bool b) (s := .v (.bool b)) (by simp only [execOp, ho, ex, ey, hg, h1, Sem.run_bind, Result.andThen_ok, Sem.run_pure]) rfl hk
    · exact gives_pure hR (v := .bool (!b)) (s := .v (.bool (!b))) (by simp only [execOp, ho, ex, ey, hg, h2, Sem.run_bind, Result.andThen_ok, Sem.run_pure]) rfl hk
  have und : ∃ d, P.underlying t = some d := by
    unfold nkOf at hnk
    cases hu : P.underlying t with
    | none => simp [hu] at hnk
    | some d => exact ⟨d, rfl⟩
  obtain ⟨d, hd⟩ := und
  cases nk with
  | ptr =>
    cases d <;> simp [nkOf, hd] at hnk
    unfold isNil at hy
    split at hy <;> first | contradiction | skip
    have hg : ∀ p, (eqGuard op t x (.const (.pointer none)) (.pointer p) (.pointer none)).run P w = .ok () w := fun p => by cases op <;> simp [eqGuard]
    have hb : ∀ p, (binOp .eql t (.pointer p) (.pointer none)).run P w = .ok (.bool p.isNone) w := fun p => by simp [binOp, eq_ptr hd]
    have hb' : ∀ p, (binOp .neq t (.pointer p) (.pointer none)).run P w = .ok (.bool !p.isNone) w := fun p => by simp [binOp, eq_ptr hd]
    unfold nilB at h'
    split at h' <;> first | contradiction | skip
    · exact fin _ _ rfl h' (hg _) (hb _) (hb' _)
    · exact fin _ _ rfl h' (hg _) (hb _) (hb' _)
    · exact fin _ _ rfl h' (hg _) ((hb _).trans (by rw [Option.isNone_map])) ((hb' _).trans (by rw [Option.isNone_map]))
    · exact fin _ _ rfl h' (hg _) ((hb _).trans (by rw [Option.isNone_map])) ((hb' _).trans (by rw [Option.isNone_map]))
  | ifc =>
    cases d <;> simp [nkOf, hd] at hnk
    unfold isNil at hy
    split at hy <;> first | contradiction | skip
    unfold nilB at h'
    split at h' <;> first | contradiction | skip
    · refine fin true _ rfl h' (by cases op <;> simp [eqGuard, SV.val]) (by simp [binOp, SV.val, (eq_ifc hd 0 .nilIface).2]) (by simp [binOp, SV.val, (eq_ifc hd 0 .nilIface).2])
    · refine fin false _ rfl h' (by cases op <;> simp [eqGuard, SV.val]) (by simp [binOp, SV.val, (eq_ifc hd _ _).1]) (by simp [binOp, SV.val, (eq_ifc hd _ _).1])
  | slc =>
    cases d <;> simp [nkOf, hd] at hnk
    unfold isNil at hy
    split at hy <;> first | contradiction | skip
    unfold nilB at h'
    split at h' <;> first | contradiction | skip
    · exact fin _ _ rfl h' (by cases op <;> simp [eqGuard, SV.val]) (by simp [binOp, SV.val, eq_slc hd]) (by simp [binOp, SV.val, eq_slc hd])
    · exact fin _ _ rfl h' (by cases op <;> simp [eqGuard, SV.val]) (by simp [binOp, SV.val, eq_slc hd]) (by simp [binOp, SV.val, eq_slc hd])
  | map =>
    cases d <;> simp [nkOf, hd] at hnk
    unfold isNil at hy
    split at hy <;> first | contradiction | skip
    unfold nilB at h'
    split at h' <;> first | contradiction | skip
    exact fin _ _ rfl h' (by cases op <;> simp [eqGuard, SV.val]) (by simp [binOp, SV.val, eq_map hd]) (by simp [binOp, SV.val, eq_map hd])
  | fn =>
    cases d <;> simp [nkOf, hd] at hnk
    unfold isNil at hy
    split at hy <;> first | contradiction | skip
    unfold nilB at h'
    split at h' <;> first | contradiction | skip
    · refine fin true _ rfl h' (by cases op <;> simp [eqGuard, SV.val]) (by simp [binOp, SV.val, (eq_fn hd default #[] #[]).2]) (by simp [binOp, SV.val, (eq_fn hd default #[] #[]).2])
    · refine fin false _ rfl h' (by cases op <;> simp [eqGuard, SV.val]) (by simp [binOp, SV.val, (eq_fn hd _ _ _).1]) (by simp [binOp, SV.val, (eq_fn hd _ _ _).1])
end
end Go.EG
