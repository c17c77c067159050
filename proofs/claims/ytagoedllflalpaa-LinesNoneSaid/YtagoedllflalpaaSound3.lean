/- The third part of 'what the small form asks is enough': struct and slice literals, append, make, slicing, equality of structs. Generic over the program: no condition. -/
import Derived.Test.YtagoedllflalpaaSound2
namespace Go.EG
open Go.RowKit
set_option linter.unusedVariables false
set_option linter.unusedSimpArgs false

section
variable {P : Program} {w0 : World} {fp0 : List Nat} {n : Nat} {e : Env} {a : Act} {L : List Ent} {w : World} {k : SV → List Ent → Prop} {o : Oper}

theorem fold_set (off : Nat) : ∀ (vs : List Value) (i : Nat) (cs : Array Value), off + i + vs.length ≤ cs.size →
    ((vs.zipIdx i).foldl (fun (cs : Array Value) (p : Value × Nat) => cs.setIfInBounds (off + p.2) p.1) cs).toList = splice cs.toList (off + i) vs
  | [], i, cs, h => by simp [splice]
  | v :: vs, i, cs, h => by
    simp only [List.zipIdx_cons, List.foldl_cons]
    simp only [List.length_cons] at h
    rw [fold_set off vs (i + 1) _ (by simp; omega)]
    simp only [splice, Array.toList_setIfInBounds, List.length_cons]
    have hlt : off + i < cs.toList.length := by simp; omega
    have e1 : (cs.toList.set (off + i) v).take (off + (i + 1)) = cs.toList.take (off + i) ++ [v] := by
      rw [show off + (i + 1) = (off + i) + 1 from rfl, List.take_add_one, List.take_set_of_le (by omega), List.getElem?_set_self hlt]
      rfl
    have e2 : (cs.toList.set (off + i) v).drop (off + (i + 1) + vs.length) = cs.toList.drop (off + i + (vs.length + 1)) := by
      rw [List.drop_set_of_lt (by omega)]
      congr 1; omega
    rw [e1, e2]
    simp

def PartsOk (place : Nat → Option (Nat × Nat)) (tot : Nat) : List (Nat × Value) → List (Nat × List Value) → Prop
  | [], [] => True
  | p :: ps, q :: qs => (∃ sz, place p.1 = some (q.1, sz) ∧ p.2.cells.toList = q.2 ∧ q.2.length = sz ∧ q.1 + sz ≤ tot) ∧ PartsOk place tot ps qs
  | _, _ => False

theorem fill_ok (place : Nat → Option (Nat × Nat)) : ∀ (ps : List (Nat × Value)) (qs : List (Nat × List Value)) (cells : Array Value),
    PartsOk place cells.size ps qs → Instr.fill place cells ps = some (fillL cells.toList qs).toArray
  | [], [], cells, _ => by simp [Instr.fill, fillL]
  | [], _ :: _, _, h => h.elim
  | _ :: _, [], _, h => h.elim
  | (i, v) :: ps, (off, vs) :: qs, cells, h => by
    obtain ⟨⟨sz, h1, h2, h3, h4⟩, h⟩ := h
    simp only at h1 h2 h3 h4
    have hsz : v.cells.size = sz := by rw [← Array.length_toList, h2, h3]
    have hf : (v.cells.zipIdx.foldl (fun cs (c, j) => cs.setIfInBounds (off + j) c) cells).toList = splice cells.toList off vs := by
      rw [← Array.foldl_toList, Array.toList_zipIdx, h2]
      have := fold_set off vs 0 cells (by omega)
      simpa using this
    have hs : (v.cells.zipIdx.foldl (fun cs (c, j) => cs.setIfInBounds (off + j) c) cells).size = cells.size := by
      rw [← Array.length_toList, hf, splice_length (by simp; omega)]; simp
    have hcond : (decide (v.cells.size ≠ sz) || decide (off + v.cells.size > cells.size)) = false := by simp [hsz]; omega
    simp only [Instr.fill, h1, hcond, Bool.false_eq_true, if_false, fillL]
    rw [fill_ok place ps qs _ (by rw [hs]; exact h), hf]

theorem gPs_struct {fs : Array Field} {tot : Nat} (hA : Agree n e a) {place : Nat → Option (Nat × Nat)} (hpl : ∀ (i : Nat) (f : Field) (j : TypeInfo), fs[i]? = some f → P.info? f.type = some j → place i = some (f.offset, j.size)) :
    ∀ {ps : List (Nat × Operand)} {l : List (Nat × Nat × X)} {K : List (Nat × List Value) → Prop}, cParts P fs tot ps = some l → gPs e l K → ∃ qs, PartsOk place tot (ps.map fun p => (p.1, a.eval p.2)) qs ∧ K qs
  | [], l, K, hc, h => by simp only [cParts, Option.some.injEq] at hc; subst hc; exact ⟨[], trivial, h⟩
  | (i, x) :: ps, l, K, hc, h => by
    simp only [cParts] at hc
    split at hc
    · rename_i f hf
      split at hc
      · rename_i j hj
        split at hc
        · rename_i hle
          obtain ⟨l', hl', rfl⟩ := Option.map_eq_some_iff.1 hc
          obtain ⟨s, hs, hlen, h⟩ := gA_elim h
          obtain ⟨qs, hq, hk⟩ := gPs_struct hA hpl hl' h
          refine ⟨(f.offset, cellsV s) :: qs, ⟨⟨j.size, hpl i f j hf hj, ?_, hlen, hle⟩, hq⟩, hk⟩
          simp only [ev_eval hA hs, cellsV_val]
        · cases hc
      · cases hc
    · cases hc

theorem gPs_elems {sz m : Nat} (hA : Agree n e a) : ∀ {ps : List (Nat × Operand)} {K : List (Nat × List Value) → Prop}, (ps.all fun p => p.1 < m) = true → gPs e (cElems sz ps) K →
    ∃ qs, PartsOk (fun i => some (i * sz, sz)) (m * sz) (ps.map fun p => (p.1, a.eval p.2)) qs ∧ K qs
  | [], K, _, h => ⟨[], trivial, h⟩
  | (i, x) :: ps, K, hm, h => by
    simp only [List.all_cons, Bool.and_eq_true, decide_eq_true_eq] at hm
    obtain ⟨s, hs, hlen, h⟩ := gA_elim h
    obtain ⟨qs, hq, hk⟩ := gPs_elems hA hm.2 h
    refine ⟨(i * sz, cellsV s) :: qs, ⟨⟨sz, rfl, ?_, hlen, ?_⟩, hq⟩, hk⟩
    · simp only [ev_eval hA hs, cellsV_val]
    · have := Nat.mul_le_mul_right sz (show i + 1 ≤ m by omega)
      rw [Nat.add_mul, Nat.one_mul] at this
      exact this

theorem places_mapM : ∀ (fs : List Field), (fs.all fun f => (P.info? f.type).isSome) = true →
    ∃ pl : List (Nat × Nat), fs.mapM (fun f : Field => (P.info? f.type).map fun i => (f.offset, i.size)) = some pl ∧ ∀ (i : Nat) (f : Field) (j : TypeInfo), fs[i]? = some f → P.info? f.type = some j → pl[i]? = some (f.offset, j.size)
  | [], _ => ⟨[], by simp, fun i f j h => by simp at h⟩
  | f :: fs, h => by
    simp only [List.all_cons, Bool.and_eq_true] at h
    obtain ⟨j0, hj0⟩ := Option.isSome_iff_exists.1 h.1
    obtain ⟨pl, hpl, hat⟩ := places_mapM fs h.2
    refine ⟨(f.offset, j0.size) :: pl, by simp [List.mapM_cons, hj0, hpl], fun i g j hg hj => ?_⟩
    cases i with
    | zero =>
      simp only [List.getElem?_cons_zero, Option.some.injEq] at hg ⊢
      subst hg
      rw [hj0] at hj
      cases hj
      rfl
    | succ i => exact hat i g j (by simpa using hg) hj

theorem does_bld {t : TypeId} {fs : Array Field} {ps : Array (Nat × Operand)} {j : TypeInfo} {z : Value} {l : List (Nat × Nat × X)} (ho : o.op = .build t ps) (ht : P.underlying t = some (.struct fs)) (hj : P.info? t = some j) (hz : j.zero = some z)
    (hall : (fs.toList.all fun f => (P.info? f.type).isSome) = true) (hc : cParts P fs z.cells.size ps.toList = some l)
    (hA : Agree n e a) (hR : R w0 fp0 L w) (h : VI P w0 fp0 (.bld z.cells.toList l) e L k) : GivesP P w0 fp0 o a w k := by
  simp only [VI] at h
  obtain ⟨pl, hpl, hpl'⟩ := places_mapM (P := P) fs.toList hall
  obtain ⟨qs, hq, hk⟩ := gPs_struct hA (place := (pl.toArray[·]?)) (fun i f j hf hj => by simpa using hpl' i f j (by simpa using hf) hj) hc h
  have hf := fill_ok _ _ _ z.cells hq
  refine gives_pure hR (v := .agg (fillL z.cells.toList qs).toArray) ?_ rfl hk
  have e1 : (ps.map fun p => (p.1, a.eval p.2)).toList = ps.toList.map fun p => (p.1, a.eval p.2) := by simp
  have hb : P.built t (ps.map fun p => (p.1, a.eval p.2)).toList = some (fillL z.cells.toList qs).toArray := by
    unfold Program.built
    simp only [hj, ht, hz, hpl, e1]
    exact hf
  have hrun := run_build (P := P) w t _ _ hb
  simp only [execOp, ho, Sem.run_bind, hrun, Result.andThen_ok, Sem.run_pure]

theorem madeCells_eq (z : Array Value) (m sz : Nat) (hz : z.size = sz) (hs : 0 < sz) : ((Array.range (m * sz)).map (z[· % z.size]!)).toList = (List.replicate m z.toList).flatten := by
  apply List.ext_getElem?
  intro i
  have hlen : (List.replicate m z.toList).flatten.length = m * sz := by simp [hz]
  by_cases hi : i < m * sz
  · have h1 : i % sz < z.size := by rw [hz]; exact Nat.mod_lt _ hs
    have h2 : i / sz < m := Nat.div_lt_of_lt_mul (by rwa [Nat.mul_comm])
    have key : ∀ (m i : Nat), i < m * sz → (List.replicate m z.toList).flatten[i]? = z.toList[i % sz]? := by
      intro m
      induction m with
      | zero => intro i hi; simp at hi
      | succ m ih =>
        intro i hi
        rw [List.replicate_succ, List.flatten_cons, List.getElem?_append]
        simp only [Array.length_toList, hz]
        by_cases h : i < sz
        · rw [if_pos h, Nat.mod_eq_of_lt h]
        · rw [if_neg h, ih (i - sz) (by rw [Nat.add_mul] at hi; omega), ← Nat.mod_eq_sub_mod (by omega)]
    rw [key m i hi]
    simp [hi, hz]
    rw [getElem!_pos z (i % sz) h1, Array.getElem?_eq_getElem h1]
  · rw [List.getElem?_eq_none (by simpa using hi), List.getElem?_eq_none (by omega)]

theorem fillL_length : ∀ (qs : List (Nat × List Value)) (z : List Value), (∀ q ∈ qs, q.1 + q.2.length ≤ z.length) → (fillL z qs).length = z.length
  | [], z, _ => rfl
  | (off, vs) :: qs, z, h => by
    have h1 := h (off, vs) List.mem_cons_self
    have h2 := splice_length h1
    simp only [fillL]
    rw [fillL_length qs _ (fun q hq => by rw [h2]; exact h q (List.mem_cons_of_mem _ hq)), h2]

theorem partsOk_le {place : Nat → Option (Nat × Nat)} {tot : Nat} : ∀ {ps : List (Nat × Value)} {qs : List (Nat × List Value)}, PartsOk place tot ps qs → ∀ q ∈ qs, q.1 + q.2.length ≤ tot
  | [], [], _, q, hq => by cases hq
  | [], _ :: _, h, _, _ => h.elim
  | _ :: _, [], h, _, _ => h.elim
  | _ :: ps, q0 :: qs, h, q, hq => by
    obtain ⟨⟨sz, _, _, h3, h4⟩, h⟩ := h
    rcases List.mem_cons.1 hq with rfl | hq
    · rw [h3]; exact h4
    · exact partsOk_le h q hq

theorem does_bsl {t el key : TypeId} {m : Nat} {ps : Array (Nat × Operand)} {j : TypeInfo} {z : Value} (ho : o.op = .buildSlice t m ps) (ht : P.underlying t = some (.slice el)) (hj : P.info? el = some j) (hz : j.zero = some z)
    (h1 : m * j.size ≤ 4096) (h2 : z.cells.size = j.size) (h3 : 0 < j.size) (h4 : (ps.toList.all fun p => p.1 < m) = true)
    (hA : Agree n e a) (hR : R w0 fp0 L w) (h : VI P w0 fp0 (.bsl key el j.size m (List.replicate m z.cells.toList).flatten (cElems j.size ps.toList)) e L k) : Gives P w0 fp0 o a w k := by
  simp only [VI] at h
  obtain ⟨qs, hq, hone, hk⟩ := gPs_elems hA h4 h
  have hzc := madeCells_eq z.cells m j.size h2 h3
  have hq' : PartsOk (fun i => some (i * j.size, j.size)) ((Array.range (m * j.size)).map (z.cells[· % z.cells.size]!)).size (ps.toList.map fun p => (p.1, a.eval p.2)) qs := by simpa using hq
  have hf := fill_ok _ _ _ _ hq'
  rw [hzc] at hf
  have e1 : (ps.map fun p => (p.1, a.eval p.2)).toList = ps.toList.map fun p => (p.1, a.eval p.2) := by simp
  have hlen : (fillL (List.replicate m z.cells.toList).flatten qs).length = m * j.size := by
    rw [fillL_length qs _ (fun q hq'' => by simp [h2]; exact partsOk_le hq q hq'')]; simp [h2]
  refine ⟨.slice (some ⟨w.heap.size, 0, none⟩) m m, w.alloc (.cells (fillL (List.replicate m z.cells.toList).flatten qs).toArray el), ?_, .sl key (some ⟨w.heap.size, 0, none⟩) m m, _, rfl, ?_, hk w.heap.size⟩
  · have c1 : ¬ 2 ^ 24 < m * j.size := by omega
    by_cases hm0 : m * j.size = 0
    · have hm : m = 0 := by rcases Nat.mul_eq_zero.1 hm0 with h | h <;> omega
      subst hm
      have hps : ps.toList = [] := by
        cases hl : ps.toList with
        | nil => rfl
        | cons p l => rw [hl] at h4; simp at h4
      have hqs : qs = [] := by
        cases qs with
        | nil => rfl
        | cons q l => rw [hps] at hq; exact hq.elim
      subst hqs
      have e2 : ps.map (fun p => (p.1, a.eval p.2)) = #[] := by apply Array.ext'; simp [hps]
      simp only [execOp, ho, Instr.buildSlice, e2]
      simp [run_underlying ht, sizeOf, typeInfo, hj, zeroValue, hz, Instr.fill, newRow, fillL, Array.range_zero']
    · simp only [execOp, ho, Instr.buildSlice, run_underlying ht, sizeOf, typeInfo, hj, zeroValue, hz, Sem.run_bind, run_program, Result.andThen_ok, Sem.run_pure, Sem.run_ite, if_neg c1, if_neg hm0, e1, hf, newRow, run_newObj]
      rfl
  · refine hR.alloc _ _ rfl ⟨hlen, .inr ⟨w.heap.size, m, _, rfl, Nat.zero_le _, heap_alloc_new w _, Nat.le_refl _, ?_, by simpa using hlen, ?_⟩⟩
    · have : m ≤ m * j.size := Nat.le_mul_of_pos_right _ h3
      unfold maxLen; omega
    · simp only [List.toList_toArray]
      exact List.take_of_length_le (by omega)

theorem app_run {t ty el : TypeId} {j : TypeInfo} {z : Value} (ht : P.underlying t = some (.slice el)) (hj : P.info? el = some j) (hz : j.zero = some z) (hzs : z.cells.size = j.size) (hpos : 0 < j.size)
    {a : Option Addr} {n c : Nat} {xs : List Value} (hown : w.ownsRow 0 el j.size (.slice a n c) n xs) {b : Option Addr} {m cb : Nat} {ys : List Value} (hl : ys.length = m * j.size) (hb : ys = [] ∨ ∃ ad, b = some ad ∧ ∀ i u, ys[i]? = some u → w.cell? (ad.add i) = some u)
    (h1 : ∀ u ∈ ys, u.oneCell' = true) (h63 : n + m ≤ maxLen) (hbytes : (n + m) * j.bytes ≤ 140737488355328) :
    ∃ a' c' w', (Builtin.append_ #[t, t] ty #[.slice a n c, .slice b m cb]).run P w = .ok (.slice a' (n + m) c') w' ∧ w'.ownsRow 0 el j.size (.slice a' (n + m) c') (n + m) (xs ++ ys) ∧ w.grownBy w' (Value.slice a n c).ownBlock ∧
      (∀ g, (Value.slice a' (n + m) c').ownBlock = some g → (Value.slice a n c).ownBlock = some g ∨ (w.heap.size ≤ g ∧ g < w'.heap.size)) := by
  have hgref : w.grownBy w (Value.slice a n c).ownBlock := ⟨rfl, rfl, rfl, Nat.le_refl _, fun _ _ _ => rfl⟩
  cases b with
  | none =>
    have hy : ys = [] := by
      rcases hb with h | ⟨ad, h, _⟩
      · exact h
      · cases h
    subst hy
    have hm : m = 0 := by
      rcases Nat.eq_zero_or_pos m with h | h
      · exact h
      · have := Nat.mul_pos h hpos; simp at hl; omega
    subst hm
    refine ⟨a, c, w, ?_, by simpa using hown, hgref, fun g hg => .inl hg⟩
    rcases hown.2 with ⟨h2, h3⟩ | ⟨g, cap, cur, h2, _, _, hnc, _⟩
    · simp only [Value.slice.injEq] at h2
      obtain ⟨rfl, rfl, rfl⟩ := h2
      simp [Builtin.append_, run_underlying ht, sizeOf, typeInfo, hj, Builtin.lenOf, Builtin.firstCells]
    · simp only [Value.slice.injEq] at h2
      obtain ⟨rfl, _, rfl⟩ := h2
      simp [Builtin.append_, run_underlying ht, sizeOf, typeInfo, hj, Builtin.lenOf, Builtin.firstCells, hnc, storeCells]
  | some ad =>
    have hcell : ∀ i u, ys[i]? = some u → w.cell? (ad.add i) = some u := by
      rcases hb with h | ⟨ad', h, hc⟩
      · subst h; intro i u hu; simp at hu
      · cases h; exact hc
    obtain ⟨v', w', hrun, hown', hgrow, hnil⟩ := run_append_own (P := P) w 0 t ty el j z j.size j.bytes ht hj hz rfl rfl hzs hpos (.slice a n c) n xs hown ad m cb ys hl hcell h1 h63 hbytes (Nat.zero_le _)
    have hsmall : n + m ≤ 9223372036854775807 := by simp only [maxLen] at h63; omega
    have hv' : ∃ a' c', v' = .slice a' (n + m) c' := by
      rcases hown'.2 with ⟨h2, h3⟩ | ⟨g, cap, cur, h2, _⟩
      · exact ⟨none, 0, by rw [h2, h3]⟩
      · exact ⟨_, _, h2⟩
    obtain ⟨a', c', rfl⟩ := hv'
    have hlt : ∀ g, (Value.slice a' (n + m) c').ownBlock = some g → g < w'.heap.size := fun g hg => (hown'.lt g hg).2
    refine ⟨a', c', w', hrun, hown', hgrow, fun g hg => ?_⟩
    have hglt := hlt g hg
    rcases hown.2 with ⟨h2, h3⟩ | ⟨g0, cap, cur, h2, _, hgg, hnc, hcm, hcs, htake⟩
    · simp only [Value.slice.injEq] at h2
      obtain ⟨rfl, rfl, rfl⟩ := h2
      rcases Nat.eq_zero_or_pos m with h | h
      · subst h
        have := hnil.2 ⟨rfl, rfl⟩
        simp only [Value.slice.injEq] at this
        obtain ⟨rfl, _⟩ := this
        simp [Value.ownBlock] at hg
      · have hr := run_append_nil (P := P) w t ty el j z ht hj hz ad m cb ys hl hcell h (by omega) (by simp only [Nat.zero_add] at hbytes; omega)
        rw [hrun] at hr
        simp only [Result.ok.injEq, Value.slice.injEq] at hr
        obtain ⟨⟨rfl, _⟩, rfl⟩ := hr
        simp only [Value.ownBlock, Option.some.injEq] at hg
        exact .inr ⟨by omega, by omega⟩
    · simp only [Value.slice.injEq] at h2
      obtain ⟨rfl, _, rfl⟩ := h2
      by_cases hroom : n + m ≤ c
      · have hfit : n * j.size + ys.length ≤ cur.size := by rw [hl, hcs, ← Nat.add_mul]; exact Nat.mul_le_mul_right _ hroom
        have hr := run_append_room (P := P) w t ty el j ht hj g0 n c cur hgg ad m cb ys hl hcell h1 hroom hfit
        rw [hrun] at hr
        simp only [Result.ok.injEq, Value.slice.injEq] at hr
        obtain ⟨⟨rfl, _⟩, _⟩ := hr
        exact .inl hg
      · have holds : ∀ i u, xs[i]? = some u → w.cell? ((⟨g0, 0, none⟩ : Addr).add i) = some u := hown.cells (g := g0) rfl
        have hr := run_append_grow (P := P) w t ty el j z ht hj hz ⟨g0, 0, none⟩ n c xs hown.1 holds ad m cb ys hl hcell (by omega) (by omega) (growslice_fits (by omega) hbytes)
        rw [hrun] at hr
        simp only [Result.ok.injEq, Value.slice.injEq] at hr
        obtain ⟨⟨rfl, _⟩, rfl⟩ := hr
        simp only [Value.ownBlock, Option.some.injEq] at hg
        exact .inr ⟨by omega, by omega⟩

theorem R_app {key : Nat} {ow : Own} {a' : Option Addr} {m c' : Nat} {ys : List Value} {w' : World} (hR : R w0 fp0 L w) (hb : ownAt key L = some ow) (hown : w'.ownsRow 0 ow.T ow.sz (.slice a' (ow.n + m) c') (ow.n + m) (ow.xs ++ ys)) (hg : w.grownBy w' (Value.slice ow.a ow.n ow.c).ownBlock)
    (hf : ∀ g, (Value.slice a' (ow.n + m) c').ownBlock = some g → (Value.slice ow.a ow.n ow.c).ownBlock = some g ∨ (w.heap.size ≤ g ∧ g < w'.heap.size)) : R w0 fp0 (setOwn key a' (ow.n + m) c' (ow.xs ++ ys) L) w' := by
  obtain ⟨L', h1, h2⟩ := ownAt_perm (a := ow.a) (n := ow.n) (c := ow.c) (T := ow.T) (sz := ow.sz) (xs := ow.xs) hb
  have hR' := hR.perm h1
  refine (R.grow (w' := w') (e' := .own key a' (ow.n + m) c' ow.T ow.sz (ow.xs ++ ys)) hR' (fun b hb => ?_) ?_ hown hg.size hg.os hg.tape hg.output (fun b hlt hb => ?_)).perm (h2 _ _ _ _).symm
  · simp only [Ent.fp, Option.mem_toList] at hb ⊢
    exact hf b hb
  · simp only [Ent.fp]
    cases (Value.slice a' (ow.n + m) c').ownBlock <;> simp
  · refine hg.block b hlt fun h => hb ?_
    simp only [Ent.fp, Option.mem_toList]
    exact h.symm

theorem gCells_elim {sz : Nat} {s : SV} {K : Nat → List Value → Prop} (hR : R w0 fp0 L w) (h : gCells w0 fp0 L sz s K) : ∃ b m cb ys, s.val = .slice b m cb ∧ ys.length = m * sz ∧ (ys = [] ∨ ∃ ad, b = some ad ∧ ∀ i u, ys[i]? = some u → w.cell? (ad.add i) = some u) ∧ K m ys := by
  unfold gCells at h
  split at h
  · rename_i key a m c
    split at h
    · rename_i ow hb
      obtain ⟨⟨rfl, rfl, rfl, rfl⟩, h⟩ := h
      refine ⟨ow.a, ow.n, ow.c, ow.xs, rfl, (own_row hR hb).1, ?_, h⟩
      rcases Nat.eq_zero_or_pos ow.xs.length with h0 | h0
      · exact .inl (List.eq_nil_of_length_eq_zero h0)
      · refine .inr ?_
        obtain ⟨v, hv⟩ : ∃ v, ow.xs[0]? = some v := ⟨ow.xs[0], by simp [h0]⟩
        obtain ⟨g, ha, _⟩ := cell_own hR hb hv
        refine ⟨_, ha, fun i u hu => ?_⟩
        obtain ⟨g', ha', hc⟩ := cell_own hR hb hu
        rw [ha] at ha'
        simp only [Option.some.injEq, Addr.mk.injEq, and_true] at ha'
        subst ha'
        rw [add_lit', Nat.zero_add]
        exact hc
    · exact h.elim
  · rename_i a m c
    obtain ⟨ys, ⟨hl, hrd⟩, h⟩ := h
    refine ⟨a, m, c, ys, rfl, hl.symm, ?_, h⟩
    rcases hrd with h0 | hrd
    · exact .inl h0
    · obtain ⟨b, off, ha, hc⟩ := hrd w hR
      exact .inr ⟨_, ha, fun i u hu => by rw [add_lit']; exact hc i u hu⟩
  · exact h.elim

theorem does_app {t ty el key : TypeId} {x y : Operand} {j : TypeInfo} {z : Value} (ho : o.op = .call { callee := .builtin .append, args := #[x, y], argTypes := #[t, t] }) (ht : P.underlying t = some (.slice el)) (hj : P.info? el = some j) (hz : j.zero = some z)
    (hzs : z.cells.size = j.size) (hpos : 0 < j.size) (hA : Agree n e a) (hR : R w0 fp0 L w) (h : VI P w0 fp0 (.app key el j.size j.bytes (cX x) (cX y)) e L k) : Gives P w0 fp0 o a w k := by
  simp only [VI] at h
  obtain ⟨s, hp, h'⟩ := gA_elim h
  clear h
  obtain ⟨u, hq, h''⟩ := gA_elim h'
  clear h'
  obtain ⟨b, m, cb, ys, hu, hl, hc, hone, h⟩ := gCells_elim hR h''
  clear h''
  have ex := ev_eval hA hp
  have ey := ev_eval hA hq
  rw [hu] at ey
  have fin : ∀ (a' : Option Addr) (c' : Nat × Nat) (w' : World) (sv : Value), s.val = sv → (Builtin.append_ #[t, t] o.type #[sv, .slice b m cb]).run P w = .ok (.slice a' c'.1 c'.2) w' → Fin w0 fp0 k (.slice a' c'.1 c'.2) w' → Gives P w0 fp0 o a w k := fun a' c' w' sv hs hr hf => by
    refine ⟨_, w', ?_, hf⟩
    subst hs
    simp only [execOp, ho, resolve, invoke, builtin, Sem.run_bind, Sem.run_pure, Result.andThen_ok, List.map_toArray, List.map_cons, List.map_nil, ex, ey, hr]
  split at h
  · rename_i key' a1 n1 c1
    split at h
    · rename_i ow hb
      obtain ⟨⟨rfl, rfl, rfl, hT, hS⟩, ⟨h63, hby⟩, hk⟩ := h
      have hrow := own_row hR hb
      rw [hT, hS] at hrow
      obtain ⟨a', c', w', hrun, hown, hg, hf⟩ := app_run (P := P) (ty := o.type) ht hj hz hzs hpos hrow hl hc (oneAll_iff hone) h63 hby
      refine fin a' (ow.n + m, c') w' _ rfl hrun ⟨.sl key' a' (ow.n + m) c', _, rfl, R_app hR hb (by rw [hT, hS]; exact hown) hg hf, hk a' c'⟩
    · exact h.elim
  · obtain ⟨⟨h63, hby⟩, hk⟩ := h
    have hrow : w.ownsRow 0 el j.size (.slice none 0 0) 0 [] := World.ownsRow_nil _ _ _ _
    obtain ⟨a', c', w', hrun, hown, hg, hf⟩ := app_run (P := P) (ty := o.type) ht hj hz hzs hpos hrow hl hc (oneAll_iff hone) (by omega) (by simpa using hby)
    have hR' := hR.ownNil key el j.size
    have hb' : ownAt key (.own key none 0 0 el j.size [] :: L) = some ⟨none, 0, 0, el, j.size, []⟩ := by simp [ownAt]
    have hfin := R_app (a' := a') (m := m) (c' := c') (ys := ys) hR' hb' hown hg hf
    simp only [setOwn, if_true, Nat.zero_add, List.nil_append] at hfin
    refine fin a' (m, c') w' _ rfl (by simpa [SV.val] using hrun) ⟨.sl key a' m c', _, rfl, hfin, hk a' c'⟩
  · exact h.elim

theorem does_mks {t el key : TypeId} {x y : Operand} {j : TypeInfo} {z : Value} (ho : o.op = .makeSlice t x y) (ht : P.underlying t = some (.slice el)) (hj : P.info? el = some j) (hz : j.zero = some z)
    (hzs : z.cells.size = j.size) (hpos : 0 < j.size) (hA : Agree n e a) (hR : R w0 fp0 L w) (h : VI P w0 fp0 (.mks key el j.size j.bytes z.cells.toList (cX x) (cX y)) e L k) : Gives P w0 fp0 o a w k := by
  simp only [VI] at h
  obtain ⟨kl, l, hl, h⟩ := gNum_elim h
  obtain ⟨kc, c, hc, ⟨h0, h1, h2, h3⟩, hk⟩ := gNum_elim h
  have ex := ev_eval hA hl
  have ey := ev_eval hA hc
  simp only [SV.val] at ex ey
  have hcm : c.toNat ≤ maxLen := by omega
  have h63 : c ≤ 9223372036854775807 := by unfold maxLen at h3; omega
  have hrun := run_make (P := P) w t el j z ht hj hz kl kc l c h0 h1 h2 h63
  refine ⟨_, w.alloc (.cells (madeCells z.cells (c.toNat * j.size)) el), ?_, .sl key (some ⟨w.heap.size, 0, none⟩) l.toNat c.toNat, _, rfl, ?_, hk w.heap.size⟩
  · simp only [execOp, ho, ex, ey, Sem.run_bind, hrun, Result.andThen_ok, Sem.run_pure, SV.val]
  · refine hR.alloc _ _ rfl ⟨by simp [hzs], .inr ⟨w.heap.size, c.toNat, _, rfl, Nat.zero_le _, heap_alloc_new w _, by omega, hcm, by simp [madeCells], ?_⟩⟩
    have e1 : (madeCells z.cells (c.toNat * j.size)).toList = (List.replicate c.toNat z.cells.toList).flatten := madeCells_eq z.cells c.toNat j.size hzs hpos
    rw [e1]
    have e2 : List.replicate c.toNat z.cells.toList = List.replicate l.toNat z.cells.toList ++ List.replicate (c.toNat - l.toNat) z.cells.toList := by
      rw [List.replicate_append_replicate]; congr 1; omega
    rw [e2, List.flatten_append]
    have e3 : (List.replicate l.toNat z.cells.toList).flatten.length = l.toNat * j.size := by simp [hzs]
    rw [← e3]
    exact List.take_left

end
end Go.EG
