/- Fields that are structs, strings of bytes, appends in place: what the small form asks is enough. Generic over the program: no condition. -/
import Derived.Test.YtagoedllflalpaaSound5
import Derived.Laws.IdiomStrings
import Derived.Laws.BytesArg
namespace Go.EG
open Go.RowKit
set_option linter.unusedVariables false

section
variable {P : Program} {w0 w : World} {fp0 : List Nat} {n : Nat} {e : Env} {a : Act} {L : List Ent} {o : Oper} {k : SV → List Ent → Prop}

theorem does_fls {t : TypeId} {x : Operand} {f : Nat} {fs fs' : Array Field} {fd : Field} {j : TypeInfo} (ho : o.op = .field t x f) (ht : P.underlying t = some (.struct fs)) (hf : fs[f]? = some fd) (hu : P.underlying fd.type = some (.struct fs')) (hj : P.info? fd.type = some j)
    (hA : Agree n e a) (hR : R w0 fp0 L w) (h : VI P w0 fp0 (.fls fd.offset j.size (cX x)) e L k) : GivesP P w0 fp0 o a w k := by
  simp only [VI] at h
  obtain ⟨s, hp, h⟩ := gA_elim h
  have ex := ev_eval hA hp
  split at h
  · rename_i cs
    obtain ⟨hl, h⟩ := h
    simp only [SV.val] at ex
    refine gives_pure hR (s := .v (.agg ((cs.toList.drop fd.offset).take j.size).toArray)) ?_ rfl h
    have hpart : (part fd.type cs fd.offset).run P w = .ok (.agg (cs.extract fd.offset (fd.offset + j.size))) w := by
      simp [part, isAgg, run_underlying hu, sizeOf, typeInfo, hj]
    have he : cs.extract fd.offset (fd.offset + j.size) = ((cs.toList.drop fd.offset).take j.size).toArray := by
      apply Array.ext'
      simp
    simp only [execOp, ho, Instr.field, run_underlying ht, Sem.run_bind, Result.andThen_ok, hf, ex, asAgg, Sem.run_pure, hpart, SV.val, he]
  · exact h.elim

theorem does_cvs {s t el : TypeId} {x : Operand} (ho : o.op = .convert s t x) (hs : P.underlying s = some (.slice el)) (he : P.underlying el = some (.int .u8)) (ht : P.underlying t = some .string)
    (hA : Agree n e a) (hR : R w0 fp0 L w) (h : VI P w0 fp0 (.cvs (cX x)) e L k) : GivesP P w0 fp0 o a w k := by
  simp only [VI] at h
  obtain ⟨u, hp, h⟩ := gA_elim h
  have ex := ev_eval hA hp
  obtain ⟨b, m, cb, ys, hu, hl, hc, l, hy, hk⟩ := gCells_elim hR h
  rw [hu] at ex
  have hm : m = l.length := by rw [hy] at hl; simpa using hl.symm
  subst hm
  have hrun : (convert s t (.slice b l.length cb)).run P w = .ok (.string ⟨l.toArray⟩) w := by
    cases b with
    | none =>
      have : l = [] := by
        rcases hc with h | ⟨ad, h, _⟩
        · rw [hy] at h; simpa using h
        · cases h
      subst this
      exact run_convert_bytes_nil (P := P) w s el hs he _ _ t ht
    | some ad =>
      refine run_convert_bytes_back w s t el ad cb l hs he ht fun j hj => ?_
      rcases hc with h | ⟨ad', h1, h2⟩
      · rw [hy] at h
        have : l = [] := by simpa using h
        subst this
        simp at hj
      · cases h1
        exact h2 j _ (by rw [hy]; simp [hj])
  refine gives_pure hR (s := .v (.string ⟨l.toArray⟩)) ?_ rfl hk
  simp only [execOp, ho, ex, Sem.run_bind, hrun, Result.andThen_ok, Sem.run_pure, SV.val]

theorem does_apc {t el : TypeId} {x y : Operand} {j : TypeInfo} (ho : o.op = .call { callee := .builtin .append, args := #[x, y], argTypes := #[t, t] }) (ht : P.underlying t = some (.slice el)) (hj : P.info? el = some j) (hpos : 0 < j.size)
    (hA : Agree n e a) (hR : R w0 fp0 L w) (h : VI P w0 fp0 (.apc el j.size (cX x) (cX y)) e L k) : Gives P w0 fp0 o a w k := by
  simp only [VI] at h
  obtain ⟨s, hp, h'⟩ := gA_elim h
  clear h
  obtain ⟨u, hq, h''⟩ := gA_elim h'
  clear h'
  obtain ⟨b, m, cb, ys, hu, hl, hc, hone, h⟩ := gCells_elim hR h''
  clear h''
  have ex := ev_eval hA hp
  have ey := ev_eval hA hq
  rw [hu] at ey
  split at h
  · rename_i key' a1 n1 c1
    split at h
    · rename_i ow hb
      obtain ⟨⟨rfl, rfl, rfl, hT, hS, hm, hroom⟩, hk⟩ := h
      have hrow := own_row hR hb
      rw [hT, hS] at hrow
      obtain ⟨hxl, hrow2⟩ := hrow
      rcases hrow2 with ⟨hv, hn⟩ | ⟨g, cap, cur, hv, _, hg, hncap, hcm, hcs, htake⟩
      · simp only [Value.slice.injEq] at hv; omega
      simp only [Value.slice.injEq] at hv
      obtain ⟨ha, _, hcap⟩ := hv
      have hy0 : ys ≠ [] := by
        intro h0; rw [h0] at hl
        have : 0 < m * j.size := Nat.mul_pos hm hpos
        simp at hl; omega
      obtain ⟨ad, hbad, hcell⟩ : ∃ ad, b = some ad ∧ ∀ i u, ys[i]? = some u → w.cell? (ad.add i) = some u := by
        rcases hc with h | h
        · exact absurd h hy0
        · exact h
      subst hbad
      have hfit : ow.n * j.size + ys.length ≤ cur.size := by rw [hl, hcs, ← Nat.add_mul]; exact Nat.mul_le_mul_right _ (by omega)
      have hrun := run_append_room (P := P) w t o.type el j ht hj g ow.n ow.c cur hg ad m cb ys hl hcell (oneAll_iff hone) hroom hfit
      have hlen : (ow.xs ++ ys).length = (ow.n + m) * j.size := by rw [List.length_append, hxl, hl, Nat.add_mul]
      have hown : (w.setRow g (cur.toList.take (ow.n * j.size) ++ ys ++ cur.toList.drop (ow.n * j.size + ys.length)).toArray).ownsRow 0 ow.T ow.sz (.slice ow.a (ow.n + m) ow.c) (ow.n + m) (ow.xs ++ ys) := by
        rw [hT, hS, ha]
        refine ⟨hlen, .inr ⟨g, ow.c, _, rfl, Nat.zero_le _, setRow_heap w g cur _ el _ hg, hroom, by omega, ?_, ?_⟩⟩
        · simp only [List.size_toArray, List.length_append, List.length_take, List.length_drop, Array.length_toList]
          rw [← hcap] at hcs
          omega
        · rw [htake, ← hlen]
          exact List.take_left
      have hgr : w.grownBy (w.setRow g (cur.toList.take (ow.n * j.size) ++ ys ++ cur.toList.drop (ow.n * j.size + ys.length)).toArray) (Value.slice ow.a ow.n ow.c).ownBlock :=
        ⟨rfl, rfl, rfl, by simp, fun k _ hk => setRow_other w g k _ (fun e => hk (by simp [Value.ownBlock, ha, e]))⟩
      refine ⟨.slice ow.a (ow.n + m) ow.c, _, ?_, .sl key' ow.a (ow.n + m) ow.c, _, rfl, R_app hR hb hown hgr (fun g' hg' => .inl (by rw [ha] at hg' ⊢; exact hg')), hk⟩
      simp only [SV.val] at ex
      rw [ha] at ex ⊢
      simp only [execOp, ho, resolve, invoke, builtin, Sem.run_bind, Sem.run_pure, Result.andThen_ok, List.map_toArray, List.map_cons, List.map_nil, ex, ey, hrun]
    · exact h.elim
  · exact h.elim
end
end Go.EG
