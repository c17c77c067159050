/- What the small form asks is enough: the model's operation, run in any frame and world that the symbolic state describes, does what VI hands on. Generic over the program: no condition. -/
import Derived.Test.YtagoedllflalpaaComp
namespace Go.EG
open Go.RowKit
set_option linter.unusedVariables false
set_option linter.unusedSimpArgs false

section
variable {P : Program} {w0 : World} {fp0 : List Nat} {n : Nat} {e : Env} {a : Act} {L : List Ent} {w : World} {k : SV → List Ent → Prop} {o : Oper}

def Fin (w0 : World) (fp0 : List Nat) (k : SV → List Ent → Prop) (v : Value) (w : World) : Prop := ∃ s L', s.val = v ∧ R w0 fp0 L' w ∧ k s L'

/-- The operation hands back a value. -/
def Gives (P : Program) (w0 : World) (fp0 : List Nat) (o : Oper) (a : Act) (w : World) (k : SV → List Ent → Prop) : Prop :=
  ∃ v w', (execOp a.eval o).run P w = .ok (.value v) w' ∧ Fin w0 fp0 k v w'

/-- The operation hands back a value and leaves the world. -/
def GivesP (P : Program) (w0 : World) (fp0 : List Nat) (o : Oper) (a : Act) (w : World) (k : SV → List Ent → Prop) : Prop :=
  ∃ v, (execOp a.eval o).run P w = .ok (.value v) w ∧ Fin w0 fp0 k v w
theorem GivesP.gives (h : GivesP P w0 fp0 o a w k) : Gives P w0 fp0 o a w k := let ⟨v, h1, h2⟩ := h; ⟨v, w, h1, h2⟩

def isQ : I → Bool
  | .alc .. | .box .. | .bsl .. | .app .. | .mks .. | .st .. | .call .. | .cald .. | .mkm .. | .mup .. | .slo .. | .apz .. | .apc .. | .raw _ => false
  | _ => true

def Does (P : Program) (w0 : World) (fp0 : List Nat) (o : Oper) (a : Act) (w : World) (i : I) (k : SV → List Ent → Prop) : Prop :=
  GivesP P w0 fp0 o a w k ∨
  (isQ i = false ∧ Gives P w0 fp0 o a w k) ∨
  (isQ i = false ∧ ∃ w', (execOp a.eval o).run P w = .ok .skip w' ∧ Fin w0 fp0 k undef w') ∨
  (isQ i = false ∧ ∃ f args, (execOp a.eval o).run P w = .ok (.enter f args) w ∧ Calls P f args w fun e w' => ∃ v, e = .returned v ∧ Fin w0 fp0 k v w')

theorem gives_pure (hR : R w0 fp0 L w) {v : Value} (h : (execOp a.eval o).run P w = .ok (.value v) w) {s : SV} (hs : s.val = v) (hk : k s L) : GivesP P w0 fp0 o a w k :=
  ⟨v, h, s, L, hs, hR, hk⟩

theorem does_mv (x : Operand) (ho : o.op = .move x ∨ o.op = .assign x) (hA : Agree n e a) (hR : R w0 fp0 L w) (h : VI P w0 fp0 (.mv (cX x)) e L k) : GivesP P w0 fp0 o a w k := by
  simp only [VI] at h
  obtain ⟨s, hs, h⟩ := gA_elim h
  have hx := ev_eval hA hs
  refine gives_pure hR (v := a.eval x) ?_ hx.symm h
  rcases ho with ho | ho <;> simp [execOp, ho]

theorem does_pick (c x y : Operand) (ho : o.op = .pick c x y) (hA : Agree n e a) (hR : R w0 fp0 L w) (h : VI P w0 fp0 (.pick (cX c) (cX x) (cX y)) e L k) : GivesP P w0 fp0 o a w k := by
  simp only [VI] at h
  obtain ⟨t, ht, h⟩ := gBool_elim h
  obtain ⟨s, hs, h⟩ := gA_elim h
  obtain ⟨u, hu, h⟩ := gA_elim h
  have h1 := ev_eval hA ht
  have h2 := ev_eval hA hs
  have h3 := ev_eval hA hu
  simp only [SV.val] at h1
  cases t
  · exact gives_pure hR (v := a.eval y) (by simp [execOp, ho, h1, asBool]) h3.symm (h.2 rfl)
  · exact gives_pure hR (v := a.eval x) (by simp [execOp, ho, h1, asBool]) h2.symm (h.1 rfl)

theorem run_eqGuard_int (o : BinOp) (t : TypeId) (x y : Operand) (kd : IntKind) (p q : Int) : (eqGuard o t x y (.int kd p) (.int kd q)).run P w = .ok () w := by
  cases o <;> simp [eqGuard]

theorem exec_bin_int {op : BinOp} {t yt : TypeId} {x y : Operand} (ho : o.op = .binOp op t x y yt) {kd : IntKind} {p q : Int} (hx : a.eval x = .int kd p) (hy : a.eval y = .int kd q) {v : Value}
    (h : (binOp op t (.int kd p) (.int kd q)).run P w = .ok v w) : (execOp a.eval o).run P w = .ok (.value v) w := by
  simp [execOp, ho, hx, hy, run_eqGuard_int, h]

theorem does_ar {op : BinOp} {t yt : TypeId} {x y : Operand} (ho : o.op = .binOp op t x y yt) {kd : IntKind} (hop : isAr op = true) (hA : Agree n e a) (hR : R w0 fp0 L w)
    (h : VI P w0 fp0 (.ar op kd (cX x) (cX y)) e L k ∨ VI P w0 fp0 (.arf op kd (cX x) (cX y)) e L k) : GivesP P w0 fp0 o a w k := by
  rcases h with h | h <;> simp only [VI] at h <;> obtain ⟨p, hp, h⟩ := gInt_elim h <;> obtain ⟨q, hq, h⟩ := gInt_elim h
  · have h := wrapK_elim h
    exact gives_pure hR (exec_bin_int ho (ev_eval hA hp) (ev_eval hA hq) (run_ar hop P w kd p q t)) rfl h
  · have h := flipK_elim h
    exact gives_pure hR (exec_bin_int ho (ev_eval hA hp) (ev_eval hA hq) (run_ar hop P w kd p q t)) rfl h

theorem does_cmp {op : BinOp} {t yt : TypeId} {x y : Operand} (ho : o.op = .binOp op t x y yt) {kd : IntKind} (hop : isCmp op = true) (hA : Agree n e a) (hR : R w0 fp0 L w)
    (h : VI P w0 fp0 (.cmp op kd (cX x) (cX y)) e L k) : GivesP P w0 fp0 o a w k := by
  simp only [VI] at h
  obtain ⟨p, hp, h⟩ := gInt_elim h
  obtain ⟨q, hq, h⟩ := gInt_elim h
  exact gives_pure hR (exec_bin_int ho (ev_eval hA hp) (ev_eval hA hq) (run_cmp hop P w kd p q t)) rfl h

theorem does_bit {op : BinOp} {t yt : TypeId} {x y : Operand} (ho : o.op = .binOp op t x y yt) {kd : IntKind} (hop : isBit op = true) (hA : Agree n e a) (hR : R w0 fp0 L w)
    (h : VI P w0 fp0 (.bit op kd (cX x) (cX y)) e L k) : GivesP P w0 fp0 o a w k := by
  simp only [VI] at h
  obtain ⟨p, hp, h⟩ := gInt_elim h
  obtain ⟨q, hq, ⟨h1, h2, h3, h4⟩, h⟩ := gInt_elim h
  exact gives_pure hR (exec_bin_int ho (ev_eval hA hp) (ev_eval hA hq) (run_bit hop P w kd p q t h1 h2 h3 h4)) rfl h

theorem does_dv {op : BinOp} {t yt : TypeId} {x y : Operand} (ho : o.op = .binOp op t x y yt) {kd : IntKind} {rem : Bool} (hop : op = if rem then .rem else .quo) (hA : Agree n e a) (hR : R w0 fp0 L w)
    (h : VI P w0 fp0 (.dv rem kd (cX x) (cX y)) e L k ∨ VI P w0 fp0 (.dvr rem kd (cX x) (cX y)) e L k) : GivesP P w0 fp0 o a w k := by
  rcases h with h | h <;> simp only [VI] at h <;> obtain ⟨p, hp, h⟩ := gInt_elim h <;> obtain ⟨q, hq, h⟩ := gInt_elim h
  · obtain ⟨⟨h1, h2, h3⟩, h⟩ := h
    have hr := run_dv P w kd p q t h1 h2 h3
    cases rem <;> simp only [if_true, Bool.false_eq_true, if_false] at hop <;> subst hop
    · exact gives_pure hR (exec_bin_int ho (ev_eval hA hp) (ev_eval hA hq) hr.1) rfl h
    · exact gives_pure hR (exec_bin_int ho (ev_eval hA hp) (ev_eval hA hq) hr.2) rfl h
  · obtain ⟨h1, h⟩ := h
    have hr := run_dvr P w kd p q t h1
    cases rem <;> simp only [if_true, Bool.false_eq_true, if_false] at hop <;> subst hop
    · exact gives_pure hR (exec_bin_int ho (ev_eval hA hp) (ev_eval hA hq) hr.1) rfl h
    · exact gives_pure hR (exec_bin_int ho (ev_eval hA hp) (ev_eval hA hq) hr.2) rfl h

theorem run_eqGuard_num (o : BinOp) (t : TypeId) (x y : Operand) (kd kd' : IntKind) (p q : Int) : (eqGuard o t x y (.int kd p) (.int kd' q)).run P w = .ok () w := by
  cases o <;> simp [eqGuard]

theorem does_sh {op : BinOp} {t yt : TypeId} {x y : Operand} (ho : o.op = .binOp op t x y yt) {kd : IntKind} {left : Bool} (hop : op = if left then .shl else .shr) (hA : Agree n e a) (hR : R w0 fp0 L w)
    (h : VI P w0 fp0 (.sh left kd (cX x) (cX y)) e L k) : GivesP P w0 fp0 o a w k := by
  simp only [VI] at h
  obtain ⟨p, hp, h⟩ := gInt_elim h
  obtain ⟨kq, q, hq, ⟨h1, h2⟩, h⟩ := gNum_elim h
  rw [biK_eq] at h2
  have ex := ev_eval hA hp
  have ey := ev_eval hA hq
  simp only [SV.val] at ex ey
  cases left <;> simp only [if_true, Bool.false_eq_true, if_false] at hop <;> subst hop
  · refine gives_pure hR (s := .v (.int kd (p / ((2 ^ q.toNat : Nat) : Int)))) ?_ rfl h
    simp only [execOp, ho, ex, ey, Sem.run_bind, run_eqGuard_num, Result.andThen_ok, run_shr P w kd kq p q t h1 h2, Sem.run_pure, SV.val]
  · simp only at h
    have h := wrapK_elim h
    refine gives_pure hR (s := .v (.int kd (kd.wrap (p * ((2 ^ q.toNat : Nat) : Int))))) ?_ rfl h
    simp only [execOp, ho, ex, ey, Sem.run_bind, run_eqGuard_num, Result.andThen_ok, run_shl P w kd kq p q t h1 h2, Sem.run_pure, SV.val]

theorem does_eqb {op : BinOp} {t yt : TypeId} {x y : Operand} (ho : o.op = .binOp op t x y yt) {ng : Bool} (hop : op = if ng then .neq else .eql) (ht : P.underlying t = some .bool) (hA : Agree n e a) (hR : R w0 fp0 L w)
    (h : VI P w0 fp0 (.eqb ng (cX x) (cX y)) e L k) : GivesP P w0 fp0 o a w k := by
  simp only [VI] at h
  obtain ⟨p, hp, h⟩ := gBool_elim h
  obtain ⟨q, hq, h⟩ := gBool_elim h
  have ex := ev_eval hA hp
  have ey := ev_eval hA hq
  simp only [SV.val] at ex ey
  have he : (Op.equal t (.bool p) (.bool q)).run P w = .ok (p == q) w := run_equalIn_bool' w 9999 t p q ht
  cases ng <;> simp only [if_true, Bool.false_eq_true, if_false] at hop <;> subst hop
  · refine gives_pure hR (s := .v (.bool (p == q))) ?_ rfl h
    simp [execOp, ho, ex, ey, eqGuard, binOp, he, SV.val]
  · refine gives_pure hR (s := .v (.bool (p != q))) ?_ rfl h
    simp [execOp, ho, ex, ey, eqGuard, binOp, he, SV.val, bne]

theorem does_eqs {op : BinOp} {t yt : TypeId} {x y : Operand} (ho : o.op = .binOp op t x y yt) {ng : Bool} (hop : op = if ng then .neq else .eql) (hA : Agree n e a) (hR : R w0 fp0 L w)
    (h : VI P w0 fp0 (.eqs ng (cX x) (cX y)) e L k) : GivesP P w0 fp0 o a w k := by
  simp only [VI] at h
  obtain ⟨s, hp, h⟩ := gA_elim h
  obtain ⟨u, hq, h⟩ := gA_elim h
  have ex := ev_eval hA hp
  have ey := ev_eval hA hq
  split at h
  · simp only [SV.val] at ex ey
    cases ng <;> simp only [if_true, Bool.false_eq_true, if_false] at hop <;> subst hop
    · refine gives_pure hR ?_ rfl h
      simp [execOp, ho, ex, ey, eqGuard, binOp, Op.stringOp, SV.val, beq_toListBytes, ngB]
    · refine gives_pure hR ?_ rfl h
      simp [execOp, ho, ex, ey, eqGuard, binOp, Op.stringOp, SV.val, bne, beq_toListBytes, ngB]
  · exact h.elim

theorem does_not {t : TypeId} {x : Operand} (ho : o.op = .unOp .not t x) (hA : Agree n e a) (hR : R w0 fp0 L w)
    (h : VI P w0 fp0 (.not (cX x)) e L k) : GivesP P w0 fp0 o a w k := by
  simp only [VI] at h
  obtain ⟨p, hp, h⟩ := gBool_elim h
  have ex := ev_eval hA hp
  simp only [SV.val] at ex
  refine gives_pure hR (s := .v (.bool (!p))) ?_ rfl h
  simp [execOp, ho, ex, Op.unary, SV.val]

theorem does_neg {t : TypeId} {x : Operand} {kd : IntKind} (ho : o.op = .unOp .neg t x) (hA : Agree n e a) (hR : R w0 fp0 L w)
    (h : VI P w0 fp0 (.neg kd (cX x)) e L k) : GivesP P w0 fp0 o a w k := by
  simp only [VI] at h
  obtain ⟨p, hp, h⟩ := gInt_elim h
  have h := wrapK_elim h
  have ex := ev_eval hA hp
  simp only [SV.val] at ex
  refine gives_pure hR (s := .v (.int kd (kd.wrap (0 - p)))) ?_ rfl h
  simp [execOp, ho, ex, Op.unary, Op.intArith, SV.val]

theorem does_cv {s t : TypeId} {x : Operand} {kd ks : IntKind} (ho : o.op = .convert s t x) (hs : P.underlying s = some (.int ks)) (ht : P.underlying t = some (.int kd)) (hA : Agree n e a) (hR : R w0 fp0 L w)
    (h : VI P w0 fp0 (.cv kd (cX x)) e L k ∨ VI P w0 fp0 (.cvf kd (cX x)) e L k) : GivesP P w0 fp0 o a w k := by
  have hrun : ∀ (kx : IntKind) (p : Int), a.eval x = .int kx p → (execOp a.eval o).run P w = .ok (.value (.int kd (kd.wrap p))) w := fun kx p ex => by
    simp [execOp, ho, ex, convert, run_underlying hs, run_underlying ht, Conv.intToInt]
  rcases h with h | h <;> simp only [VI] at h <;> obtain ⟨kx, p, hp, h⟩ := gNum_elim h
  · exact gives_pure hR (hrun kx p (ev_eval hA hp)) rfl (wrapK_elim h)
  · exact gives_pure hR (hrun kx p (ev_eval hA hp)) rfl (flipK_elim h)

theorem does_ext {x : Operand} {i : Nat} (ho : o.op = .extract x i) (hA : Agree n e a) (hR : R w0 fp0 L w)
    (h : VI P w0 fp0 (.ext (cX x) i) e L k) : GivesP P w0 fp0 o a w k := by
  simp only [VI] at h
  obtain ⟨s, hp, h⟩ := gA_elim h
  have ex := ev_eval hA hp
  split at h
  · rename_i vs
    obtain ⟨v, hv, h⟩ := gV_elim h
    rw [nth_eq, Array.getElem?_toList] at hv
    simp only [SV.val] at ex
    refine gives_pure hR (s := .v v) ?_ rfl h
    simp [execOp, ho, ex, Instr.extract, hv, SV.val]
  · exact h.elim

theorem does_mki {t : TypeId} {x : Operand} {d : TypeDesc} (ho : o.op = .makeInterface t x) (hd : P.underlying t = some d) (hi : ∀ ms, d ≠ .interface ms) (hA : Agree n e a) (hR : R w0 fp0 L w)
    (h : VI P w0 fp0 (.mki t (cX x)) e L k) : GivesP P w0 fp0 o a w k := by
  simp only [VI] at h
  obtain ⟨s, hp, h⟩ := gA_elim h
  have ex := ev_eval hA hp
  refine gives_pure hR (s := .v (.iface t s.val)) ?_ rfl h
  cases d <;> first | exact absurd rfl (hi _) | simp [execOp, ho, ex, Instr.makeInterface, run_underlying hd, SV.val]

theorem does_nil {x : Operand} (ho : o.op = .nilCheck x) (hA : Agree n e a) (hR : R w0 fp0 L w)
    (h : VI P w0 fp0 (.nil (cX x)) e L k) : GivesP P w0 fp0 o a w k := by
  simp only [VI] at h
  obtain ⟨s, hp, h⟩ := gA_elim h
  have ex := ev_eval hA hp
  have key : ∀ ad, s.val = .pointer (some ad) → k s L → GivesP P w0 fp0 o a w k := fun ad hs hk => by
    refine gives_pure hR (v := .pointer (some ad)) ?_ hs hk
    simp [execOp, ho, ex, hs]
  split at h
  · rename_i p
    obtain ⟨h1, h⟩ := h
    obtain ⟨ad, rfl⟩ := Option.ne_none_iff_exists'.1 h1
    exact key ad rfl h
  · exact key _ rfl h
  · rename_i a' _
    obtain ⟨ad, rfl⟩ := Option.ne_none_iff_exists'.1 h.1
    exact key _ rfl h.2
  · obtain ⟨ad, rfl⟩ := Option.ne_none_iff_exists'.1 (okA_ne hR h.1)
    exact key _ rfl h.2
  · exact h.elim

theorem add_add (ad : Addr) (i j : Nat) : (ad.add i).add j = ad.add (i + j) := by
  unfold Addr.add
  by_cases h1 : i = 0
  · simp [h1]
  · by_cases h2 : j = 0
    · simp [h1, h2]
    · have h3 : ¬ i + j = 0 := by omega
      simp [h1, h2, h3, Nat.add_assoc]

theorem add_lit' (b off j : Nat) : (⟨b, off, none⟩ : Addr).add j = ⟨b, off + j, none⟩ := by
  unfold Addr.add; split <;> simp_all

theorem does_fa {t : TypeId} {x : Operand} {f : Nat} {fs : Array Field} {fd : Field} {j : TypeInfo} (ho : o.op = .fieldAddr t x f) (ht : P.underlying t = some (.struct fs)) (hf : fs[f]? = some fd) (hj : P.info? fd.type = some j) (hs : 0 < j.size)
    (hA : Agree n e a) (hR : R w0 fp0 L w) (h : VI P w0 fp0 (.fa fd.offset (cX x)) e L k) : GivesP P w0 fp0 o a w k := by
  simp only [VI] at h
  obtain ⟨s, hp, h⟩ := gA_elim h
  have ex := ev_eval hA hp
  have key : ∀ ad (s' : SV), s.val = .pointer (some ad) → s'.val = .pointer (some (ad.add fd.offset)) → k s' L → GivesP P w0 fp0 o a w k := fun ad s' hs' hs'' hk => by
    refine gives_pure hR (v := .pointer (some (ad.add fd.offset))) ?_ hs'' hk
    have hj0 : ¬ j.size = 0 := by omega
    simp [execOp, ho, ex, hs', Instr.fieldAt, run_underlying ht, hf, Instr.sureAddr, fieldPlace, sizeOf, typeInfo, hj, hj0]
  split at h
  · exact key _ _ rfl (by simp [SV.val, add_lit']) h
  · obtain ⟨h1, h⟩ := h
    obtain ⟨ad, rfl⟩ := Option.ne_none_iff_exists'.1 h1
    exact key _ _ rfl (by simp [SV.val, add_add]) h
  · obtain ⟨h1, h⟩ := h
    obtain ⟨ad, rfl⟩ := Option.ne_none_iff_exists'.1 (okA_ne hR h1)
    exact key _ _ rfl (by simp [SV.val, add_add]) h
  · exact key _ _ rfl rfl h
  · exact h.elim

theorem does_iaa {t el : TypeId} {len : Nat} {x y : Operand} {j : TypeInfo} (ho : o.op = .indexAddr t x y) (ht : P.underlying t = some (.array len el)) (hj : P.info? el = some j)
    (hA : Agree n e a) (hR : R w0 fp0 L w) (h : VI P w0 fp0 (.iaa j.size len (cX x) (cX y)) e L k) : GivesP P w0 fp0 o a w k := by
  simp only [VI] at h
  obtain ⟨s, hp, h⟩ := gA_elim h
  obtain ⟨kq, i, hq, h⟩ := gNum_elim h
  have ex := ev_eval hA hp
  have ey := ev_eval hA hq
  simp only [SV.val] at ey
  have key : ∀ ad (s' : SV), s.val = .pointer (some ad) → 0 ≤ i → i < (len : Int) → s'.val = .pointer (some (ad.add (i.toNat * j.size))) → k s' L → GivesP P w0 fp0 o a w k := fun ad s' hs' h1 h2 hs'' hk => by
    refine gives_pure hR (v := .pointer (some (ad.add (i.toNat * j.size)))) ?_ hs'' hk
    simp [execOp, ho, ex, ey, hs', Instr.indexAt, run_underlying ht, asIntOf, sizeOf, typeInfo, hj, h1, h2, Instr.sureAddr]
  split at h
  · exact key _ _ rfl h.1.1 h.1.2 rfl h.2
  · exact key _ _ rfl h.1.1 h.1.2 (by simp [SV.val, add_lit']) h.2
  · exact h.elim

theorem does_ia {t el : TypeId} {x y : Operand} {j : TypeInfo} (ho : o.op = .indexAddr t x y) (ht : P.underlying t = some (.slice el)) (hj : P.info? el = some j)
    (hA : Agree n e a) (hR : R w0 fp0 L w) (h : VI P w0 fp0 (.ia j.size (cX x) (cX y)) e L k) : GivesP P w0 fp0 o a w k := by
  simp only [VI] at h
  obtain ⟨s, hp, h⟩ := gA_elim h
  obtain ⟨kq, i, hq, h⟩ := gNum_elim h
  have ex := ev_eval hA hp
  have ey := ev_eval hA hq
  simp only [SV.val] at ey
  have key : ∀ ad len c (s' : SV), s.val = .slice (some ad) len c → 0 ≤ i → i < (len : Int) → s'.val = .pointer (some (ad.add (i.toNat * j.size))) → k s' L → GivesP P w0 fp0 o a w k := fun ad len c s' hs' h1 h2 hs'' hk => by
    refine gives_pure hR (v := .pointer (some (ad.add (i.toNat * j.size)))) ?_ hs'' hk
    simp [execOp, ho, ex, ey, hs', Instr.indexAt, run_underlying ht, asIntOf, sizeOf, typeInfo, hj, h1, h2]
  split at h
  · obtain ⟨⟨h1, h2⟩, h3, h⟩ := h
    obtain ⟨ad, rfl⟩ := Option.ne_none_iff_exists'.1 h3
    exact key _ _ _ _ rfl h1 h2 rfl h
  · obtain ⟨⟨h1, h2⟩, h3, h⟩ := h
    obtain ⟨ad, rfl⟩ := Option.ne_none_iff_exists'.1 (okA_ne hR h3)
    exact key _ _ _ _ rfl h1 h2 rfl h
  · exact h.elim

theorem does_lens {t el ty : TypeId} {x : Operand} (ho : o.op = .call { callee := .builtin .len, args := #[x], argTypes := #[t] }) (ht : P.underlying t = some (.slice el))
    (hA : Agree n e a) (hR : R w0 fp0 L w) (h : VI P w0 fp0 (.lens (cX x)) e L k) : GivesP P w0 fp0 o a w k := by
  simp only [VI] at h
  obtain ⟨s, hp, h⟩ := gA_elim h
  have ex := ev_eval hA hp
  split at h
  · simp only [SV.val] at ex
    refine gives_pure hR ?_ rfl h
    simp [execOp, ho, ex, resolve, invoke, builtin, Builtin.len_, run_underlying ht, goInt, SV.val]
  · simp only [SV.val] at ex
    refine gives_pure hR ?_ rfl h
    simp [execOp, ho, ex, resolve, invoke, builtin, Builtin.len_, run_underlying ht, goInt, SV.val]
  · exact h.elim

theorem does_lent {t : TypeId} {x : Operand} (ho : o.op = .call { callee := .builtin .len, args := #[x], argTypes := #[t] }) (ht : P.underlying t = some .string)
    (hA : Agree n e a) (hR : R w0 fp0 L w) (h : VI P w0 fp0 (.lent (cX x)) e L k) : GivesP P w0 fp0 o a w k := by
  simp only [VI] at h
  obtain ⟨s, hp, h⟩ := gA_elim h
  have ex := ev_eval hA hp
  split at h
  · simp only [SV.val] at ex
    refine gives_pure hR ?_ rfl h
    simp [execOp, ho, ex, resolve, invoke, builtin, Builtin.len_, run_underlying ht, goInt, SV.val]
  · exact h.elim

theorem does_mm {ts : Array TypeId} {x y : Operand} {mx : Bool} {kd : IntKind} (ho : o.op = .call { callee := .builtin (if mx then .max else .min), args := #[x, y], argTypes := ts })
    (hA : Agree n e a) (hR : R w0 fp0 L w) (h : VI P w0 fp0 (.mm mx kd (cX x) (cX y)) e L k) : GivesP P w0 fp0 o a w k := by
  simp only [VI] at h
  obtain ⟨p, hp, h⟩ := gInt_elim h
  obtain ⟨q, hq, h⟩ := gInt_elim h
  have ex := ev_eval hA hp
  have ey := ev_eval hA hq
  simp only [SV.val] at ex ey
  cases mx
  · refine gives_pure hR ?_ rfl h
    simp [execOp, ho, ex, ey, resolve, invoke, builtin, Builtin.min_, Builtin.min2, SV.val]
  · refine gives_pure hR ?_ rfl h
    simp [execOp, ho, ex, ey, resolve, invoke, builtin, Builtin.max_, Builtin.max2, SV.val]
end
end Go.EG
