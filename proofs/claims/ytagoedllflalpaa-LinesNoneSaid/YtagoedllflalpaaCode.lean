/- What a whole body asks (VC), and that this is enough: for straight code, branches, blocks, loops, and statements whose order is open. Generic over the program: no condition. -/
import Derived.Test.YtagoedllflalpaaFast
namespace Go.EG
open Go.RowKit
set_option linter.unusedVariables false

/-- An operation with the slot that it writes and its guard (slot, wanted outcome). -/
structure Gop where
  d : Option Nat
  g : Option (Nat × Bool)
  i : I

def putE (d : Option Nat) (s : SV) (e : Env) : Env :=
  match d with
  | some d => (d, s) :: e
  | none => e

/-- A plan for a statement whose order is open: take an operation first; or go over all that may come up. -/
inductive Tr where
  | done
  | take (i : Nat) (t : Tr)
  | alt (i : Nat) (lt : Bool) (t r : Tr)
  | bar (i : Nat) (t : Tr)
  | mov (i : Nat) (t : Tr)
  | nil

inductive C where
  | skip
  | reg (l : List Gop)
  | drw (l : List Gop) (t : Tr)
  | seq (a b : C)
  | cut (a b : C)
  | cond (x : X) (a b : C)
  | blk (id : Nat) (c : C)
  | loop (c : C)
  | exit (id : Nat)
  | ret

section
variable (P : Program) (w0 : World) (fp0 : List Nat)

/-- A guard that wants an outcome. -/
def gcase (b want : Bool) (A B : Prop) : Prop :=
  match want with
  | true => bcase b A B
  | false => bcase b B A

def gGuard (e : Env) (g : Nat) (want : Bool) (A B skip : Prop) : Prop :=
  match look e g with
  | some (.v (.bool b)) => gcase b want A B
  | some (.v (.tuple _)) => skip
  | _ => False

/-- What a value that is read may be taken for. -/
def okPick (L : List Ent) : SV → Prop
  | .sl key a n c => match ownAt key L with
    | some o => o.a = a ∧ o.n = n ∧ o.c = c
    | none => False
  | .mp key b => match mapAt key L with
    | some (b', _, _) => b' = b
    | none => False
  | .ptr key b _ => match boxAt key L with
    | some (b', _, _) => b' = b
    | none => True
  | _ => True
def pickV (s : SV) (L : List Ent) (K : SV → Prop) : Prop := ∃ s' : SV, (s'.val = s.val ∧ okPick L s') ∧ K s'
def pickI (i : I) (s : SV) (L : List Ent) (K : SV → Prop) : Prop :=
  match i with
  | .ld .ptr _ => pickV s L K
  | .ld .slc _ => pickV s L K
  | .ld .map _ => pickV s L K
  | .fld _ .ptr _ => pickV s L K
  | .fld _ .slc _ => pickV s L K
  | .fld _ .map _ => pickV s L K
  | _ => K s
theorem pickI_elim {i : I} {s : SV} {L : List Ent} {K : SV → Prop} (h : pickI i s L K) : ∃ s', s'.val = s.val ∧ K s' := by
  unfold pickI at h
  split at h <;> first | exact ⟨s, rfl, h⟩ | (obtain ⟨s', h1, h2⟩ := h; exact ⟨s', h1.1, h2⟩)
def pickD (d : Option Nat) (i : I) (s : SV) (L : List Ent) (K : SV → Prop) : Prop :=
  match d with
  | some _ => pickI i s L K
  | none => K s
theorem pickD_elim {d : Option Nat} {i : I} {s : SV} {L : List Ent} {K : SV → Prop} (h : pickD d i s L K) : ∃ s', s'.val = s.val ∧ K s' := by
  cases d with
  | none => exact ⟨s, rfl, h⟩
  | some _ => exact pickI_elim h

def VO (io : Gop) (e : Env) (L : List Ent) (K : Env → List Ent → Prop) : Prop :=
  match io with
  | ⟨some d, none, i⟩ => WI P w0 fp0 i e L fun s L' => pickI i s L' fun s => K ((d, s) :: e) L'
  | ⟨none, none, i⟩ => WI P w0 fp0 i e L fun _ L' => K e L'
  | ⟨some d, some (g, want), i⟩ => gGuard e g want (WI P w0 fp0 i ((g, .v (.bool want)) :: e) L fun s L' => pickI i s L' fun s => K ((d, s) :: (g, .v (.bool want)) :: e) L')
      (K ((d, .v undef) :: (g, .v (.bool (!want))) :: e) L) (K ((d, .v undef) :: e) L)
  | ⟨none, some (g, want), i⟩ => gGuard e g want (WI P w0 fp0 i ((g, .v (.bool want)) :: e) L fun _ L' => K ((g, .v (.bool want)) :: e) L')
      (K ((g, .v (.bool (!want))) :: e) L) (K e L)

def VL : List Gop → Env → List Ent → (Env → List Ent → Prop) → Prop
  | [], e, L, K => K e L
  | io :: l, e, L, K => VO P w0 fp0 io e L fun e' L' => VL l e' L' K

/-- A quiet call. -/
def QCall (f : Nat) (args : List Value) (L : List Ent) (K : SV → Prop) : Prop :=
  ∃ s, (∀ w, R w0 fp0 L w → Calls P f args.toArray w fun x w' => x = .returned s.val ∧ Ext w w') ∧ K s

def VQ (i : I) (e : Env) (L : List Ent) (K : SV → Prop) : Prop :=
  match i with
  | .call f args => gVs e args fun l => QCall P w0 fp0 f l L K
  | i => match isQ i with
    | true => WI P w0 fp0 i e L fun s _ => K s
    | false => False

def VS (io : Gop) (e : Env) (L : List Ent) (K : Env → Prop) : Prop :=
  match io with
  | ⟨some d, none, i⟩ => VQ P w0 fp0 i e L fun s => pickI i s L fun s => K ((d, s) :: e)
  | ⟨none, none, i⟩ => VQ P w0 fp0 i e L fun _ => K e
  | ⟨some d, some (g, want), i⟩ => gGuard e g want (VQ P w0 fp0 i ((g, .v (.bool want)) :: e) L fun s => pickI i s L fun s => K ((d, s) :: (g, .v (.bool want)) :: e))
      (K ((d, .v undef) :: (g, .v (.bool (!want))) :: e)) (K ((d, .v undef) :: e))
  | ⟨none, some (g, want), i⟩ => gGuard e g want (VQ P w0 fp0 i ((g, .v (.bool want)) :: e) L fun _ => K ((g, .v (.bool want)) :: e))
      (K ((g, .v (.bool (!want))) :: e)) (K e)

def Ref (L' L : List Ent) : Prop := ∀ w, R w0 fp0 L' w → R w0 fp0 L w

def nthIO (l : List Gop) (i : Nat) (K : Gop → Prop) : Prop :=
  match l, i with
  | io :: _, 0 => K io
  | _ :: l, n + 1 => nthIO l n K
  | [], _ => False

def VT (l : List Gop) (K : Env → List Ent → Prop) : Tr → List Ent → Env → List Ent → Prop
  | .done, _, e, L => K e L
  | .take i t, Lb, e, L => nthIO l i fun io => VS P w0 fp0 io e Lb fun e' => VT l K t Lb e' L
  | .alt i false t .nil, Lb, e, L => nthIO l i fun io => VO P w0 fp0 io e L fun e' L' => VT l K t Lb e' L'
  | .alt i true t .nil, Lb, e, L => nthIO l i fun io => VO P w0 fp0 io e L fun e' L' => Ref w0 fp0 L' Lb ∧ VT l K t Lb e' L'
  | .alt i lt t r, Lb, e, L => Stop ((nthIO l i fun io => VO P w0 fp0 io e L fun e' L' => (lt = true → Ref w0 fp0 L' Lb) ∧ VT l K t Lb e' L') ∧ VT l K r Lb e L)
  | .mov i t, Lb, e, L => nthIO l i fun io => VS P w0 fp0 io e Lb fun e' => VT l K t Lb e' L
  | .bar i t, _, e, L => nthIO l i fun io => VO P w0 fp0 io e L fun e' L' => VT l K t L' e' L'
  | .nil, _, _, _ => True

def kSeq (f : Env → List Ent → Prop) (K : Exit → Env → List Ent → Prop) : Exit → Env → List Ent → Prop
  | .normal, e, L => f e L
  | x, e, L => K x e L

def kBlk (id : Nat) (K : Exit → Env → List Ent → Prop) : Exit → Env → List Ent → Prop
  | .exit id', e, L => if id' = id then K .normal e L else K (.exit id') e L
  | x, e, L => K x e L

/-- Less is known of the slots: each is the same value. -/
def subV : Env → Env → Prop
  | [], _ => True
  | (t, s) :: e', e => gA (look e t) (fun s' => s'.val = s.val) ∧ subV e' e

def kLoop {α : Type} (E : α → Env) (H : α → List Ent) (I : α → Prop) (μ : α → Nat) (m : Nat) (K : Exit → Env → List Ent → Prop) : Exit → Env → List Ent → Prop
  | .normal, e, L => Stop (∃ x, (I x ∧ μ x < m) ∧ subV (E x) e ∧ Ref w0 fp0 L (H x))
  | x, e, L => K x e L

/-- The end of a part behind which all branches come together. -/
def kCut {α : Type} (E : α → Env) (H : α → List Ent) (I : α → Prop) (K : Exit → Env → List Ent → Prop) : Exit → Env → List Ent → Prop
  | .normal, e, L => Stop (∃ x, I x ∧ subV (E x) e ∧ Ref w0 fp0 L (H x))
  | x, e, L => K x e L

def VC : C → (Exit → Env → List Ent → Prop) → Env → List Ent → Prop
  | .skip, K, e, L => K .normal e L
  | .reg l, K, e, L => VL P w0 fp0 l e L (K .normal)
  | .drw l t, K, e, L => VT P w0 fp0 l (K .normal) t L e L
  | .seq a b, K, e, L => VC a (kSeq (VC b K) K) e L
  | .cut a b, K, e, L => Stop (∃ (α : Type) (E : α → Env) (H : α → List Ent) (I : α → Prop), VC a (kCut w0 fp0 E H I K) e L ∧ ∀ x, I x → VC b K (E x) (H x))
  | .cond x a b, K, e, L => gBool (ev e x) fun t => bcase t (VC a K e L) (VC b K e L)
  | .blk id c, K, e, L => VC c (kBlk id K) e L
  | .loop c, K, e, L => Stop (∃ (α : Type) (E : α → Env) (H : α → List Ent) (I : α → Prop) (μ : α → Nat), (∃ x, I x ∧ subV (E x) e ∧ Ref w0 fp0 L (H x)) ∧ ∀ x, I x → VC c (kLoop w0 fp0 E H I μ (μ x) K) (E x) (H x))
  | .exit id, K, e, L => K (.exit id) e L
  | .ret, K, e, L => K .ret e L
end

/-! ### Soundness -/

/-- The outcome as the model's rules take it. -/
def wQ (w0 : World) (fp0 : List Nat) (n : Nat) (K : Exit → Env → List Ent → Prop) : Exit → Act → World → Prop
  | .panic _, _, _ => False
  | .goto _, _, _ => False
  | .outgrown, _, _ => False
  | x, a, w => ∃ e L, Agree n e a ∧ R w0 fp0 L w ∧ K x e L

section
variable {P : Program} {w0 : World} {fp0 : List Nat} {n : Nat} {e : Env} {a : Act} {L : List Ent} {w : World} {o : Oper} {i : I} {fl : Bool}

def okDst (n : Nat) (d : Option Nat) : Prop := ∀ x, d = some x → x < n

theorem agree_put {d : Option Nat} {s : SV} {v : Value} (hA : Agree n e a) (hd : okDst n d) (hv : s.val = v) : Agree n (putE d s e) (a.put d v) := by
  cases d with
  | none => exact hA
  | some x => exact hA.put (hd x rfl) hv

theorem does_wp {k : SV → List Ent → Prop} {K : Act → World → Prop} {Q : Exit → Act → World → Prop} (h : Does P w0 fp0 o a w i k) (hK : ∀ s L' w', R w0 fp0 L' w' → k s L' → K (a.put o.dst s.val) w') : o.wp P a w K Q := by
  unfold Oper.wp
  rcases h with ⟨v, h1, s, L', rfl, hR, hk⟩ | ⟨_, v, w', h1, s, L', rfl, hR, hk⟩ | ⟨_, w', h1, s, L', hs, hR, hk⟩ | ⟨_, f, args, h1, h2⟩
  · rw [h1]; exact hK s L' _ hR hk
  · rw [h1]; exact hK s L' _ hR hk
  · rw [h1]; show K (a.put o.dst undef) w'; rw [← hs]; exact hK s L' _ hR hk
  · rw [h1]
    refine h2.mono fun e w' ⟨v, he, s, L', hs, hR, hk⟩ => ?_
    subst he
    show K (a.put o.dst v) w'
    rw [← hs]
    exact hK s L' _ hR hk

theorem wanted_some {ops : Array Oper} {j : Nat} {g : Nat} {want b : Bool} (hA : Agree n e a) (hg : o.guard = some (j, want)) (hj : (ops[j]?).bind (·.dst) = some g) (hb : look e g = some (.v (.bool b))) : Region.wanted o (yielded ops a.tmps) = (b == want) := by
  have h1 : a.tmps[g]? = some (.bool b) := hA.at_ g _ hb
  simp [Region.wanted, hg, yielded, hj, h1]
theorem wanted_tuple {ops : Array Oper} {j : Nat} {g : Nat} {want : Bool} {vs : Array Value} (hA : Agree n e a) (hg : o.guard = some (j, want)) (hj : (ops[j]?).bind (·.dst) = some g) (hb : look e g = some (.v (.tuple vs))) : Region.wanted o (yielded ops a.tmps) = false := by
  have h1 : a.tmps[g]? = some (.tuple vs) := hA.at_ g _ hb
  simp [Region.wanted, hg, yielded, hj, h1]

theorem agree_same {g : Nat} {s : SV} (hA : Agree n e a) (hb : look e g = some s) : Agree n ((g, s) :: e) a :=
  hA.congr fun t => by
    simp only [look]
    split
    · rename_i h; subst h; exact hb
    · rfl

/-- An operation of the model and its small form. -/
def Comp1 (P : Program) (n : Nat) (ops : Array Oper) (fl : List Nat) (o : Oper) (io : Gop) : Prop :=
  (∃ f, cI P f o.dst o.op = some io.i) ∧ io.d = o.dst ∧ okDst n o.dst ∧
    match o.guard with
    | none => io.g = none
    | some (j, want) => ∃ g, (ops[j]?).bind (·.dst) = some g ∧ io.g = some (g, want)

theorem gcase_elim {b want : Bool} {A B : Prop} (h : gcase b want A B) : (b = want → A) ∧ (b = !want → B) := by
  cases want
  · exact ⟨(bcase_elim h).2, (bcase_elim h).1⟩
  · exact bcase_elim h
theorem gGuard_elim {g : Nat} {want : Bool} {A B sk : Prop} (h : gGuard e g want A B sk) : (∃ b, look e g = some (.v (.bool b)) ∧ (b = want → A) ∧ (b = !want → B)) ∨ (∃ vs, look e g = some (.v (.tuple vs)) ∧ sk) := by
  unfold gGuard at h
  split at h
  · rename_i hb; exact .inl ⟨_, hb, gcase_elim h⟩
  · rename_i hb; exact .inr ⟨_, hb, h⟩
  · exact h.elim

/-- The four forms of an operation, in one. -/
theorem VO_eq {io : Gop} {K : Env → List Ent → Prop} (h : VO P w0 fp0 io e L K) :
    (io.g = none ∧ WI P w0 fp0 io.i e L fun s L' => pickD io.d io.i s L' fun s => K (putE io.d s e) L') ∨
    ∃ g want, io.g = some (g, want) ∧ gGuard e g want (WI P w0 fp0 io.i ((g, .v (.bool want)) :: e) L fun s L' => pickD io.d io.i s L' fun s => K (putE io.d s ((g, .v (.bool want)) :: e)) L')
      (K (putE io.d (.v undef) ((g, .v (.bool (!want))) :: e)) L) (K (putE io.d (.v undef) e) L) := by
  obtain ⟨d, g, i⟩ := io
  cases d <;> rcases g with _ | ⟨g, want⟩
  · exact .inl ⟨rfl, h⟩
  · exact .inr ⟨_, _, rfl, h⟩
  · exact .inl ⟨rfl, h⟩
  · exact .inr ⟨_, _, rfl, h⟩
theorem VS_eq {io : Gop} {K : Env → Prop} (h : VS P w0 fp0 io e L K) :
    (io.g = none ∧ VQ P w0 fp0 io.i e L fun s => pickD io.d io.i s L fun s => K (putE io.d s e)) ∨
    ∃ g want, io.g = some (g, want) ∧ gGuard e g want (VQ P w0 fp0 io.i ((g, .v (.bool want)) :: e) L fun s => pickD io.d io.i s L fun s => K (putE io.d s ((g, .v (.bool want)) :: e)))
      (K (putE io.d (.v undef) ((g, .v (.bool (!want))) :: e))) (K (putE io.d (.v undef) e)) := by
  obtain ⟨d, g, i⟩ := io
  cases d <;> rcases g with _ | ⟨g, want⟩
  · exact .inl ⟨rfl, h⟩
  · exact .inr ⟨_, _, rfl, h⟩
  · exact .inl ⟨rfl, h⟩
  · exact .inr ⟨_, _, rfl, h⟩

theorem gGuard_mono {g : Nat} {want : Bool} {A B sk A' B' sk' : Prop} (h1 : A → A') (h2 : B → B') (h3 : sk → sk') (h : gGuard e g want A B sk) : gGuard e g want A' B' sk' := by
  have key : ∀ {b : Bool} {A B A' B' : Prop}, (A → A') → (B → B') → bcase b A B → bcase b A' B' := fun h1 h2 h => bcase_intro (fun hb => h1 ((bcase_elim h).1 hb)) (fun hb => h2 ((bcase_elim h).2 hb))
  unfold gGuard at h ⊢
  split at h
  · cases want
    · exact key h2 h1 h
    · exact key h1 h2 h
  · exact h3 h
  · exact h
theorem VT_alt {l : List Gop} {Lb : List Ent} {K : Env → List Ent → Prop} {i : Nat} {lt : Bool} {t r : Tr} (h : VT P w0 fp0 l K (.alt i lt t r) Lb e L) :
    ∃ X : Env → List Ent → Prop, (nthIO l i fun io => VO P w0 fp0 io e L X) ∧ (∀ e' L', X e' L' → (lt = true → Ref w0 fp0 L' Lb) ∧ VT P w0 fp0 l K t Lb e' L') ∧ VT P w0 fp0 l K r Lb e L := by
  cases r with
  | nil =>
    cases lt
    · exact ⟨_, h, fun e' L' h => ⟨fun h => (by cases h), h⟩, trivial⟩
    · exact ⟨_, h, fun e' L' h => ⟨fun _ => h.1, h.2⟩, trivial⟩
  | done => cases lt <;> exact ⟨_, h.h.1, fun e' L' h => h, h.h.2⟩
  | take j t' => cases lt <;> exact ⟨_, h.h.1, fun e' L' h => h, h.h.2⟩
  | mov j t' => cases lt <;> exact ⟨_, h.h.1, fun e' L' h => h, h.h.2⟩
  | bar j t' => cases lt <;> exact ⟨_, h.h.1, fun e' L' h => h, h.h.2⟩
  | alt j lt' t' r' => cases lt <;> exact ⟨_, h.h.1, fun e' L' h => h, h.h.2⟩

theorem VO_step {ops : Array Oper} {fl : List Nat} {io : Gop} {K : Env → List Ent → Prop} {K' : Act → World → Prop} {Q : Exit → Act → World → Prop} (hc : Comp1 P n ops fl o io) (hA : Agree n e a) (hR : R w0 fp0 L w) (h : VO P w0 fp0 io e L K)
    (hK : ∀ e' a' L' w', Agree n e' a' → R w0 fp0 L' w' → K e' L' → K' a' w') : if Region.wanted o (yielded ops a.tmps) then o.wp P a w K' Q else K' (a.put o.dst undef) w := by
  obtain ⟨⟨f, hci⟩, hd, hok, hg⟩ := hc
  cases hgo : o.guard with
  | none =>
    rw [hgo] at hg
    simp only at hg
    have hw : Region.wanted o (yielded ops a.tmps) = true := by simp [Region.wanted, hgo]
    rw [if_pos hw]
    rcases VO_eq h with ⟨_, h⟩ | ⟨g, want, hg', _⟩
    · exact does_wp (VI_does hci hA hR (WI_VI h)) fun s L' w' hR' hk => by
        obtain ⟨s', hs', hk⟩ := pickD_elim hk
        exact hK _ _ _ _ (agree_put hA hok hs') hR' (by rw [← hd]; exact hk)
    · rw [hg] at hg'; cases hg'
  | some p =>
    obtain ⟨j, want⟩ := p
    rw [hgo] at hg
    obtain ⟨g, hj, hg⟩ := hg
    rcases VO_eq h with ⟨hg', _⟩ | ⟨g', want', hg', h⟩
    · rw [hg] at hg'; cases hg'
    rw [hg] at hg'
    simp only [Option.some.injEq, Prod.mk.injEq] at hg'
    obtain ⟨rfl, rfl⟩ := hg'
    rcases gGuard_elim h with ⟨b, hb, h1, h2⟩ | ⟨vs, hb, h⟩
    · rw [wanted_some hA hgo hj hb]
      by_cases hbw : b = want
      · rw [if_pos (by simp [hbw])]
        have hA' := agree_same hA (by rw [hbw] at hb; exact hb)
        exact does_wp (VI_does hci hA' hR (WI_VI (h1 hbw))) fun s L' w' hR' hk => by
          obtain ⟨s', hs', hk⟩ := pickD_elim hk
          exact hK _ _ _ _ (agree_put hA' hok hs') hR' (by rw [← hd]; exact hk)
      · have hbn : b = !want := by cases b <;> cases want <;> simp_all
        rw [if_neg (by simp [hbw])]
        have hA' := agree_same hA (by rw [hbn] at hb; exact hb)
        exact hK _ _ _ _ (agree_put hA' hok rfl) hR (by rw [← hd]; exact h2 hbn)
    · rw [wanted_tuple hA hgo hj hb, if_neg (by simp)]
      exact hK _ _ _ _ (agree_put hA hok rfl) hR (by rw [← hd]; exact h)

inductive CompL (P : Program) (n : Nat) (ops : Array Oper) (fl : List Nat) : List Oper → List Gop → Prop
  | nil : CompL P n ops fl [] []
  | cons {o io l l'} : Comp1 P n ops fl o io → CompL P n ops fl l l' → CompL P n ops fl (o :: l) (io :: l')

theorem VL_wp {ops : Array Oper} {fl : List Nat} {K : Exit → Env → List Ent → Prop} : ∀ {l : List Oper} {l' : List Gop} {e : Env} {a : Act} {L : List Ent} {w : World}, CompL P n ops fl l l' → Agree n e a → R w0 fp0 L w → VL P w0 fp0 l' e L (K .normal) → wpList P ops (wQ w0 fp0 n K) l a w
  | [], _, e, a, L, w, hc, hA, hR, h => by
    cases hc
    exact ⟨e, L, hA, hR, h⟩
  | o :: l, _, e, a, L, w, hc, hA, hR, h => by
    cases hc with
    | cons h1 h2 =>
      refine wpList_step fun K' hK' => ?_
      exact VO_step h1 hA hR h fun e' a' L' w' hA' hR' hk => hK' _ _ (VL_wp h2 hA' hR' hk)
end
end Go.EG
