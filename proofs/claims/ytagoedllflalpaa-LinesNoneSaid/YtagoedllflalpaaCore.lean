/- A symbolic state for walks of Go functions: an environment (slot to symbolic value) and a heap description (a list of entries with disjoint footprints), with the relation to a frame and a world. Generic over the program: no condition. -/
import Derived.WalkKit
import Derived.WalkSpells
import Derived.WalkLawsBesides
import Derived.Lib.Hide
import Derived.Deep.Quiet
import Derived.OrdersHeld
namespace Go.EG
open Go.RowKit

/-- A symbolic value: a value; a pointer into a box of the heap list, with the box's key; a pointer that lies k cells behind an address; an owned slice, with its row's key; a pointer k cells into an owned row. -/
inductive SV where
  | v (x : Value)
  | ptr (key b off : Nat)
  | el (a : Option Addr) (k : Nat)
  | sl (key : Nat) (a : Option Addr) (n c : Nat)
  | ek (key : Nat) (a : Option Addr) (k : Nat)
  | mp (key b : Nat)

def SV.val : SV → Value
  | .v x => x
  | .ptr _ b off => .pointer (some ⟨b, off, none⟩)
  | .el a k => .pointer (a.map (·.add k))
  | .sl _ a n c => .slice a n c
  | .ek _ a k => .pointer (a.map (·.add k))
  | .mp _ b => .map (some b)

abbrev Env := List (Nat × SV)

def look : Env → Nat → Option SV
  | [], _ => none
  | (k, v) :: e, t => if k = t then some v else look e t

structure Agree (n : Nat) (e : Env) (a : Act) : Prop where
  size : a.tmps.size = n
  defers : a.defers = []
  at_ : ∀ t s, look e t = some s → a.tmps[t]? = some s.val

theorem Agree.getD {n : Nat} {e : Env} {a : Act} (h : Agree n e a) {t : Nat} {s : SV} (hl : look e t = some s) : a.tmps.getD t undef = s.val := by
  have := h.at_ t s hl
  simp [Array.getD_eq_getD_getElem?, this]

theorem Agree.put {n : Nat} {e : Env} {a : Act} (h : Agree n e a) {d : Nat} {s : SV} {v : Value} (hd : d < n) (hv : s.val = v) : Agree n ((d, s) :: e) (a.put (some d) v) := by
  refine ⟨by simp [Act.put, h.size], h.defers, fun t u hl => ?_⟩
  simp only [look] at hl
  simp only [Act.put]
  split at hl
  · rename_i hdt
    subst hdt
    cases hl
    simp [h.size, hd, hv]
  · rename_i hdt
    rw [Array.getElem?_setIfInBounds_ne hdt]
    exact h.at_ t u hl

theorem Agree.putNone {n : Nat} {e : Env} {a : Act} (h : Agree n e a) (v : Value) : Agree n e (a.put none v) := h

/-- Two environments that read alike. -/
def EnvEq (e e' : Env) : Prop := ∀ t, look e t = look e' t

theorem EnvEq.refl (e : Env) : EnvEq e e := fun _ => rfl
theorem EnvEq.symm {e e' : Env} (h : EnvEq e e') : EnvEq e' e := fun t => (h t).symm
theorem EnvEq.trans {a b c : Env} (h : EnvEq a b) (k : EnvEq b c) : EnvEq a c := fun t => (h t).trans (k t)
theorem EnvEq.cons {e e' : Env} (h : EnvEq e e') (x : Nat × SV) : EnvEq (x :: e) (x :: e') := fun t => by
  simp only [look]; split
  · rfl
  · exact h t
theorem EnvEq.swap {d d' : Nat} (h : d ≠ d') (s s' : SV) (e : Env) : EnvEq ((d, s) :: (d', s') :: e) ((d', s') :: (d, s) :: e) := fun t => by
  simp only [look]
  by_cases h1 : d = t
  · have h2 : ¬ d' = t := fun h2 => h (h1.trans h2.symm)
    simp [h1, h2]
  · simp [h1]
theorem Agree.congr {n : Nat} {e e' : Env} {a : Act} (h : Agree n e a) (he : EnvEq e e') : Agree n e' a :=
  ⟨h.size, h.defers, fun t s hl => h.at_ t s ((he t).trans hl)⟩

/-- Less is known. -/
def Sub (e' e : Env) : Prop := ∀ x ∈ e', look e x.1 = some x.2
theorem look_mem {e : Env} {t : Nat} {s : SV} (h : look e t = some s) : (t, s) ∈ e := by
  induction e with
  | nil => cases h
  | cons x e ih =>
    obtain ⟨k, v⟩ := x
    simp only [look] at h
    split at h
    · rename_i hk
      cases h
      subst hk
      exact List.mem_cons_self
    · exact List.mem_cons_of_mem _ (ih h)
theorem Agree.sub {n : Nat} {e e' : Env} {a : Act} (h : Agree n e a) (hs : Sub e' e) : Agree n e' a :=
  ⟨h.size, h.defers, fun t s hl => h.at_ t s (hs (t, s) (look_mem hl))⟩
theorem Sub.nil (e : Env) : Sub [] e := fun _ h => by cases h
theorem Sub.cons {e' e : Env} {t : Nat} {s : SV} (h : look e t = some s) (k : Sub e' e) : Sub ((t, s) :: e') e := fun x hx => by
  rcases List.mem_cons.1 hx with rfl | hx
  · exact h
  · exact k x hx
/-- The same by reckoning: one equation an entry. -/
def subB : Env → Env → Prop
  | [], _ => True
  | (t, s) :: e', e => look e t = some s ∧ subB e' e
theorem subB.sub : ∀ {e' e : Env}, subB e' e → Sub e' e
  | [], _, _ => Sub.nil _
  | (_, _) :: _, _, h => Sub.cons h.1 (subB.sub h.2)

/-! ### The heap -/

/-- What a one-cell load yields, by its type. -/
inductive LK where
  | int (k : IntKind) | bool | str | ptr | slc | map | raw

/-- Kinds of a map's keys: integers; structs of integers and bools. -/
inductive KK where
  | int (k : IntKind)
  | agg (ks : List LK)

def okCells : List Value → List Value → List LK → Prop
  | .int k _ :: xs, .int k' _ :: ys, .int k'' :: ks => (k = k'' ∧ k' = k'') ∧ okCells xs ys ks
  | .bool _ :: xs, .bool _ :: ys, .bool :: ks => okCells xs ys ks
  | [], [], [] => True
  | _, _, _ => False

def keyOk : KK → Value → Prop
  | .int k, v => ∃ n, v = .int k n
  | .agg ks, v => ∃ cs : Array Value, v = .agg cs ∧ okCells cs.toList cs.toList ks

inductive Ent where
  | mapE (key b : Nat) (kk : KK) (m : List (Value × Value))
  | box (key b : Nat) (cs : List Value) (T : TypeId)
  | own (key : Nat) (a : Option Addr) (n c : Nat) (T sz : Nat) (xs : List Value)
  | abs (key : Nat) (fp : List Nat) (ok : World → Prop)

def Ent.fp : Ent → List Nat
  | .mapE _ b _ _ => [b]
  | .box _ b _ _ => [b]
  | .own _ a n c _ _ _ => (Value.slice a n c).ownBlock.toList
  | .abs _ fp _ => fp

def SameOn (fp : List Nat) (w w' : World) : Prop := ∀ b ∈ fp, w'.heap[b]? = w.heap[b]?

def Ent.ok (w : World) : Ent → Prop
  | .mapE _ b kk m => ∃ es clock, w.heap[b]? = some (.map es clock) ∧ es.toList.map (fun e => (e.key, e.val)) = m ∧ ∀ p ∈ m, keyOk kk p.1
  | .box _ b cs T => w.heap[b]? = some (.cells cs.toArray T (0, 0))
  | .own _ a n c T sz xs => w.ownsRow 0 T sz (.slice a n c) n xs
  | .abs _ fp ok => ∀ w', SameOn fp w w' → ok w'

def fps (L : List Ent) : List Nat := L.flatMap Ent.fp

theorem fps_nil : fps [] = [] := rfl
theorem fps_cons (e : Ent) (L : List Ent) : fps (e :: L) = e.fp ++ fps L := rfl
theorem fps_append (L L' : List Ent) : fps (L ++ L') = fps L ++ fps L' := by simp [fps]

theorem Ent.ok_same {w w' : World} {e : Ent} (h : e.ok w) (hs : SameOn e.fp w w') : e.ok w' := by
  cases e with
  | mapE key b kk m =>
    obtain ⟨es, c, h1, h2⟩ := h
    exact ⟨es, c, (hs b (by simp [Ent.fp])).trans h1, h2⟩
  | box key b cs T => exact (hs b (by simp [Ent.fp])).trans h
  | own key a n c T sz xs =>
    obtain ⟨h1, h2⟩ := h
    refine ⟨h1, ?_⟩
    rcases h2 with h2 | ⟨g, cap, cur, hv, hg, hh, r⟩
    · exact .inl h2
    · refine .inr ⟨g, cap, cur, hv, hg, ?_, r⟩
      rw [hs g (by simp [Ent.fp, hv, Value.ownBlock])]
      exact hh
  | abs key fp ok => exact fun w'' hw => h w'' fun b hb => (hw b hb).trans (hs b hb)

theorem Ent.abs_ok {w : World} {key : Nat} {fp : List Nat} {ok : World → Prop} (h : (Ent.abs key fp ok).ok w) : ok w := h w fun _ _ => rfl

/-- The world w, reached from w0, where only blocks of fp0 (and new ones) may have been written: the entries of L hold in it, on blocks of their own. -/
structure R (w0 : World) (fp0 : List Nat) (L : List Ent) (w : World) : Prop where
  os : w.os = w0.os
  tape : w.tape = w0.tape
  output : w.output = w0.output
  size : w0.heap.size ≤ w.heap.size
  old : ∀ b, b < w0.heap.size → b ∉ fp0 → w.heap[b]? = w0.heap[b]?
  nodup : (fps L).Nodup
  range : ∀ b ∈ fps L, (b ∈ fp0 ∨ w0.heap.size ≤ b) ∧ b < w.heap.size
  ok : ∀ e ∈ L, e.ok w

section
variable {w0 w w' : World} {fp0 : List Nat} {L L' : List Ent}

theorem fps_perm (h : L.Perm L') : (fps L).Perm (fps L') := h.flatMap_right _

theorem R.perm (h : R w0 fp0 L w) (hp : L.Perm L') : R w0 fp0 L' w :=
  ⟨h.os, h.tape, h.output, h.size, h.old, (fps_perm hp).nodup h.nodup, fun b hb => h.range b ((fps_perm hp).mem_iff.2 hb), fun e he => h.ok e (hp.mem_iff.2 he)⟩

theorem fps_sub {L L' : List Ent} (hs : L'.Sublist L) : (fps L').Sublist (fps L) := by
  induction hs with
  | slnil => exact List.Sublist.refl _
  | cons a _ ih => rw [fps_cons]; exact ih.trans (List.sublist_append_right _ _)
  | cons_cons a _ ih => rw [fps_cons, fps_cons]; exact (List.append_sublist_append_left _).2 ih

theorem R.sub (h : R w0 fp0 L w) (hs : L'.Sublist L) : R w0 fp0 L' w :=
  ⟨h.os, h.tape, h.output, h.size, h.old, (fps_sub hs).nodup h.nodup, fun b hb => h.range b ((fps_sub hs).subset hb), fun e he => h.ok e (hs.subset he)⟩

theorem R.tail {e : Ent} (h : R w0 fp0 (e :: L) w) : R w0 fp0 L w := h.sub (List.sublist_cons_self _ _)

/-- The world's heap alone counts (and os, tape, output). -/
theorem R.heap (h : R w0 fp0 L w) (e1 : w'.heap = w.heap) (e2 : w'.os = w.os) (e3 : w'.tape = w.tape) (e4 : w'.output = w.output) : R w0 fp0 L w' :=
  ⟨e2.trans h.os, e3.trans h.tape, e4.trans h.output, by rw [e1]; exact h.size, fun b hb hn => by rw [e1]; exact h.old b hb hn, h.nodup,
   fun b hb => by rw [e1]; exact h.range b hb, fun e he => Ent.ok_same (h.ok e he) fun b _ => by rw [e1]⟩

theorem R.drew (h : R w0 fp0 L w) : R w0 fp0 L w.drew := h.heap rfl rfl rfl rfl

/-- Behind whatever only makes new blocks. -/
theorem R.below (h : R w0 fp0 L w) (hb : Below w.heap.size w w') : R w0 fp0 L w' := by
  refine ⟨hb.os.trans h.os, hb.tape.trans h.tape, hb.output.trans h.output, Nat.le_trans h.size hb.size, fun b hlt hn => ?_, h.nodup, fun b hm => ?_, fun e he => ?_⟩
  · rw [hb.block b (Nat.lt_of_lt_of_le hlt h.size)]; exact h.old b hlt hn
  · exact ⟨(h.range b hm).1, Nat.lt_of_lt_of_le (h.range b hm).2 hb.size⟩
  · refine Ent.ok_same (h.ok e he) fun b hm => hb.block b ?_
    exact (h.range b (List.mem_flatMap.2 ⟨e, he, hm⟩)).2

/-- A new block. -/
theorem R.alloc (h : R w0 fp0 L w) (e : Ent) (o : Obj) (hf : e.fp = [w.heap.size]) (hk : e.ok (w.alloc o)) : R w0 fp0 (e :: L) (w.alloc o) := by
  have hb : Below w.heap.size w (w.alloc o) := (Below.refl _ _).alloc (Nat.le_refl _) o
  have h' := h.below hb
  refine ⟨h'.os, h'.tape, h'.output, h'.size, h'.old, ?_, fun b hm => ?_, fun x hx => ?_⟩
  · rw [fps_cons, hf]
    refine List.nodup_cons.2 ⟨fun hm => ?_, h.nodup⟩
    have := (h.range _ hm).2
    omega
  · rw [fps_cons, hf] at hm
    rcases List.mem_cons.1 hm with rfl | hm
    · exact ⟨.inr h.size, by simp⟩
    · exact h'.range b hm
  · rcases List.mem_cons.1 hx with rfl | hx
    · exact hk
    · exact h'.ok x hx

theorem R.box (h : R w0 fp0 L w) (key : Nat) (cs : List Value) (T : TypeId) : R w0 fp0 (.box key w.heap.size cs T :: L) (w.alloc (.cells cs.toArray T)) :=
  h.alloc _ _ rfl (heap_alloc_new w _)

/-- A callee that was handed the entries L0. -/
theorem R.call {L0 L1 Lr : List Ent} (h : R w0 fp0 (L0 ++ Lr) w) (k : R w (fps L0) L1 w') : R w0 fp0 (L1 ++ Lr) w' := by
  have hnd := h.nodup
  rw [fps_append] at hnd
  have hdis : ∀ b ∈ fps L0, b ∉ fps Lr := fun b h1 h2 => (List.nodup_append.1 hnd).2.2 b h1 b h2 rfl
  have hr : ∀ b ∈ fps Lr, (b ∈ fp0 ∨ w0.heap.size ≤ b) ∧ b < w.heap.size := fun b hb => h.range b (by rw [fps_append]; exact List.mem_append_right _ hb)
  have h0 : ∀ b ∈ fps L0, (b ∈ fp0 ∨ w0.heap.size ≤ b) ∧ b < w.heap.size := fun b hb => h.range b (by rw [fps_append]; exact List.mem_append_left _ hb)
  refine ⟨k.os.trans h.os, k.tape.trans h.tape, k.output.trans h.output, Nat.le_trans h.size k.size, fun b hb hn => ?_, ?_, fun b hm => ?_, fun e he => ?_⟩
  · rw [k.old b (Nat.lt_of_lt_of_le hb h.size) (fun hm => (h0 b hm).1.elim hn (fun h1 => by omega))]
    exact h.old b hb hn
  · rw [fps_append, List.nodup_append]
    refine ⟨k.nodup, (List.nodup_append.1 hnd).2.1, fun a ha b hb hab => ?_⟩
    subst hab
    rcases (k.range a ha).1 with h1 | h1
    · exact hdis a h1 hb
    · have := (hr a hb).2
      omega
  · rw [fps_append] at hm
    rcases List.mem_append.1 hm with hm | hm
    · refine ⟨?_, (k.range b hm).2⟩
      rcases (k.range b hm).1 with h1 | h1
      · exact (h0 b h1).1
      · exact .inr (Nat.le_trans h.size h1)
    · exact ⟨(hr b hm).1, Nat.lt_of_lt_of_le (hr b hm).2 k.size⟩
  · rcases List.mem_append.1 he with he | he
    · exact k.ok e he
    · refine Ent.ok_same (h.ok e (List.mem_append_right _ he)) fun b hm => ?_
      have hm' : b ∈ fps Lr := List.mem_flatMap.2 ⟨e, he, hm⟩
      exact k.old b (hr b hm').2 (fun h1 => hdis b h1 hm')

/-- The heap's head entry is written. -/
theorem R.write {e e' : Ent} (h : R w0 fp0 (e :: L) w) (hf : ∀ b ∈ e'.fp, b ∈ e.fp) (hn : e'.fp.Nodup) (hk : e'.ok w') (hsz : w'.heap.size = w.heap.size) (e2 : w'.os = w.os) (e3 : w'.tape = w.tape) (e4 : w'.output = w.output)
    (hsame : ∀ b, b ∉ e.fp → w'.heap[b]? = w.heap[b]?) : R w0 fp0 (e' :: L) w' := by
  have hnd := h.nodup
  rw [fps_cons] at hnd
  have hdis : ∀ b ∈ e.fp, b ∉ fps L := fun b h1 h2 => (List.nodup_append.1 hnd).2.2 b h1 b h2 rfl
  have hre : ∀ b ∈ e.fp, (b ∈ fp0 ∨ w0.heap.size ≤ b) ∧ b < w.heap.size := fun b hb => h.range b (by rw [fps_cons]; exact List.mem_append_left _ hb)
  refine ⟨e2.trans h.os, e3.trans h.tape, e4.trans h.output, by rw [hsz]; exact h.size, fun b hb hnb => ?_, ?_, fun b hm => ?_, fun x hx => ?_⟩
  · rw [hsame b (fun hm => (hre b hm).1.elim hnb (fun h1 => by omega))]
    exact h.old b hb hnb
  · rw [fps_cons, List.nodup_append]
    refine ⟨hn, (List.nodup_append.1 hnd).2.1, fun a ha b hb hab => ?_⟩
    subst hab
    exact hdis a (hf a ha) hb
  · rw [hsz]
    rw [fps_cons] at hm
    rcases List.mem_append.1 hm with hm | hm
    · exact hre b (hf b hm)
    · exact h.range b (by rw [fps_cons]; exact List.mem_append_right _ hm)
  · rcases List.mem_cons.1 hx with rfl | hx
    · exact hk
    · refine Ent.ok_same (h.ok x (List.mem_cons_of_mem _ hx)) fun b hm => hsame b fun h1 => hdis b h1 (List.mem_flatMap.2 ⟨x, hx, hm⟩)

/-- The heap's head entry is written, or moves to a new block. -/
theorem R.grow {e e' : Ent} (h : R w0 fp0 (e :: L) w) (hf : ∀ b ∈ e'.fp, b ∈ e.fp ∨ (w.heap.size ≤ b ∧ b < w'.heap.size)) (hn : e'.fp.Nodup) (hk : e'.ok w') (hsz : w.heap.size ≤ w'.heap.size) (e2 : w'.os = w.os) (e3 : w'.tape = w.tape) (e4 : w'.output = w.output)
    (hsame : ∀ b, b < w.heap.size → b ∉ e.fp → w'.heap[b]? = w.heap[b]?) : R w0 fp0 (e' :: L) w' := by
  have hnd := h.nodup
  rw [fps_cons] at hnd
  have hdis : ∀ b ∈ e.fp, b ∉ fps L := fun b h1 h2 => (List.nodup_append.1 hnd).2.2 b h1 b h2 rfl
  have hre : ∀ b ∈ e.fp, (b ∈ fp0 ∨ w0.heap.size ≤ b) ∧ b < w.heap.size := fun b hb => h.range b (by rw [fps_cons]; exact List.mem_append_left _ hb)
  have hrl : ∀ b ∈ fps L, (b ∈ fp0 ∨ w0.heap.size ≤ b) ∧ b < w.heap.size := fun b hb => h.range b (by rw [fps_cons]; exact List.mem_append_right _ hb)
  refine ⟨e2.trans h.os, e3.trans h.tape, e4.trans h.output, Nat.le_trans h.size hsz, fun b hb hnb => ?_, ?_, fun b hm => ?_, fun x hx => ?_⟩
  · rw [hsame b (Nat.lt_of_lt_of_le hb h.size) (fun hm => (hre b hm).1.elim hnb (fun h1 => by omega))]
    exact h.old b hb hnb
  · rw [fps_cons, List.nodup_append]
    refine ⟨hn, (List.nodup_append.1 hnd).2.1, fun a ha b hb hab => ?_⟩
    subst hab
    rcases hf a ha with h1 | h1
    · exact hdis a h1 hb
    · have := (hrl a hb).2; omega
  · rw [fps_cons] at hm
    rcases List.mem_append.1 hm with hm | hm
    · rcases hf b hm with h1 | h1
      · exact ⟨(hre b h1).1, Nat.lt_of_lt_of_le (hre b h1).2 hsz⟩
      · exact ⟨.inr (Nat.le_trans h.size h1.1), h1.2⟩
    · exact ⟨(hrl b hm).1, Nat.lt_of_lt_of_le (hrl b hm).2 hsz⟩
  · rcases List.mem_cons.1 hx with rfl | hx
    · exact hk
    · refine Ent.ok_same (h.ok x (List.mem_cons_of_mem _ hx)) fun b hm => ?_
      have hm' : b ∈ fps L := List.mem_flatMap.2 ⟨x, hx, hm⟩
      exact hsame b (hrl b hm').2 fun h1 => hdis b h1 hm'

/-- A nil slice is owned for nothing. -/
theorem R.ownNil (h : R w0 fp0 L w) (key T sz : Nat) : R w0 fp0 (.own key none 0 0 T sz [] :: L) w :=
  ⟨h.os, h.tape, h.output, h.size, h.old, by simpa [fps_cons, Ent.fp, Value.ownBlock] using h.nodup, fun b hb => h.range b (by simpa [fps_cons, Ent.fp, Value.ownBlock] using hb),
   fun x hx => by
    rcases List.mem_cons.1 hx with rfl | hx
    · exact World.ownsRow_nil _ _ _ _
    · exact h.ok x hx⟩

theorem R.start (hn : (fps L).Nodup) (hr : ∀ b ∈ fps L, b < w.heap.size) (hk : ∀ e ∈ L, e.ok w) : R w (fps L) L w :=
  ⟨rfl, rfl, rfl, Nat.le_refl _, fun _ _ _ => rfl, hn, fun b hb => ⟨.inl hb, hr b hb⟩, hk⟩

theorem R.start0 (w : World) : R w [] [] w := R.start (L := []) (by simp [fps]) (by simp [fps]) (by simp)

/-- The entries of a part of the heap, as a callee is handed them. -/
theorem R.restart {L0 Lr : List Ent} (h : R w0 fp0 (L0 ++ Lr) w) : R w (fps L0) L0 w := by
  have hnd := h.nodup
  rw [fps_append] at hnd
  exact R.start (List.nodup_append.1 hnd).1 (fun b hb => (h.range b (by rw [fps_append]; exact List.mem_append_left _ hb)).2) (fun e he => h.ok e (List.mem_append_left _ he))

theorem R.toBelow {w : World} {L : List Ent} (h : R w0 [] L w) : Below w0.heap.size w0 w :=
  ⟨h.os, h.tape, h.output, h.size, fun k hk => h.old k hk (by simp)⟩

theorem R.ofBelow (h : Below w0.heap.size w0 w) : R w0 [] [] w :=
  ⟨h.os, h.tape, h.output, h.size, fun b hb _ => h.block b hb, by simp [fps], by simp [fps], by simp⟩

/-- Entries by their keys. -/
def boxAt (key : Nat) : List Ent → Option (Nat × List Value × TypeId)
  | .box k b cs T :: L => if k = key then some (b, cs, T) else boxAt key L
  | .own .. :: L => boxAt key L
  | .abs .. :: L => boxAt key L
  | .mapE .. :: L => boxAt key L
  | [] => none

def setBox (key : Nat) (cs' : List Value) : List Ent → List Ent
  | .box k b cs T :: L => if k = key then .box k b cs' T :: L else .box k b cs T :: setBox key cs' L
  | .own k a n c T sz xs :: L => .own k a n c T sz xs :: setBox key cs' L
  | .abs k fp ok :: L => .abs k fp ok :: setBox key cs' L
  | .mapE k b kk m :: L => .mapE k b kk m :: setBox key cs' L
  | [] => []

structure Own where
  a : Option Addr
  n : Nat
  c : Nat
  T : TypeId
  sz : Nat
  xs : List Value

def ownAt (key : Nat) : List Ent → Option Own
  | .own k a n c T sz xs :: L => if k = key then some ⟨a, n, c, T, sz, xs⟩ else ownAt key L
  | .box .. :: L => ownAt key L
  | .abs .. :: L => ownAt key L
  | .mapE .. :: L => ownAt key L
  | [] => none

def setOwn (key : Nat) (a' : Option Addr) (n' c' : Nat) (xs' : List Value) : List Ent → List Ent
  | .own k a n c T sz xs :: L => if k = key then .own k a' n' c' T sz xs' :: L else .own k a n c T sz xs :: setOwn key a' n' c' xs' L
  | .box k b cs T :: L => .box k b cs T :: setOwn key a' n' c' xs' L
  | .abs k fp ok :: L => .abs k fp ok :: setOwn key a' n' c' xs' L
  | .mapE k b kk m :: L => .mapE k b kk m :: setOwn key a' n' c' xs' L
  | [] => []

def mapAt (key : Nat) : List Ent → Option (Nat × KK × List (Value × Value))
  | .mapE k b kk m :: L => if k = key then some (b, kk, m) else mapAt key L
  | .own .. :: L => mapAt key L
  | .box .. :: L => mapAt key L
  | .abs .. :: L => mapAt key L
  | [] => none

def setMap (key : Nat) (m' : List (Value × Value)) : List Ent → List Ent
  | .mapE k b kk m :: L => if k = key then .mapE k b kk m' :: L else .mapE k b kk m :: setMap key m' L
  | .own k a n c T sz xs :: L => .own k a n c T sz xs :: setMap key m' L
  | .box k b cs T :: L => .box k b cs T :: setMap key m' L
  | .abs k fp ok :: L => .abs k fp ok :: setMap key m' L
  | [] => []

theorem boxAt_perm {key : Nat} {b : Nat} {cs : List Value} {T : TypeId} : ∀ {L : List Ent}, boxAt key L = some (b, cs, T) →
    ∃ L', L.Perm (.box key b cs T :: L') ∧ ∀ cs', (setBox key cs' L).Perm (.box key b cs' T :: L')
  | [], h => by cases h
  | .box k b0 cs0 T0 :: L, h => by
    simp only [boxAt] at h
    by_cases hk : k = key
    · simp only [hk, if_true, Option.some.injEq, Prod.mk.injEq] at h
      obtain ⟨rfl, rfl, rfl⟩ := h
      subst hk
      exact ⟨L, .refl _, fun cs' => by simp [setBox]⟩
    · simp only [hk, if_false] at h
      obtain ⟨L', h1, h2⟩ := boxAt_perm h
      exact ⟨.box k b0 cs0 T0 :: L', (h1.cons _).trans (.swap _ _ _), fun cs' => by simp only [setBox, hk, if_false]; exact ((h2 cs').cons _).trans (.swap _ _ _)⟩
  | .own k a n c T0 sz xs :: L, h => by
    obtain ⟨L', h1, h2⟩ := boxAt_perm (L := L) h
    exact ⟨.own k a n c T0 sz xs :: L', (h1.cons _).trans (.swap _ _ _), fun cs' => ((h2 cs').cons _).trans (.swap _ _ _)⟩
  | .abs k fp ok :: L, h => by
    obtain ⟨L', h1, h2⟩ := boxAt_perm (L := L) h
    exact ⟨.abs k fp ok :: L', (h1.cons _).trans (.swap _ _ _), fun cs' => ((h2 cs').cons _).trans (.swap _ _ _)⟩
  | .mapE k b kk m :: L, h => by
    obtain ⟨L', h1, h2⟩ := boxAt_perm (L := L) h
    exact ⟨.mapE k b kk m :: L', (h1.cons _).trans (.swap _ _ _), fun cs' => ((h2 cs').cons _).trans (.swap _ _ _)⟩

theorem ownAt_perm {key : Nat} {a : Option Addr} {n c : Nat} {T : TypeId} {sz : Nat} {xs : List Value} : ∀ {L : List Ent}, ownAt key L = some ⟨a, n, c, T, sz, xs⟩ →
    ∃ L', L.Perm (.own key a n c T sz xs :: L') ∧ ∀ a' n' c' xs', (setOwn key a' n' c' xs' L).Perm (.own key a' n' c' T sz xs' :: L')
  | [], h => by cases h
  | .own k a0 n0 c0 T0 sz0 xs0 :: L, h => by
    simp only [ownAt] at h
    by_cases hk : k = key
    · simp only [hk, if_true, Option.some.injEq, Own.mk.injEq] at h
      obtain ⟨rfl, rfl, rfl, rfl, rfl, rfl⟩ := h
      subst hk
      exact ⟨L, .refl _, fun _ _ _ _ => by simp [setOwn]⟩
    · simp only [hk, if_false] at h
      obtain ⟨L', h1, h2⟩ := ownAt_perm h
      exact ⟨.own k a0 n0 c0 T0 sz0 xs0 :: L', (h1.cons _).trans (.swap _ _ _), fun a' n' c' xs' => by simp only [setOwn, hk, if_false]; exact ((h2 a' n' c' xs').cons _).trans (.swap _ _ _)⟩
  | .box k b0 cs0 T0 :: L, h => by
    obtain ⟨L', h1, h2⟩ := ownAt_perm (L := L) h
    exact ⟨.box k b0 cs0 T0 :: L', (h1.cons _).trans (.swap _ _ _), fun a' n' c' xs' => ((h2 a' n' c' xs').cons _).trans (.swap _ _ _)⟩
  | .abs k fp ok :: L, h => by
    obtain ⟨L', h1, h2⟩ := ownAt_perm (L := L) h
    exact ⟨.abs k fp ok :: L', (h1.cons _).trans (.swap _ _ _), fun a' n' c' xs' => ((h2 a' n' c' xs').cons _).trans (.swap _ _ _)⟩
  | .mapE k b kk m :: L, h => by
    obtain ⟨L', h1, h2⟩ := ownAt_perm (L := L) h
    exact ⟨.mapE k b kk m :: L', (h1.cons _).trans (.swap _ _ _), fun a' n' c' xs' => ((h2 a' n' c' xs').cons _).trans (.swap _ _ _)⟩

theorem mapAt_perm {key : Nat} {b : Nat} {kk : KK} {m : List (Value × Value)} : ∀ {L : List Ent}, mapAt key L = some (b, kk, m) →
    ∃ L', L.Perm (.mapE key b kk m :: L') ∧ ∀ m', (setMap key m' L).Perm (.mapE key b kk m' :: L')
  | [], h => by cases h
  | .mapE k b0 kk0 m0 :: L, h => by
    simp only [mapAt] at h
    by_cases hk : k = key
    · simp only [hk, if_true, Option.some.injEq, Prod.mk.injEq] at h
      obtain ⟨rfl, rfl, rfl⟩ := h
      subst hk
      exact ⟨L, .refl _, fun m' => by simp [setMap]⟩
    · simp only [hk, if_false] at h
      obtain ⟨L', h1, h2⟩ := mapAt_perm h
      exact ⟨.mapE k b0 kk0 m0 :: L', (h1.cons _).trans (.swap _ _ _), fun m' => by simp only [setMap, hk, if_false]; exact ((h2 m').cons _).trans (.swap _ _ _)⟩
  | .own k a n c T0 sz xs :: L, h => by
    obtain ⟨L', h1, h2⟩ := mapAt_perm (L := L) h
    exact ⟨.own k a n c T0 sz xs :: L', (h1.cons _).trans (.swap _ _ _), fun m' => ((h2 m').cons _).trans (.swap _ _ _)⟩
  | .box k b0 cs0 T0 :: L, h => by
    obtain ⟨L', h1, h2⟩ := mapAt_perm (L := L) h
    exact ⟨.box k b0 cs0 T0 :: L', (h1.cons _).trans (.swap _ _ _), fun m' => ((h2 m').cons _).trans (.swap _ _ _)⟩
  | .abs k fp ok :: L, h => by
    obtain ⟨L', h1, h2⟩ := mapAt_perm (L := L) h
    exact ⟨.abs k fp ok :: L', (h1.cons _).trans (.swap _ _ _), fun m' => ((h2 m').cons _).trans (.swap _ _ _)⟩
end

end Go.EG
