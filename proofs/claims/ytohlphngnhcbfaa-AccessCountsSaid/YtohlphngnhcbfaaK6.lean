/- What a rule reaches, and the grammar that is handed out. Plain Lean: no program in sight. -/
import Derived.Test.YtohlphngnhcbfaaK4
import Derived.Test.YtohlphngnhcbfaaK2
import Derived.Sort.OwnSortedInts
namespace Go.Proofs.Ytohlphngnhcbfaa
open Go.EG
set_option linter.unusedSimpArgs false
set_option linter.unusedVariables false

/-- What is reached from id: increasing, closed, nothing else. -/
structure Rch (S : Sto) (id : Int) (L : List Int) : Prop where
  asc : L.Pairwise (· < ·)
  pos : ∀ x ∈ L, 1 ≤ x ∧ x ≤ id
  cls : ∀ x ∈ L, ∀ y ∈ refsL (atE S.E x).r, y ∈ L
  top : id ≠ 0 → id ∈ L
  rea : ∀ x ∈ L, x ≠ id → ∃ z ∈ L, x ∈ refsL (atE S.E z).r

/-- The new number of an ID. -/
def posn (L : List Int) (x : Int) : Int := if x ∈ L then (L.idxOf x : Int) + 1 else 0
def ren (L : List Int) (r : Rul) : Rul := { r with a := posn L r.a, b := posn L r.b }
/-- The grammar that is handed out. -/
def xg (S : Sto) (L : List Int) : List Rul := L.map fun x => ren L (atE S.E x).r
theorem xg_length (S : Sto) (L : List Int) : (xg S L).length = L.length := by simp [xg]

theorem asc_get {L : List Int} (h : L.Pairwise (· < ·)) {i j : Nat} (hij : i < j) (hj : j < L.length) : L.getD i 0 < L.getD j 0 := by
  rw [List.pairwise_iff_getElem] at h
  have := h i j (by omega) hj hij
  simpa [List.getD_eq_getElem?_getD, List.getElem?_eq_getElem (show i < L.length by omega), List.getElem?_eq_getElem hj] using this
theorem getD_mem {L : List Int} {i : Nat} (hi : i < L.length) : L.getD i 0 ∈ L := by
  rw [List.getD_eq_getElem?_getD, List.getElem?_eq_getElem hi]
  exact List.getElem_mem hi
theorem idxOf_getD {L : List Int} {x : Int} (h : x ∈ L) : L.idxOf x < L.length ∧ L.getD (L.idxOf x) 0 = x := by
  have hl := List.idxOf_lt_length_of_mem h
  refine ⟨hl, ?_⟩
  rw [List.getD_eq_getElem?_getD, List.getElem?_eq_getElem hl]
  simp
theorem asc_idx {L : List Int} (h : L.Pairwise (· < ·)) {i : Nat} {x : Int} (hi : i < L.length) (hx : x ∈ L) (hlt : x < L.getD i 0) : L.idxOf x < i := by
  obtain ⟨h1, h2⟩ := idxOf_getD hx
  refine Decidable.byContradiction fun hc => ?_
  by_cases he : L.idxOf x = i
  · rw [he] at h2; omega
  · have := asc_get h (show i < L.idxOf x by omega) h1
    omega
theorem posn_mem {L : List Int} {x : Int} (h : x ∈ L) : posn L x = (L.idxOf x : Int) + 1 := if_pos h
theorem posn_not {L : List Int} {x : Int} (h : x ∉ L) : posn L x = 0 := if_neg h

theorem refs_two {r : Rul} (h : r.k = 2) : refsL r = [r.a, r.b] := if_pos h
theorem refs_one {r : Rul} (h : r.k = 3) : refsL r = [r.a] := by rw [refsL, if_neg (by omega), if_pos h]

theorem WF.okAt {S : Sto} (hw : WF S) {x : Int} (h1 : 1 ≤ x) (h2 : x ≤ S.E.length) : okR (atE S.E x).r x := by
  have := hw.rul (x.toNat - 1) (by omega)
  unfold atE
  rw [if_neg (by omega)]
  rw [show ((x.toNat - 1 : Nat) : Int) + 1 = x by omega] at this
  exact this
theorem WF.letAt {S : Sto} (hw : WF S) {x : Int} (h1 : 1 ≤ x) (h2 : x ≤ S.E.length) : 0 ≤ (atE S.E x).r.l ∧ (atE S.E x).r.l < 256 := by
  have := hw.let_ (x.toNat - 1) (by omega)
  unfold atE
  rw [if_neg (by omega)]
  exact this
theorem WF.tmAt {S : Sto} (hw : WF S) {x : Int} (h1 : 1 ≤ x) (h2 : x ≤ S.E.length) : tm S.E x = mkT S.E (atE S.E x).r := by
  have := hw.tms (x.toNat - 1) (by omega)
  unfold tm atE
  rw [if_neg (by omega)]
  exact this

theorem gTs_snoc : ∀ {g : List Rul} {ms : List Tm} {r : Rul}, gTs ms (g ++ [r]) = gTs ms g ++ [gT (gTs ms g) r]
  | [], ms, r => rfl
  | s :: g, ms, r => by rw [List.cons_append, gTs, gTs_snoc, gTs]
theorem take_snoc {α : Type} {L : List α} {i : Nat} {d : α} (h : i < L.length) : L.take (i + 1) = L.take i ++ [L.getD i d] := by
  rw [List.take_add_one, List.getElem?_eq_getElem h, List.getD_eq_getElem?_getD, List.getElem?_eq_getElem h]
  rfl
theorem getD_map {α β : Type} {L : List α} {f : α → β} {i : Nat} {d : α} {e : β} (h : i < L.length) : (L.map f).getD i e = f (L.getD i d) := by
  rw [List.getD_eq_getElem?_getD, List.getD_eq_getElem?_getD, List.getElem?_map, List.getElem?_eq_getElem h]
  rfl

/-- The term of a number of the grammar. -/
theorem Rch.term {S : Sto} (hw : WF S) {id : Int} {L : List Int} (h : Rch S id L) (hk : id ≤ S.E.length) {i : Nat} (hi : i < L.length) :
    gT ((L.take i).map (tm S.E)) (ren L (atE S.E (L.getD i 0)).r) = tm S.E (L.getD i 0) := by
  have hm := getD_mem hi
  obtain ⟨p1, p2⟩ := h.pos _ hm
  have ho := hw.okAt p1 (by omega)
  rw [hw.tmAt p1 (by omega)]
  have key : ∀ y, y ∈ refsL (atE S.E (L.getD i 0)).r → y < L.getD i 0 → mAt ((L.take i).map (tm S.E)) (posn L y) = tm S.E y := by
    intro y hy hlt
    have hyL := h.cls _ hm y hy
    have hx := asc_idx h.asc hi hyL hlt
    rw [posn_mem hyL]
    unfold mAt
    rw [if_neg (by omega), show ((L.idxOf y : Int) + 1).toNat - 1 = L.idxOf y by omega, getD_map (d := 0) (by rw [List.length_take]; omega), List.getD_eq_getElem?_getD, List.getElem?_take, if_pos hx, ← List.getD_eq_getElem?_getD, (idxOf_getD hyL).2]
  generalize (atE S.E (L.getD i 0)).r = r at *
  unfold gT mkT ren
  rcases ho with ⟨hk1, _⟩ | ⟨hk2, _, _, _, ha, _, hb⟩ | ⟨hk3, _, _, _, _, ha⟩
  · simp only [hk1, if_true]
  · simp only [hk2]
    rw [key r.a (by rw [refs_two hk2]; simp) ha, key r.b (by rw [refs_two hk2]; simp) hb]
  · simp only [hk3]
    rw [key r.a (by rw [refs_one hk3]; simp) ha, if_neg (by decide), if_neg (by decide), if_neg (by decide), if_neg (by decide)]
theorem Rch.terms {S : Sto} (hw : WF S) {id : Int} {L : List Int} (h : Rch S id L) (hk : id ≤ S.E.length) : ∀ i, i ≤ L.length → gTs [] ((xg S L).take i) = (L.take i).map (tm S.E)
  | 0, _ => by simp [gTs]
  | i + 1, hi => by
    rw [take_snoc (d := rul0) (by rw [xg_length]; omega), gTs_snoc, Rch.terms hw h hk i (by omega), take_snoc (d := 0) (by omega), List.map_append]
    congr 1
    rw [xg, getD_map (d := 0) (by omega), h.term hw hk (by omega)]
    rfl
/-- The grammar that is handed out derives what its IDs derive. -/
theorem Rch.gTs {S : Sto} (hw : WF S) {id : Int} {L : List Int} (h : Rch S id L) (hk : id ≤ S.E.length) : gTs [] (xg S L) = L.map (tm S.E) := by
  have := h.terms hw hk L.length (Nat.le_refl _)
  rwa [List.take_of_length_le (by rw [xg_length]; omega), List.take_of_length_le (Nat.le_refl _)] at this

/-- Its rules are in order. -/
theorem Rch.ok {S : Sto} (hw : WF S) {id : Int} {L : List Int} (h : Rch S id L) (hk : id ≤ S.E.length) {i : Nat} (hi : i < L.length) : okR ((xg S L).getD i rul0) (i + 1) := by
  have hm := getD_mem hi
  obtain ⟨p1, p2⟩ := h.pos _ hm
  have ho := hw.okAt p1 (by omega)
  have hn : (0 : Int) ∉ L := fun h0 => by have := (h.pos 0 h0).1; omega
  have key : ∀ y, y ∈ refsL (atE S.E (L.getD i 0)).r → y < L.getD i 0 → 1 ≤ posn L y ∧ posn L y < (i : Int) + 1 := by
    intro y hy hlt
    have hyL := h.cls _ hm y hy
    have hx := asc_idx h.asc hi hyL hlt
    rw [posn_mem hyL]
    omega
  rw [xg, getD_map (d := 0) hi]
  generalize (atE S.E (L.getD i 0)).r = r at *
  unfold okR ren
  rcases ho with ⟨hk1, e1, e2, e3, e4⟩ | ⟨hk2, e1, e2, _, ha, _, hb⟩ | ⟨hk3, e1, e2, e3, _, ha⟩
  · refine .inl ⟨hk1, ?_, ?_, e3, by omega⟩
    · show posn L r.a = 0; rw [e1]; exact posn_not hn
    · show posn L r.b = 0; rw [e2]; exact posn_not hn
  · have k1 := key r.a (by rw [refs_two hk2]; simp) ha
    have k2 := key r.b (by rw [refs_two hk2]; simp) hb
    exact .inr (.inl ⟨hk2, e1, e2, k1.1, k1.2, k2.1, k2.2⟩)
  · have k1 := key r.a (by rw [refs_one hk3]; simp) ha
    refine .inr (.inr ⟨hk3, e1, ?_, e3, k1.1, k1.2⟩)
    show posn L r.b = 0; rw [e2]; exact posn_not hn
theorem Rch.let_ {S : Sto} (hw : WF S) {id : Int} {L : List Int} (h : Rch S id L) (hk : id ≤ S.E.length) {i : Nat} (hi : i < L.length) : 0 ≤ ((xg S L).getD i rul0).l ∧ ((xg S L).getD i rul0).l < 256 := by
  obtain ⟨p1, p2⟩ := h.pos _ (getD_mem hi)
  rw [xg, getD_map (d := 0) hi]
  exact hw.letAt p1 (by omega)
/-- The last of the grammar is the ID. -/
theorem Rch.last {S : Sto} {id : Int} {L : List Int} (h : Rch S id L) (h0 : id ≠ 0) : 0 < L.length ∧ L.getD (L.length - 1) 0 = id := by
  have hm := h.top h0
  obtain ⟨h1, h2⟩ := idxOf_getD hm
  refine ⟨by omega, ?_⟩
  by_cases he : L.idxOf id = L.length - 1
  · rw [← he]; exact h2
  · have := asc_get h.asc (show L.idxOf id < L.length - 1 by omega) (by omega)
    have := (h.pos _ (getD_mem (show L.length - 1 < L.length by omega))).2
    omega
theorem Rch.len {S : Sto} {id : Int} {L : List Int} (h : Rch S id L) : (L.length : Int) ≤ id ∨ L = [] := by
  cases hL : L with
  | nil => exact .inr rfl
  | cons x t =>
    refine .inl ?_
    have : ∀ i, i < L.length → (i : Int) + 1 ≤ L.getD i 0 := by
      intro i
      induction i with
      | zero => intro hi; have := (h.pos _ (getD_mem hi)).1; omega
      | succ i ih =>
        intro hi
        have h1 := ih (by omega)
        have h2 := asc_get h.asc (show i < i + 1 by omega) hi
        omega
    have hl : 0 < L.length := by rw [hL]; simp
    have h1 := this (L.length - 1) (by omega)
    have h2 := (h.pos _ (getD_mem (show L.length - 1 < L.length by omega))).2
    rw [← hL]
    omega

theorem Rch.small {S : Sto} (hw : WF S) {id : Int} {L : List Int} (h : Rch S id L) (hk : known S id) : L.length ≤ 1048576 := by
  have := hw.small
  have := hk.2
  rcases h.len with h | h
  · omega
  · rw [h]; simp

/-! ### The way there: what is listed, what is seen -/

/-- The list so far: without repetition; the refs of those ahead of i are in it. -/
structure Bfs (S : Sto) (id : Int) (i : Nat) (L : List Int) : Prop where
  nod : L.Nodup
  pos : ∀ x ∈ L, 1 ≤ x ∧ x ≤ id
  cls : ∀ j, j < i → ∀ y ∈ refsL (atE S.E (L.getD j 0)).r, y ∈ L
  top : id ∈ L
  rea : ∀ x ∈ L, x ≠ id → ∃ z ∈ L, x ∈ refsL (atE S.E z).r
theorem Bfs.start {S : Sto} {id : Int} (h : 1 ≤ id) : Bfs S id 0 [id] :=
  ⟨by simp, fun x hx => by rw [List.mem_singleton] at hx; subst hx; omega, fun j hj => absurd hj (by omega), by simp, fun x hx hn => absurd (List.mem_singleton.1 hx) hn⟩
theorem nodup_len : ∀ {n : Nat} {L : List Int}, L.Nodup → (∀ x ∈ L, 1 ≤ x ∧ x ≤ n) → L.length ≤ n
  | 0, [], _, _ => Nat.le_refl _
  | 0, x :: t, _, h => absurd (h x (by simp)) (by omega)
  | n + 1, L, hn, h => by
    have h1 : (L.erase ((n : Int) + 1)).length ≤ n := nodup_len (hn.erase _) fun x hx => by
      have h2 := h x (List.mem_of_mem_erase hx)
      have h3 : x ≠ (n : Int) + 1 := fun he => by
        subst he
        exact absurd hx (List.Nodup.not_mem_erase hn)
      omega
    by_cases hm : ((n : Int) + 1) ∈ L
    · rw [List.length_erase_of_mem hm] at h1
      omega
    · rw [List.erase_of_not_mem hm] at h1
      omega
theorem Bfs.len {S : Sto} {id : Int} {i : Nat} {L : List Int} (h : Bfs S id i L) (h0 : 0 ≤ id) : L.length ≤ id.toNat :=
  nodup_len h.nod fun x hx => by have := h.pos x hx; omega
theorem Bfs.snoc {S : Sto} {id : Int} {i : Nat} {L : List Int} (h : Bfs S id i L) (hi : i ≤ L.length) {x z : Int} (hx : x ∉ L) (h1 : 1 ≤ x) (h2 : x ≤ id) (hz : z ∈ L) (hr : x ∈ refsL (atE S.E z).r) : Bfs S id i (L ++ [x]) := by
  refine ⟨?_, ?_, ?_, by simp [h.top], ?_⟩
  · rw [List.nodup_append]
    exact ⟨h.nod, by simp, fun a ha b hb => by rw [List.mem_singleton] at hb; subst hb; exact fun e => hx (e ▸ ha)⟩
  · intro y hy
    rcases List.mem_append.1 hy with hy | hy
    · exact h.pos y hy
    · rw [List.mem_singleton] at hy; subst hy; exact ⟨h1, h2⟩
  · intro j hj y hy
    rw [getD_append_left (by omega)] at hy
    exact List.mem_append_left _ (h.cls j hj y hy)
  · intro y hy hn
    rcases List.mem_append.1 hy with hy | hy
    · obtain ⟨w, hw, hwr⟩ := h.rea y hy hn
      exact ⟨w, List.mem_append_left _ hw, hwr⟩
    · rw [List.mem_singleton] at hy; subst hy
      exact ⟨z, List.mem_append_left _ hz, hr⟩
theorem Bfs.next {S : Sto} {id : Int} {i : Nat} {L : List Int} (h : Bfs S id i L) (hr : ∀ y ∈ refsL (atE S.E (L.getD i 0)).r, y ∈ L) : Bfs S id (i + 1) L :=
  ⟨h.nod, h.pos, fun j hj => by
    by_cases he : j = i
    · subst he; exact hr
    · exact h.cls j (by omega), h.top, h.rea⟩
theorem Bfs.done {S : Sto} {id : Int} {L : List Int} (h : Bfs S id L.length L) : Rch S id (L.mergeSort (· ≤ ·)) := by
  have hp : (L.mergeSort (· ≤ ·)).Perm L := List.mergeSort_perm L _
  have hs : (L.mergeSort (fun x y : Int => decide (x ≤ y))).Pairwise (fun a b => decide (a ≤ b) = true) :=
    List.pairwise_mergeSort (fun a b c h1 h2 => by simp at *; omega) (fun a b => by simp; omega) L
  have hn : (L.mergeSort (· ≤ ·)).Nodup := hp.nodup_iff.2 h.nod
  refine ⟨?_, fun x hx => h.pos x (hp.mem_iff.1 hx), fun x hx y hy => ?_, fun _ => hp.mem_iff.2 h.top, fun x hx hne => ?_⟩
  · refine (hs.and hn).imp ?_
    rintro a b ⟨h1, h2⟩
    have h1 : a ≤ b := by simpa using h1
    omega
  · have hx := hp.mem_iff.1 hx
    obtain ⟨h1, h2⟩ := idxOf_getD hx
    exact hp.mem_iff.2 (h.cls (L.idxOf x) h1 y (by rw [h2]; exact hy))
  · obtain ⟨z, hz, hr⟩ := h.rea x (hp.mem_iff.1 hx) hne
    exact ⟨z, hp.mem_iff.2 hz, hr⟩
theorem Rch.nil {S : Sto} : Rch S 0 [] := ⟨.nil, fun _ h => by simp at h, fun _ h => by simp at h, fun h => absurd rfl h, fun _ h => by simp at h⟩
end Go.Proofs.Ytohlphngnhcbfaa
/- A row of one's own, sorted by the library. No condition. -/
namespace Go.EG
open Go Go.Sort
set_option linter.unusedVariables false

/-- What the library's sort of integers says of itself. -/
def SortsI (P : Program) (f : FuncId) : Prop :=
  ∀ (blk off cap : Nat) (zs : List Int) (w : World), Holds (Value.int .i64) w blk off zs.toArray → blk < w.heap.size → zs.length < 4611686018427387904 →
    Calls P f #[.slice (some ⟨blk, off, none⟩) zs.length cap] w fun e w' => e = .returned (.tuple #[]) ∧ ∃ n os, w' = grow (putRow (Value.int .i64) (Sort.ahead w n) blk off (zs.mergeSort fun x y => decide (x ≤ y)).toArray) os

theorem R_sorted {w0 w : World} {fp0 : List Nat} {L : List Ent} {key : Nat} {a : Option Addr} {n c T : Nat} {zs : List Int} (hR : R w0 fp0 L w) (hb : ownAt key L = some ⟨a, n, c, T, 1, ints .i64 zs⟩) (hn : zs.length = n) (h0 : 0 < n) :
    ∃ blk, a = some ⟨blk, 0, none⟩ ∧ Holds (Value.int .i64) w blk 0 zs.toArray ∧ blk < w.heap.size ∧
      ∀ m os, R w0 fp0 (setOwn key a n c (ints .i64 (zs.mergeSort fun x y => decide (x ≤ y))) L) (grow (putRow (Value.int .i64) (Sort.ahead w m) blk 0 (zs.mergeSort fun x y => decide (x ≤ y)).toArray) os) := by
  obtain ⟨L', h1, h2⟩ := ownAt_perm hb
  have hR' := hR.perm h1
  have hrow : w.ownsRow 0 T 1 (.slice a n c) n (ints .i64 zs) := hR'.ok (.own key a n c T 1 (ints .i64 zs)) (List.mem_cons_self ..)
  rcases hrow.2 with ⟨hv, h⟩ | ⟨g, cap, cur, hv, hbase, hg, r3, r4, r5, r6⟩
  · omega
  · simp only [Value.slice.injEq, true_and] at hv
    obtain ⟨rfl, rfl⟩ := hv
    subst hn
    have hlt : g < w.heap.size := (Array.getElem?_eq_some_iff.1 hg).1
    refine ⟨g, rfl, holds_of_blockI hg (by simpa [ints] using r6), hlt, fun m os => ?_⟩
    obtain ⟨g1, g2, g3, g4, g5⟩ := grownBy_sortedI (w := w) (g := g) (n := m) (os := os) (zs.mergeSort fun x y => decide (x ≤ y)).toArray
    refine (R.grow (e' := .own key (some ⟨g, 0, none⟩) zs.length c T 1 (ints .i64 (zs.mergeSort fun x y => decide (x ≤ y)))) hR' (fun x hx => .inl hx) (by simp [Ent.fp, Value.ownBlock]) ?_ ?_ ?_ ?_ ?_ ?_).perm (h2 _ _ _ _).symm
    · exact ownsRow_sortedI (by simp) hbase hg r3 r4 r5
    · simp [grow, putRow, mapBlock, Sort.ahead]
    · rfl
    · rfl
    · rfl
    · intro b hb' hne
      exact g5 b hb' (by simpa [Ent.fp, Value.ownBlock, eq_comm] using hne)

/-- A call of the library's sort. -/
theorem CallK_sort {P : Program} {w0 : World} {fp0 : List Nat} {L : List Ent} {f : FuncId} {key : Nat} {a : Option Addr} {n c T : Nat} {zs : List Int} {k : SV → List Ent → Prop} (hs : SortsI P f) (hb : ownAt key L = some ⟨a, n, c, T, 1, ints .i64 zs⟩) (hn : zs.length = n) (h0 : 0 < n) (hsz : n < 4611686018427387904)
    (hk : k (.v (.tuple #[])) (setOwn key a n c (ints .i64 (zs.mergeSort fun x y => decide (x ≤ y))) L)) : CallK P w0 fp0 f [.slice a n c] L k := by
  intro w hR
  obtain ⟨blk, rfl, hH, hlt, hend⟩ := R_sorted hR hb hn h0
  subst hn
  exact (hs blk 0 c zs w hH hlt hsz).mono fun e w' ⟨he, m, os, hw⟩ => ⟨_, .v (.tuple #[]), _, he, rfl, hw ▸ hend m os, hk⟩
end Go.EG
/- Counts of letters, the first occurrence of a letter, of what a grammar derives. Plain Lean: no program in sight. -/
namespace Go.Proofs.Ytohlphngnhcbfaa
open Go.EG
set_option linter.unusedSimpArgs false
set_option linter.unusedVariables false

/-- A grammar and what its numbers derive. -/
structure Gr (g : List Rul) (ms : List Tm) : Prop where
  len : ms.length = g.length
  most : g.length ≤ 1048576
  ok : ∀ i, i < g.length → okR (g.getD i rul0) (i + 1)
  let_ : ∀ i, i < g.length → 0 ≤ (g.getD i rul0).l ∧ (g.getD i rul0).l < 256
  fit : ∀ i, i < g.length → 1 ≤ (ms.getD i .nil).len ∧ (ms.getD i .nil).len ≤ LM
  term : ∀ i, i < g.length → ms.getD i .nil = gT ms (g.getD i rul0)
/-- Number x of a grammar. -/
theorem Gr.cases {g : List Rul} {ms : List Tm} (h : Gr g ms) {i : Nat} (hi : i < g.length) :
    (((g.getD i rul0).k = 1 ∧ (g.getD i rul0).a = 0 ∧ (g.getD i rul0).b = 0 ∧ ∃ l : Nat, l < 256 ∧ (g.getD i rul0).l = l ∧ mAt ms ((i : Int) + 1) = .lt l) ∨
     ((g.getD i rul0).k = 2 ∧ ∃ p q : Nat, p < i ∧ q < i ∧ (g.getD i rul0).a = (p : Int) + 1 ∧ (g.getD i rul0).b = (q : Int) + 1 ∧ mAt ms ((i : Int) + 1) = .pr (mAt ms ((p : Int) + 1)) (mAt ms ((q : Int) + 1)) ∧ (mAt ms ((p : Int) + 1)).len + (mAt ms ((q : Int) + 1)).len ≤ LM) ∨
     ((g.getD i rul0).k = 3 ∧ (g.getD i rul0).b = 0 ∧ ∃ p k : Nat, p < i ∧ 2 ≤ k ∧ (g.getD i rul0).a = (p : Int) + 1 ∧ (g.getD i rul0).t = (k : Int) ∧ mAt ms ((i : Int) + 1) = .pw (mAt ms ((p : Int) + 1)) k ∧ k * (mAt ms ((p : Int) + 1)).len ≤ LM)) ∧
    1 ≤ (mAt ms ((i : Int) + 1)).len ∧ (mAt ms ((i : Int) + 1)).len ≤ LM := by
  have e : mAt ms ((i : Int) + 1) = ms.getD i .nil := by
    unfold mAt
    rw [if_neg (by omega), show ((i : Int) + 1).toNat - 1 = i by omega]
  have ht := h.term i hi
  have ho := h.ok i hi
  have hl := h.let_ i hi
  have hf := h.fit i hi
  rw [← e] at ht hf
  refine ⟨?_, hf⟩
  generalize g.getD i rul0 = r at *
  unfold gT at ht
  rcases ho with ⟨h1, h2, h3, _⟩ | ⟨h1, h2, h3, h4, h5, h6, h7⟩ | ⟨h1, h2, h3, h4, h5, h6⟩
  · rw [if_pos h1] at ht
    exact .inl ⟨h1, h2, h3, r.l.toNat, by omega, by omega, ht⟩
  · rw [if_neg (by omega), if_pos h1] at ht
    refine .inr (.inl ⟨h1, (r.a - 1).toNat, (r.b - 1).toNat, by omega, by omega, by omega, by omega, ?_, ?_⟩)
    · rw [ht]; congr 2 <;> omega
    · have := hf.2
      rw [ht, Tm.len_pr] at this
      rw [show (((r.a - 1).toNat : Nat) : Int) + 1 = r.a by omega, show (((r.b - 1).toNat : Nat) : Int) + 1 = r.b by omega]
      exact this
  · rw [if_neg (by omega), if_neg (by omega)] at ht
    refine .inr (.inr ⟨h1, h3, (r.a - 1).toNat, r.t.toNat, by omega, by omega, by omega, by omega, ?_, ?_⟩)
    · rw [ht]; congr 2; omega
    · have := hf.2
      rw [ht, Tm.len_pw] at this
      rw [show (((r.a - 1).toNat : Nat) : Int) + 1 = r.a by omega]
      exact this
theorem Rch.gr {S : Sto} (hw : WF S) {id : Int} {L : List Int} (h : Rch S id L) (hk : id ≤ S.E.length) : Gr (xg S L) (L.map (tm S.E)) := by
  have hlen : L.length ≤ 1048576 := by
    have := hw.small
    rcases h.len with h | h
    · omega
    · rw [h]; simp
  refine ⟨by rw [xg_length, List.length_map], by rw [xg_length]; exact hlen, fun i hi => h.ok hw hk (by rwa [xg_length] at hi), fun i hi => h.let_ hw hk (by rwa [xg_length] at hi), fun i hi => ?_, fun i hi => ?_⟩
  · rw [xg_length] at hi
    obtain ⟨p1, p2⟩ := h.pos _ (getD_mem hi)
    rw [getD_map (d := 0) hi]
    exact ⟨hw.pos1 p1 (by omega), hw.le (by omega)⟩
  · rw [xg_length] at hi
    rw [getD_map (d := 0) hi, ← h.term hw hk hi, xg, getD_map (d := 0) hi]
    have ho := h.ok hw hk hi
    rw [xg, getD_map (d := 0) hi] at ho
    have key : ∀ y : Int, y < (i : Int) + 1 → mAt ((L.take i).map (tm S.E)) y = mAt (L.map (tm S.E)) y := fun y hy => by
      conv => rhs; rw [← List.take_append_drop i L, List.map_append]
      unfold mAt
      split
      · rfl
      · rw [getD_append_left (by rw [List.length_map, List.length_take]; omega)]
    generalize ren L (atE S.E (L.getD i 0)).r = r at *
    unfold gT
    rcases ho with ⟨h1, h2, h3, _⟩ | ⟨h1, h2, h3, h4, h5, h6, h7⟩ | ⟨h1, h2, h3, h4, h5, h6⟩
    · rw [if_pos h1, if_pos h1]
    · rw [if_neg (by omega), if_pos h1, if_neg (by omega), if_pos h1, key _ h5, key _ h7]
    · rw [if_neg (by omega), if_neg (by omega), if_neg (by omega), if_neg (by omega), key _ h6]
/-- The last number derives what the ID derives. -/
theorem Rch.top_ {S : Sto} {id : Int} {L : List Int} (h : Rch S id L) (h0 : 0 ≤ id) : mAt (L.map (tm S.E)) L.length = tm S.E id := by
  by_cases hz : id = 0
  · subst hz
    have : L = [] := by
      cases hL : L with
      | nil => rfl
      | cons x t => exact absurd (h.pos x (by rw [hL]; simp)) (by omega)
    subst this; rfl
  · obtain ⟨h1, h2⟩ := h.last hz
    unfold mAt
    rw [if_neg (by omega), show ((L.length : Nat) : Int).toNat - 1 = L.length - 1 by omega, getD_map (d := 0) (by omega), h2]

/-! ### Counts -/

def cnt (p : Nat → Bool) (t : List Nat) : Nat := t.countP p
theorem cnt_append (p : Nat → Bool) (s t : List Nat) : cnt p (s ++ t) = cnt p s + cnt p t := List.countP_append
theorem cnt_le (p : Nat → Bool) (t : List Nat) : cnt p t ≤ t.length := List.countP_le_length
theorem cnt_rep (p : Nat → Bool) (t : List Nat) : ∀ k, cnt p (rep k t) = k * cnt p t
  | 0 => by simp [rep, cnt]
  | k + 1 => by
    have := cnt_rep p t k
    rw [rep_succ, cnt_append, this, Nat.succ_mul, Nat.add_comm]
theorem cnt_one (p : Nat → Bool) (l : Nat) : cnt p [l] = if p l then 1 else 0 := by simp [cnt, List.countP_cons]
theorem cnt_nil (p : Nat → Bool) : cnt p [] = 0 := rfl
theorem cnt_take_pair (p : Nat → Bool) {s t : List Nat} {i : Nat} (h : s.length ≤ i) : cnt p ((s ++ t).take i) = cnt p s + cnt p (t.take (i - s.length)) := by
  rw [List.take_append, List.take_of_length_le h, cnt_append]
theorem take_pair_left {s t : List Nat} {i : Nat} (h : i ≤ s.length) : (s ++ t).take i = s.take i := by
  rw [List.take_append, show i - s.length = 0 by omega, List.take_zero, List.append_nil]
theorem take_rep {t : List Nat} {k i : Nat} (ht : 0 < t.length) (h : i < k * t.length) : (rep k t).take i = rep (i / t.length) t ++ t.take (i % t.length) := by
  have hq : i / t.length < k := (Nat.div_lt_iff_lt_mul ht).2 h
  have e := Nat.div_add_mod i t.length
  have hm := Nat.mod_lt i ht
  rw [Nat.mul_comm] at e
  have h1 : (rep k t).take i = (rep k t).take (i / t.length * t.length) ++ ((rep k t).drop (i / t.length * t.length)).take (i % t.length) := by
    rw [← List.take_add, e]
  rw [h1, rep_take_mul (by omega), rep_drop_mul (by omega)]
  congr 1
  obtain ⟨m, hm'⟩ : ∃ m, k - i / t.length = m + 1 := ⟨k - i / t.length - 1, by omega⟩
  rw [hm', rep_succ, take_pair_left (by omega)]
theorem cnt_take_rep (p : Nat → Bool) {t : List Nat} {k i : Nat} (ht : 0 < t.length) (h : i < k * t.length) : cnt p ((rep k t).take i) = i / t.length * cnt p t + cnt p (t.take (i % t.length)) := by
  rw [take_rep ht h, cnt_append, cnt_rep]
/-- The count of a range is a difference. -/
theorem cnt_sub (p : Nat → Bool) (t : List Nat) (i n : Nat) : cnt p (t.take (i + n)) = cnt p (t.take i) + cnt p (sub t i n) := by
  rw [List.take_add, cnt_append]; rfl
/-! ### The first occurrence -/

theorem idx_left {b : Nat} {s : List Nat} (h : b ∈ s) (t : List Nat) : (s ++ t).idxOf b = s.idxOf b := by rw [List.idxOf_append, if_pos h]
theorem idx_right {b : Nat} {s : List Nat} (h : b ∉ s) (t : List Nat) : (s ++ t).idxOf b = t.idxOf b + s.length := by rw [List.idxOf_append, if_neg h]
/-- The first offset of a letter; -1 if there is none. -/
def fst1 (b : Nat) (t : List Nat) : Int := if b ∈ t then (t.idxOf b : Int) else -1
theorem fst1_pos {b : Nat} {t : List Nat} (h : b ∈ t) : fst1 b t = (t.idxOf b : Int) ∧ t.idxOf b < t.length := ⟨if_pos h, List.idxOf_lt_length_of_mem h⟩
theorem fst1_neg {b : Nat} {t : List Nat} (h : b ∉ t) : fst1 b t = -1 := if_neg h
theorem fst1_ge {b : Nat} {t : List Nat} : 0 ≤ fst1 b t ↔ b ∈ t := by
  unfold fst1
  split
  · rename_i h; exact ⟨fun _ => h, fun _ => by omega⟩
  · rename_i h; exact ⟨fun h0 => by omega, fun h0 => absurd h0 h⟩
theorem fst1_append (b : Nat) (s t : List Nat) : fst1 b (s ++ t) = if 0 ≤ fst1 b s then fst1 b s else if 0 ≤ fst1 b t then s.length + fst1 b t else -1 := by
  by_cases hs : b ∈ s
  · rw [if_pos (fst1_ge.2 hs), (fst1_pos hs).1, (fst1_pos (List.mem_append_left _ hs)).1, idx_left hs]
  · rw [if_neg (fun h => hs (fst1_ge.1 h))]
    by_cases ht : b ∈ t
    · rw [if_pos (fst1_ge.2 ht), (fst1_pos ht).1, (fst1_pos (List.mem_append_right _ ht)).1, idx_right hs]
      omega
    · rw [if_neg (fun h => ht (fst1_ge.1 h)), fst1_neg (by simp [hs, ht])]
theorem mem_rep {b : Nat} {t : List Nat} : ∀ {k : Nat}, b ∈ rep k t ↔ 0 < k ∧ b ∈ t
  | 0 => by simp [rep]
  | k + 1 => by
    rw [rep_succ, List.mem_append, mem_rep]
    constructor
    · rintro (h | h)
      · exact ⟨by omega, h⟩
      · exact ⟨by omega, h.2⟩
    · exact fun h => .inl h.2
theorem fst1_rep (b : Nat) (t : List Nat) {k : Nat} (h : 0 < k) : fst1 b (rep k t) = fst1 b t := by
  obtain ⟨m, rfl⟩ : ∃ m, k = m + 1 := ⟨k - 1, by omega⟩
  by_cases ht : b ∈ t
  · rw [(fst1_pos ht).1, (fst1_pos (mem_rep.2 ⟨h, ht⟩)).1, rep_succ, idx_left ht]
  · rw [fst1_neg ht, fst1_neg (fun hm => ht (mem_rep.1 hm).2)]
/-- What is found from base on, or later. -/
def fin (b i base : Nat) (later : Int) (t : List Nat) : Int := if 0 ≤ fst1 b (t.drop i) then base + i + fst1 b (t.drop i) else later
/-! ### Rows that are filled from the left -/

def upto (f : Nat → Int) (k i : Nat) : List Int := (List.range (k + 1)).map fun x => if x ≤ i then f x else 0
theorem upto_length (f : Nat → Int) (k i : Nat) : (upto f k i).length = k + 1 := by simp [upto]
theorem upto_get {f : Nat → Int} {k i x : Nat} (h : x ≤ i) (hk : x ≤ k) : (ints .i64 (upto f k i))[x]? = some (.int .i64 (f x)) := by
  simp [upto, ints, List.getElem?_range, show x < k + 1 by omega, h]
theorem upto_next {f : Nat → Int} {k i : Nat} : (upto f k i).set (i + 1) (f (i + 1)) = upto f k (i + 1) := by
  refine List.ext_getElem (by simp [upto]) fun x h1 h2 => ?_
  rw [List.getElem_set]
  simp only [upto, List.getElem_map, List.getElem_range]
  by_cases hx : i + 1 = x
  · subst hx; simp
  · rw [if_neg hx]
    by_cases h : x ≤ i
    · rw [if_pos h, if_pos (by omega)]
    · rw [if_neg h, if_neg (by omega)]
theorem upto_stay {f : Nat → Int} {k i : Nat} (h : f (i + 1) = 0) : upto f k i = upto f k (i + 1) := by
  refine List.ext_getElem (by simp [upto]) fun x h1 h2 => ?_
  simp only [upto, List.getElem_map, List.getElem_range]
  by_cases hx : x = i + 1
  · subst hx; rw [if_neg (by omega), if_pos (by omega), h]
  · by_cases h : x ≤ i
    · rw [if_pos h, if_pos (by omega)]
    · rw [if_neg h, if_neg (by omega)]
theorem upto_zero {f : Nat → Int} {k : Nat} (h : f 0 = 0) : List.replicate (k + 1) 0 = upto f k 0 := by
  refine List.ext_getElem (by simp [upto]) fun x h1 h2 => ?_
  simp only [upto, List.getElem_map, List.getElem_range, List.getElem_replicate]
  by_cases hx : x ≤ 0
  · rw [if_pos hx, show x = 0 by omega, h]
  · rw [if_neg hx]
theorem upto_set {f : Nat → Int} {k i : Nat} (h : i + 1 ≤ k) {v : Int} (hv : v = f (i + 1)) : splice (ints .i64 (upto f k i)) (i + 1) [.int .i64 v] = ints .i64 (upto f k (i + 1)) := by
  rw [splice_ints (by rw [upto_length]; omega), hv, upto_next]
theorem upto_len {f : Nat → Int} {k i x : Nat} (h : x ≤ k) : x + 1 ≤ (ints .i64 (upto f k i)).length := by rw [ints_length, upto_length]; omega

/-- The rows of lengths, of first offsets, of counts. -/
def rowN (ms : List Tm) (x : Nat) : Int := ((mAt ms x).len : Nat)
def rowF (b : Nat) (ms : List Tm) (x : Nat) : Int := if x = 0 then 0 else fst1 b (mAt ms x).txt
def rowC (p : Nat → Bool) (ms : List Tm) (x : Nat) : Int := (cnt p (mAt ms x).txt : Nat)
theorem rowN_zero (ms : List Tm) : rowN ms 0 = 0 := rfl
theorem rowC_zero (p : Nat → Bool) (ms : List Tm) : rowC p ms 0 = 0 := rfl
theorem rowF_succ (b : Nat) (ms : List Tm) (x : Nat) : rowF b ms (x + 1) = fst1 b (mAt ms ((x : Int) + 1)).txt := by
  unfold rowF
  rw [if_neg (by omega)]
  congr 3
theorem rowN_succ (ms : List Tm) (x : Nat) : rowN ms (x + 1) = ((mAt ms ((x : Int) + 1)).len : Nat) := by
  unfold rowN
  congr 3
theorem rowC_succ (p : Nat → Bool) (ms : List Tm) (x : Nat) : rowC p ms (x + 1) = (cnt p (mAt ms ((x : Int) + 1)).txt : Nat) := by
  unfold rowC
  congr 3
/-- The rows at a number. -/
theorem Gr.rows {g : List Rul} {ms : List Tm} (h : Gr g ms) (b : Nat) (p : Nat → Bool) {i : Nat} (hi : i < g.length) :
    ((g.getD i rul0).k = 1 ∧ ∃ l : Nat, l < 256 ∧ (g.getD i rul0).l = l ∧ rowN ms (i + 1) = 1 ∧ rowF b ms (i + 1) = (if l = b then 0 else -1) ∧ rowC p ms (i + 1) = (if p l then 1 else 0)) ∨
    ((g.getD i rul0).k = 2 ∧ ∃ x y : Nat, x < i ∧ y < i ∧ (g.getD i rul0).a = (x : Int) + 1 ∧ (g.getD i rul0).b = (y : Int) + 1 ∧ rowN ms (i + 1) = rowN ms (x + 1) + rowN ms (y + 1) ∧ rowF b ms (i + 1) = (if 0 ≤ rowF b ms (x + 1) then rowF b ms (x + 1) else if 0 ≤ rowF b ms (y + 1) then rowN ms (x + 1) + rowF b ms (y + 1) else -1) ∧ rowC p ms (i + 1) = rowC p ms (x + 1) + rowC p ms (y + 1)) ∨
    ((g.getD i rul0).k = 3 ∧ ∃ x k : Nat, x < i ∧ 2 ≤ k ∧ (g.getD i rul0).a = (x : Int) + 1 ∧ (g.getD i rul0).t = (k : Int) ∧ rowN ms (i + 1) = rowN ms (x + 1) * k ∧ rowF b ms (i + 1) = rowF b ms (x + 1) ∧ rowC p ms (i + 1) = rowC p ms (x + 1) * k) := by
  obtain ⟨hc, _⟩ := h.cases hi
  rcases hc with ⟨h1, _, _, l, h2, h3, h4⟩ | ⟨h1, x, y, h2, h3, h4, h5, h6, _⟩ | ⟨h1, _, x, k, h2, h3, h4, h5, h6, _⟩
  · refine .inl ⟨h1, l, h2, h3, ?_, ?_, ?_⟩
    · rw [rowN_succ, h4]; rfl
    · rw [rowF_succ, h4]
      by_cases hl : l = b
      · rw [if_pos hl, hl]; simp [fst1, Tm.txt]
      · rw [if_neg hl]; exact fst1_neg (by simp [Tm.txt]; exact Ne.symm hl)
    · rw [rowC_succ, h4, Tm.txt, cnt_one]; split <;> rfl
  · refine .inr (.inl ⟨h1, x, y, h2, h3, h4, h5, ?_, ?_, ?_⟩)
    · rw [rowN_succ, rowN_succ, rowN_succ, h6, Tm.len_pr]; push_cast; rfl
    · rw [rowF_succ, rowF_succ, rowF_succ, rowN_succ, h6, Tm.txt, fst1_append]; rfl
    · rw [rowC_succ, rowC_succ, rowC_succ, h6, Tm.txt, cnt_append]; push_cast; rfl
  · refine .inr (.inr ⟨h1, x, k, h2, h3, h4, h5, ?_, ?_, ?_⟩)
    · rw [rowN_succ, rowN_succ, h6, Tm.len_pw]; push_cast; rw [Int.mul_comm]
    · rw [rowF_succ, rowF_succ, h6, Tm.txt, fst1_rep _ _ (by omega)]
    · rw [rowC_succ, rowC_succ, h6, Tm.txt, cnt_rep]; push_cast; rw [Int.mul_comm]
theorem Gr.rowN_le {g : List Rul} {ms : List Tm} (h : Gr g ms) {i : Nat} (hi : i < g.length) : 1 ≤ rowN ms (i + 1) ∧ rowN ms (i + 1) ≤ 1152921504606846976 := by
  have h2 := (h.cases hi).2
  rw [rowN_succ]
  have : (mAt ms ((i : Int) + 1)).len ≤ 1152921504606846976 := h2.2
  omega
theorem rowC_le (p : Nat → Bool) (ms : List Tm) (x : Nat) : 0 ≤ rowC p ms x ∧ rowC p ms x ≤ rowN ms x := by
  unfold rowC rowN Tm.len
  have := cnt_le p (mAt ms x).txt
  omega

end Go.Proofs.Ytohlphngnhcbfaa
