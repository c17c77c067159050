/- The letters of a range: the program. -/
import Derived.Test.YtohlphngnhcbfaaK4
import Derived.Test.YtohlphngnhcbfaaK5
namespace Go.Proofs.Ytohlphngnhcbfaa
open Go.EG
attribute [local irreducible] CallK QCall Go.Calls
set_option linter.unusedSimpArgs false
set_option linter.unusedVariables false
set_option maxRecDepth 20000
set_option maxHeartbeats 4000000

/-! ### Plain -/

def byC (t : List Nat) : List Value := t.map fun x : Nat => Value.int .u8 (x : Int)
theorem byC_length (t : List Nat) : (byC t).length = t.length := by simp [byC]
theorem byC_append (s t : List Nat) : byC s ++ byC t = byC (s ++ t) := by simp [byC]
theorem oneAll_by (t : List Nat) : oneAll (byC t) := by
  induction t with
  | nil => exact trivial
  | cons x t ih => exact ⟨trivial, ih⟩
abbrev cpC (x : Int × Nat) : List Value := [.int .i64 x.1, .int .i64 x.2]
def cpsC (l : List (Int × Nat)) : List Value := l.flatMap cpC
theorem cpsC_length : ∀ g : List (Int × Nat), (cpsC g).length = g.length * 2
  | [] => rfl
  | x :: g => by
    have := cpsC_length g
    simp only [cpsC, List.flatMap_cons, List.length_append, List.length_cons, List.length_nil] at this ⊢
    omega
theorem cpsC_append (g h : List (Int × Nat)) : cpsC g ++ cpsC h = cpsC (g ++ h) := by simp [cpsC]
theorem cpsC_take (g : List (Int × Nat)) (x : Int × Nat) : (cpsC (g ++ [x])).take (g.length * 2) = cpsC g := by
  rw [← cpsC_append, ← cpsC_length, List.take_left]
theorem cpsC_fst (g : List (Int × Nat)) (x : Int × Nat) : (cpsC (g ++ [x]))[g.length * 2]? = some (.int .i64 x.1) := by
  rw [← cpsC_append, ← cpsC_length, List.getElem?_append_right (Nat.le_refl _), Nat.sub_self]; rfl
theorem cpsC_snd (g : List (Int × Nat)) (x : Int × Nat) : (cpsC (g ++ [x]))[g.length * 2 + 1]? = some (.int .i64 x.2) := by
  rw [← cpsC_append, ← cpsC_length, List.getElem?_append_right (by omega), show (cpsC g).length + 1 - (cpsC g).length = 1 by omega]; rfl
theorem cpsC_set (g : List (Int × Nat)) (x : Int × Nat) (n : Nat) : splice (cpsC (g ++ [x])) (g.length * 2 + 1) [.int .i64 n] = cpsC (g ++ [(x.1, n)]) := by
  rw [← cpsC_append, ← cpsC_append, ← cpsC_length]
  unfold splice
  rw [List.take_append, List.take_of_length_le (by omega), show (cpsC g).length + 1 - (cpsC g).length = 1 by omega, List.drop_append, List.drop_eq_nil_of_le (by simp; omega)]
  rw [show (cpsC g).length + 1 + [Value.int .i64 (n : Int)].length - (cpsC g).length = 2 by simp; omega]
  simp [cpsC]

def cpTx (E : List Entr) : List (Int × Nat) → List Nat
  | [] => []
  | x :: st => cpTx E st ++ rep x.2 (tm E x.1).txt
theorem cpTx_append (E : List Entr) : ∀ (s t : List (Int × Nat)), cpTx E (s ++ t) = cpTx E t ++ cpTx E s
  | [], t => by simp [cpTx]
  | x :: s, t => by rw [List.cons_append, cpTx, cpTx_append E s t, cpTx, List.append_assoc]
def wkT : Tm → Nat
  | .nil => 0
  | .lt _ => 1
  | .pr a b => 1 + wkT a + wkT b
  | .pw a k => 1 + k * wkT a
def wkC (E : List Entr) : List (Int × Nat) → Nat
  | [] => 0
  | x :: st => x.2 * wkT (tm E x.1) + wkC E st
theorem wkC_append (E : List Entr) : ∀ (s t : List (Int × Nat)), wkC E (s ++ t) = wkC E s + wkC E t
  | [], t => by simp [wkC]
  | x :: s, t => by rw [List.cons_append, wkC, wkC_append E s t, wkC]; omega
def okCp (S : Sto) (st : List (Int × Nat)) : Prop := ∀ x ∈ st, 1 ≤ x.1 ∧ x.1 ≤ S.E.length ∧ 1 ≤ x.2
theorem okCp.snoc {S : Sto} {st : List (Int × Nat)} {x : Int × Nat} (h : okCp S st) (hx : 1 ≤ x.1 ∧ x.1 ≤ S.E.length ∧ 1 ≤ x.2) : okCp S (st ++ [x]) := fun y hy => by
  rcases List.mem_append.1 hy with hy | hy
  · exact h y hy
  · have : y = x := by simpa using hy
    rw [this]; exact hx
theorem okCp.init {S : Sto} {st : List (Int × Nat)} {x : Int × Nat} (h : okCp S (st ++ [x])) : okCp S st := fun y hy => h y (List.mem_append_left _ hy)
theorem okCp.last {S : Sto} {st : List (Int × Nat)} {x : Int × Nat} (h : okCp S (st ++ [x])) : 1 ≤ x.1 ∧ x.1 ≤ S.E.length ∧ 1 ≤ x.2 := h x (by simp)
theorem okCp.len {S : Sto} (hw : WF S) : ∀ {st : List (Int × Nat)}, okCp S st → st.length ≤ (cpTx S.E st).length
  | [], _ => Nat.zero_le _
  | x :: st, h => by
    have ih := okCp.len hw (st := st) fun y hy => h y (List.mem_cons_of_mem _ hy)
    obtain ⟨h1, h2, h3⟩ := h x List.mem_cons_self
    have hp := hw.pos1 h1 h2
    unfold Tm.len at hp
    rw [cpTx, List.length_append, rep_length, List.length_cons]
    have : 1 * 1 ≤ x.2 * (tm S.E x.1).txt.length := Nat.mul_le_mul h3 hp
    omega

/-- A range of a row of bytes of one's own, read. -/
theorem rdsO {w0 : World} {fp0 : List Nat} {L : List Ent} (key bk : Nat) {n c T i m : Nat} {xs ys : List Value} (h : ownAt key L = some ⟨some ⟨bk, 0, none⟩, n, c, T, 1, xs⟩) (hi : i < c) (hy : (xs.drop i).take m = ys) (hm : m = ys.length) : RdS w0 fp0 L (offA (some ⟨bk, 0, none⟩) c i 1) (m * 1) ys := by
  refine ⟨by rw [Nat.mul_one, hm], ?_⟩
  by_cases h0 : ys = []
  · exact .inl h0
  · refine .inr fun w hR => ⟨bk, i, ?_, fun j v hv => ?_⟩
    · unfold offA
      rw [if_neg (by omega), Nat.mul_one]
      simp [Addr.add]
      try omega
    · have hx : xs[i + j]? = some v := by
        rw [← hy, List.getElem?_take] at hv
        split at hv
        · simpa using hv
        · cases hv
      obtain ⟨g, ha, hc⟩ := cell_own hR h hx
      simp only [Option.some.injEq, Addr.mk.injEq, and_true] at ha
      subst ha
      exact hc

/-! ### A whole text -/

structure SpG where
  acc : List Nat
  st : List (Int × Nat)
  a : Option Addr
  c : Nat
  fp : List Nat
abbrev txtB (bt bk c : Nat) (acc : List Nat) : List Ent := [.box 13 bt [.slice (some ⟨bk, 0, none⟩) acc.length c] ty_Sl_uint8, .own 35 (some ⟨bk, 0, none⟩) acc.length c ty_uint8 1 (byC acc)]
theorem calls_spell (b : Nat) (S : Sto) (hw : WF S) (x : Int) (h1 : 1 ≤ x) (h2 : x ≤ S.E.length) (bt bk c : Nat) (hc : c ≤ 65536) (acc : List Nat) (hfit : (acc ++ (tm S.E x).txt).length ≤ c) (fp fps : List Nat) (w : World)
    (hR : R w fp [packE 77 fps (fS b S), .box 13 bt [.slice (some ⟨bk, 0, none⟩) acc.length c] ty_Sl_uint8, .own 35 (some ⟨bk, 0, none⟩) acc.length c ty_uint8 1 (byC acc)] w) :
    Calls Try.prog fn_access_spell #[pS b, .int .i64 x, .pointer (some ⟨bt, 0, none⟩)] w fun e w' => ∃ v L1, e = .returned v ∧ R w fp L1 w' ∧ v = .nilIface ∧ ∃ fp', L1 = [packE 77 fp' (fS b S), .box 13 bt [.slice (some ⟨bk, 0, none⟩) (acc ++ (tm S.E x).txt).length c] ty_Sl_uint8, .own 35 (some ⟨bk, 0, none⟩) (acc ++ (tm S.E x).txt).length c ty_uint8 1 (byC (acc ++ (tm S.E x).txt))] := by
  refine part_call [.v (pS b), .v (.int .i64 x), .ptr 13 bt 0] ok_access_spell (by simp) hR ?_
  have hsm := hw.small
  generalize hT : acc ++ (tm S.E x).txt = T at *
  (repeat' ((conv => whnf); first | (refine bcase_prop (fun h => ?_) (fun h => ?_) <;> try (exfalso; omega)) | (refine bcase_nprop (fun h => ?_) (fun h => ?_) <;> try (exfalso; omega)) | (refine bcase_intro (fun h => ?_) (fun h => ?_) <;> (try simp only [Bool.not_eq_true', Bool.not_eq_false', decide_eq_true_eq, decide_eq_false_iff_not, Bool.not_eq_true, Bool.not_eq_false, Decidable.not_not] at h)) | refine And.intro (by first | omega | exact rfl | assumption | exact ⟨rfl, rfl, rfl, rfl, rfl⟩ | exact ⟨rfl, rfl, rfl, rfl⟩ | exact ⟨rfl, by omega⟩ | exact oneAll_of rfl | exact ⟨rfl, oneAll_of rfl⟩ | exact Ref.refl _ | exact Thin.ref (.skip (Thin.refl _)) | exact Thin.ref (.skip (.skip (Thin.refl _))) | exact ⟨rfl, Nat.le_of_ble_eq_true rfl⟩ | ((try unfold maxLen); (try simp only [List.length_nil, List.length_cons, List.length_append]); omega) | (refine ⟨rfl, ?_⟩; (try simp only [List.length_nil, List.length_cons, List.length_append]); omega)) ?_ | intro _)); (all_goals (conv => whnf))
  rename_i b14
  refine VC_loop SpG (fun y => [(0, .v (pS b)), (2, .ptr 13 bt 0), (7, .sl 500 y.a y.st.length y.c)]) (fun y => [packE 77 y.fp (fS b S), .own 500 y.a y.st.length y.c ty_access_copies 2 (cpsC y.st), .box 13 bt [.slice (some ⟨bk, 0, none⟩) y.acc.length c] ty_Sl_uint8, .own 35 (some ⟨bk, 0, none⟩) y.acc.length c ty_uint8 1 (byC y.acc)])
    (fun y => okCp S y.st ∧ y.acc ++ cpTx S.E y.st = T) (fun y => wkC S.E y.st) ⟨acc, [(x, 1)], some ⟨b14, 0, none⟩, 1, fps⟩ ⟨?_, ?_⟩ (by (repeat ((conv => whnf); refine And.intro (by first | exact rfl | exact vint_eq (by omega) | exact vint_eq (by (dsimp only; omega)) | exact vsl_eq (by omega) | exact vsl_eq (by first | (dsimp only; omega) | (simp; done) | (simp; omega))) ?_)); exact trivial) ((refPick 77 rfl).trans (Thin.ref (.keep rfl (fun _ h => h) (.own rfl rfl (Thin.refl _))))) ?_
  · intro y hy
    have : y = (x, 1) := by simpa using hy
    rw [this]; exact ⟨h1, h2, Nat.le_refl _⟩
  · simp only [cpTx, List.nil_append]
    rw [rep_one]; exact hT
  rintro ⟨acc, st, a, cc, fpx⟩ ⟨k1, k2⟩
  dsimp only at k1 k2 ⊢
  have hlen : acc.length + (cpTx S.E st).length = T.length := by rw [← k2, List.length_append]
  have hsl := k1.len hw
  rcases List.eq_nil_or_concat st with rfl | ⟨s, y, rfl⟩
  · rw [cpTx, List.append_nil] at k2
    subst k2
    (repeat' ((conv => whnf); first | (refine bcase_prop (fun h => ?_) (fun h => ?_) <;> try (exfalso; omega)) | (refine bcase_nprop (fun h => ?_) (fun h => ?_) <;> try (exfalso; omega)) | (refine bcase_intro (fun h => ?_) (fun h => ?_) <;> (try simp only [Bool.not_eq_true', Bool.not_eq_false', decide_eq_true_eq, decide_eq_false_iff_not, Bool.not_eq_true, Bool.not_eq_false, Decidable.not_not] at h)) | refine And.intro (by first | omega | exact rfl | assumption | exact ⟨rfl, rfl, rfl, rfl, rfl⟩ | exact ⟨rfl, rfl, rfl, rfl⟩ | exact ⟨rfl, by omega⟩ | exact oneAll_of rfl | exact ⟨rfl, oneAll_of rfl⟩ | exact Ref.refl _ | exact Thin.ref (.skip (Thin.refl _)) | exact Thin.ref (.skip (.skip (Thin.refl _))) | exact ⟨rfl, Nat.le_of_ble_eq_true rfl⟩ | ((try unfold maxLen); (try simp only [List.length_nil, List.length_cons, List.length_append]); omega) | (refine ⟨rfl, ?_⟩; (try simp only [List.length_nil, List.length_cons, List.length_append]); omega)) ?_ | intro _)); (all_goals (conv => whnf))
    exact ⟨⟨_, Thin.ref (.keep rfl (fun _ h => h) (.skip (Thin.refl _))), rfl, fpx, rfl⟩⟩
  rw [List.concat_eq_append] at k1 k2 hlen hsl ⊢
  have hsb : (s ++ [y]).length ≤ 65536 := by omega
  obtain ⟨m, t⟩ := y
  obtain ⟨m1, m2, m3⟩ := k1.last
  have hs := k1.init
  dsimp only at m1 m2 m3
  obtain ⟨t, rfl⟩ : ∃ t', t = t' + 1 := ⟨t - 1, by omega⟩
  have hle : (s ++ [(m, t + 1)]).length = s.length + 1 := by simp
  have hidx : (((s ++ [(m, t + 1)]).length : Int) - 1).toNat = s.length := by omega
  have r1 := cpsC_fst s (m, t + 1)
  have r2 := cpsC_snd s (m, t + 1)
  have r3 := cpsC_set s (m, t + 1) t
  have r4 := cpsC_snd s (m, t)
  have r5 := cpsC_take s (m, t)
  dsimp only at r1 r2 r3 r4 r5
  have e1 : ((t + 1 : Nat) : Int) - 1 = (t : Nat) := by omega
  have hll : s.length * 2 + 1 + 1 ≤ (cpsC (s ++ [(m, t + 1)])).length := by rw [cpsC_length, hle]; omega
  have c1 := calls_Rule b S m hsm
  rw [ruleV_ok m1 m2] at c1
  have hpt : cpTx S.E (s ++ [(m, t + 1)]) = (tm S.E m).txt ++ cpTx S.E (s ++ [(m, t)]) := by
    rw [cpTx_append, cpTx_append]
    simp only [cpTx, List.nil_append]
    rw [rep_succ, List.append_assoc]
  have hwk : wkC S.E (s ++ [(m, t + 1)]) = wkT (tm S.E m) + wkC S.E (s ++ [(m, t)]) := by
    rw [wkC_append, wkC_append]
    simp only [wkC, Nat.add_mul, Nat.one_mul]; omega
  have hpos0 := hw.pos1 m1 m2
  have htb : t ≤ 65536 := by
    have h1 : (cpTx S.E (s ++ [(m, t + 1)])).length = (t + 1) * (tm S.E m).len + (cpTx S.E s).length := by
      rw [cpTx_append, List.length_append]
      simp only [cpTx, List.nil_append]
      rw [rep_length]; rfl
    have h2 : (t + 1) * 1 ≤ (t + 1) * (tm S.E m).len := Nat.mul_le_mul_left _ hpos0
    omega
  rw [hpt] at k2 hlen hsl
  rw [List.length_append] at hlen hsl
  have hpop : t = 0 → cpTx S.E (s ++ [(m, t)]) = cpTx S.E s ∧ wkC S.E (s ++ [(m, t)]) = wkC S.E s := fun h => by
    subst h
    refine ⟨?_, ?_⟩
    · rw [cpTx_append]; simp [cpTx, rep]
    · rw [wkC_append]; simp [wkC]
  have hkeep : t ≠ 0 → okCp S (s ++ [(m, t)]) := fun h => hs.snoc ⟨m1, m2, by show 1 ≤ t; omega⟩
  have hpos := hw.pos1 m1 m2
  unfold Tm.len at hpos
  -- what is left behind the copy
  obtain ⟨s', hs'1, hs'2, hs'3, hs'4⟩ : ∃ s', s' = (if t = 0 then s else s ++ [(m, t)]) ∧ okCp S s' ∧ cpTx S.E s' = cpTx S.E (s ++ [(m, t)]) ∧ wkC S.E s' = wkC S.E (s ++ [(m, t)]) := by
    by_cases h : t = 0
    · exact ⟨s, by rw [if_pos h], hs, (hpop h).1.symm, (hpop h).2.symm⟩
    · exact ⟨s ++ [(m, t)], by rw [if_neg h], hkeep h, rfl, rfl⟩
  rw [← hs'3] at k2 hlen hsl
  rw [← hs'4] at hwk
  have hl2 : ((s ++ [(m, t)]).length) = s.length + 1 := by simp
  rcases hw.below m1 m2 with ⟨q1, ht⟩ | ⟨q1, ht, a1, a2, b1, b2⟩ | ⟨q1, ht, a1, a2, t2⟩
  · obtain ⟨l, hl⟩ : ∃ l : Nat, (atE S.E m).r.l = l := ⟨(atE S.E m).r.l.toNat, by have := (hw.at_ m1 m2).2.1; omega⟩
    rw [hl, Int.toNat_natCast] at ht
    rw [ht] at k2 hlen hsl hwk
    simp only [Tm.txt, List.length_cons, List.length_nil] at k2 hlen hsl
    simp only [wkT] at hwk
    have hby : byC acc ++ [.int .u8 l] = byC (acc ++ [l]) := byC_append acc [l]
    have hal : (acc ++ [l]).length = acc.length + 1 := by simp
    by_cases h : t = 0
    · rw [if_pos h] at hs'1
      subst h hs'1
      (repeat' ((conv => whnf); first | rw [hidx] | rw [e1] | rw [r3] | rw [r5] | rw [hl] | rw [hby] | (refine CallK_pack (key := 77) rfl (fun w hR h0 => c1 _ _ _ h0) ?_; rintro _ _ ⟨rfl, fp', rfl⟩; refine ⟨.v _, rfl, ?_⟩) | refine ldCell r1 ?_ | refine ldCell r2 ?_ | refine ldCell r4 ?_ | refine ⟨.sl 35 _ _ _, ⟨rfl, rfl, rfl, rfl⟩, ?_⟩ | (refine bcase_prop (fun h => ?_) (fun h => ?_) <;> try (exfalso; omega)) | (refine bcase_nprop (fun h => ?_) (fun h => ?_) <;> try (exfalso; omega)) | (refine bcase_intro (fun h => ?_) (fun h => ?_) <;> (try simp only [Bool.not_eq_true', Bool.not_eq_false', decide_eq_true_eq, decide_eq_false_iff_not, Bool.not_eq_true, Bool.not_eq_false, Decidable.not_not] at h)) | refine And.intro (by first | omega | exact rfl | assumption | exact ⟨rfl, rfl, rfl, rfl, rfl⟩ | exact ⟨rfl, rfl, rfl, rfl⟩ | exact ⟨rfl, by omega⟩ | exact oneAll_of rfl | exact ⟨rfl, oneAll_of rfl⟩ | exact Ref.refl _ | exact Thin.ref (.skip (Thin.refl _)) | exact Thin.ref (.skip (.skip (Thin.refl _))) | exact ⟨rfl, hll⟩ | exact ⟨rfl, rfl, rfl, rfl, rfl, by omega, by omega⟩ | exact fun _ => Thin.ref (by (repeat (first | exact Thin.nil _ | exact Thin.refl _ | refine Thin.keep rfl (fun _ h => h) ?_ | refine Thin.skip ?_))) | exact ⟨rfl, Nat.le_of_ble_eq_true rfl⟩ | ((try unfold maxLen); (try simp only [List.length_nil, List.length_cons, List.length_append]); omega) | (refine ⟨rfl, ?_⟩; (try simp only [List.length_nil, List.length_cons, List.length_append]); omega)) ?_ | intro _)); (all_goals (conv => whnf))
      all_goals first | (exfalso; omega) | skip
      all_goals (refine loop_next ⟨acc ++ [l], _, a, cc, fp'⟩ ⟨hs'2, by simpa using k2⟩ (by ((try dsimp only); omega)) (by (repeat ((conv => whnf); refine And.intro (by first | exact rfl | exact vint_eq (by omega) | exact vint_eq (by (dsimp only; omega)) | exact vsl_eq (by omega) | exact vsl_eq (by first | (dsimp only; omega) | (simp; done) | (simp; omega))) ?_)); exact trivial) ((refPick 77 rfl).trans (Thin.ref ?_)))
      all_goals (repeat (first | exact Thin.nil _ | exact Thin.refl _ | refine Thin.keep rfl (fun _ h => h) ?_ | refine Thin.own (by first | rfl | (simp; done) | omega) rfl ?_ | refine Thin.box (by first | rfl | (simp; done)) ?_ | refine Thin.skip ?_))
    · rw [if_neg h] at hs'1
      subst hs'1
      (repeat' ((conv => whnf); first | rw [hidx] | rw [e1] | rw [r3] | (refine CallK_pack (key := 77) rfl (fun w hR h0 => c1 _ _ _ h0) ?_; rintro _ _ ⟨rfl, fp', rfl⟩; refine ⟨.v _, rfl, ?_⟩) | refine ldCell r1 ?_ | refine ldCell r2 ?_ | refine ldCell r4 ?_ | rw [hl] | rw [hby] | refine ⟨.sl 35 _ _ _, ⟨rfl, rfl, rfl, rfl⟩, ?_⟩ | (refine bcase_prop (fun h => ?_) (fun h => ?_) <;> try (exfalso; omega)) | (refine bcase_nprop (fun h => ?_) (fun h => ?_) <;> try (exfalso; omega)) | (refine bcase_intro (fun h => ?_) (fun h => ?_) <;> (try simp only [Bool.not_eq_true', Bool.not_eq_false', decide_eq_true_eq, decide_eq_false_iff_not, Bool.not_eq_true, Bool.not_eq_false, Decidable.not_not] at h)) | refine And.intro (by first | omega | exact rfl | assumption | exact ⟨rfl, rfl, rfl, rfl, rfl⟩ | exact ⟨rfl, rfl, rfl, rfl⟩ | exact ⟨rfl, by omega⟩ | exact oneAll_of rfl | exact ⟨rfl, oneAll_of rfl⟩ | exact Ref.refl _ | exact Thin.ref (.skip (Thin.refl _)) | exact Thin.ref (.skip (.skip (Thin.refl _))) | exact ⟨rfl, hll⟩ | exact ⟨rfl, rfl, rfl, rfl, rfl, by omega, by omega⟩ | exact fun _ => Thin.ref (by (repeat (first | exact Thin.nil _ | exact Thin.refl _ | refine Thin.keep rfl (fun _ h => h) ?_ | refine Thin.skip ?_))) | exact ⟨rfl, Nat.le_of_ble_eq_true rfl⟩ | ((try unfold maxLen); (try simp only [List.length_nil, List.length_cons, List.length_append]); omega) | (refine ⟨rfl, ?_⟩; (try simp only [List.length_nil, List.length_cons, List.length_append]); omega)) ?_ | intro _)); (all_goals (conv => whnf))
      all_goals first | (exfalso; omega) | skip
      all_goals (refine loop_next ⟨acc ++ [l], _, a, cc, fp'⟩ ⟨hs'2, by simpa using k2⟩ (by ((try dsimp only); omega)) (by (repeat ((conv => whnf); refine And.intro (by first | exact rfl | exact vint_eq (by omega) | exact vint_eq (by (dsimp only; omega)) | exact vsl_eq (by omega) | exact vsl_eq (by first | (dsimp only; omega) | (simp; done) | (simp; omega))) ?_)); exact trivial) ((refPick 77 rfl).trans (Thin.ref ?_)))
      all_goals (repeat (first | exact Thin.nil _ | exact Thin.refl _ | refine Thin.keep rfl (fun _ h => h) ?_ | refine Thin.own (by first | rfl | (simp; done) | omega) rfl ?_ | refine Thin.box (by first | rfl | (simp; done)) ?_ | refine Thin.skip ?_))
  · rw [ht] at k2 hwk
    simp only [Tm.txt, wkT] at k2 hwk
    have hsn : ∀ u : List (Int × Nat), cpsC u ++ [.int .i64 (atE S.E m).r.b, .int .i64 1, .int .i64 (atE S.E m).r.a, .int .i64 1] = cpsC (u ++ [((atE S.E m).r.b, 1), ((atE S.E m).r.a, 1)]) := fun u => cpsC_append u [((atE S.E m).r.b, 1), ((atE S.E m).r.a, 1)]
    have hok : okCp S (s' ++ [((atE S.E m).r.b, 1), ((atE S.E m).r.a, 1)]) := by
      have := (hs'2.snoc (x := ((atE S.E m).r.b, 1)) ⟨b1, by dsimp only; omega, Nat.le_refl _⟩).snoc (x := ((atE S.E m).r.a, 1)) ⟨a1, by dsimp only; omega, Nat.le_refl _⟩
      simpa using this
    have htx : acc ++ cpTx S.E (s' ++ [((atE S.E m).r.b, 1), ((atE S.E m).r.a, 1)]) = T := by
      rw [cpTx_append]
      simp only [cpTx, rep_one, List.nil_append, List.append_assoc] at k2 ⊢
      exact k2
    have hmu : wkC S.E (s' ++ [((atE S.E m).r.b, 1), ((atE S.E m).r.a, 1)]) < wkC S.E (s ++ [(m, t + 1)]) := by
      rw [wkC_append, hwk]
      simp only [wkC, Nat.one_mul]; omega
    have hul : ∀ u : List (Int × Nat), (u ++ [((atE S.E m).r.b, 1), ((atE S.E m).r.a, 1)]).length = u.length + 2 := fun u => by simp
    by_cases h : t = 0
    · rw [if_pos h] at hs'1
      subst h hs'1
      (repeat' ((conv => whnf); first | rw [hidx] | rw [e1] | rw [r3] | rw [r5] | (refine CallK_pack (key := 77) rfl (fun w hR h0 => c1 _ _ _ h0) ?_; rintro _ _ ⟨rfl, fp', rfl⟩; refine ⟨.v _, rfl, ?_⟩) | refine ldCell r1 ?_ | refine ldCell r2 ?_ | refine ldCell r4 ?_ | rw [hsn] | (refine bcase_prop (fun h => ?_) (fun h => ?_) <;> try (exfalso; omega)) | (refine bcase_nprop (fun h => ?_) (fun h => ?_) <;> try (exfalso; omega)) | (refine bcase_intro (fun h => ?_) (fun h => ?_) <;> (try simp only [Bool.not_eq_true', Bool.not_eq_false', decide_eq_true_eq, decide_eq_false_iff_not, Bool.not_eq_true, Bool.not_eq_false, Decidable.not_not] at h)) | refine And.intro (by first | omega | exact rfl | assumption | exact ⟨rfl, rfl, rfl, rfl, rfl⟩ | exact ⟨rfl, rfl, rfl, rfl⟩ | exact ⟨rfl, by omega⟩ | exact oneAll_of rfl | exact ⟨rfl, oneAll_of rfl⟩ | exact Ref.refl _ | exact Thin.ref (.skip (Thin.refl _)) | exact Thin.ref (.skip (.skip (Thin.refl _))) | exact ⟨rfl, hll⟩ | exact ⟨by unfold maxLen; omega, by omega⟩ | exact ⟨rfl, Nat.le_of_ble_eq_true rfl⟩ | ((try unfold maxLen); (try simp only [List.length_nil, List.length_cons, List.length_append]); omega) | (refine ⟨rfl, ?_⟩; (try simp only [List.length_nil, List.length_cons, List.length_append]); omega)) ?_ | intro _)); (all_goals (conv => whnf))
      all_goals first | (exfalso; omega) | skip
      all_goals rename_i a' c'
      all_goals (refine loop_next ⟨acc, _, a', c', fp'⟩ ⟨hok, htx⟩ hmu (by (repeat ((conv => whnf); refine And.intro (by first | exact rfl | exact vint_eq (by omega) | exact vint_eq (by (dsimp only; omega)) | exact vsl_eq (by omega) | exact vsl_eq (by first | (dsimp only; omega) | (simp; done) | (simp; omega))) ?_)); exact trivial) ((refPick 77 rfl).trans (Thin.ref ?_)))
      all_goals (repeat (first | exact Thin.nil _ | exact Thin.refl _ | refine Thin.keep rfl (fun _ h => h) ?_ | refine Thin.own (by first | rfl | (simp; done) | omega) rfl ?_ | refine Thin.box (by first | rfl | (simp; done)) ?_ | refine Thin.skip ?_))
    · rw [if_neg h] at hs'1
      have hsn' := hsn
      subst hs'1
      (repeat' ((conv => whnf); first | rw [hidx] | rw [e1] | rw [r3] | (refine CallK_pack (key := 77) rfl (fun w hR h0 => c1 _ _ _ h0) ?_; rintro _ _ ⟨rfl, fp', rfl⟩; refine ⟨.v _, rfl, ?_⟩) | refine ldCell r1 ?_ | refine ldCell r2 ?_ | refine ldCell r4 ?_ | rw [hsn] | (refine bcase_prop (fun h => ?_) (fun h => ?_) <;> try (exfalso; omega)) | (refine bcase_nprop (fun h => ?_) (fun h => ?_) <;> try (exfalso; omega)) | (refine bcase_intro (fun h => ?_) (fun h => ?_) <;> (try simp only [Bool.not_eq_true', Bool.not_eq_false', decide_eq_true_eq, decide_eq_false_iff_not, Bool.not_eq_true, Bool.not_eq_false, Decidable.not_not] at h)) | refine And.intro (by first | omega | exact rfl | assumption | exact ⟨rfl, rfl, rfl, rfl, rfl⟩ | exact ⟨rfl, rfl, rfl, rfl⟩ | exact ⟨rfl, by omega⟩ | exact oneAll_of rfl | exact ⟨rfl, oneAll_of rfl⟩ | exact Ref.refl _ | exact Thin.ref (.skip (Thin.refl _)) | exact Thin.ref (.skip (.skip (Thin.refl _))) | exact ⟨rfl, hll⟩ | exact ⟨by unfold maxLen; omega, by omega⟩ | exact ⟨rfl, Nat.le_of_ble_eq_true rfl⟩ | ((try unfold maxLen); (try simp only [List.length_nil, List.length_cons, List.length_append]); omega) | (refine ⟨rfl, ?_⟩; (try simp only [List.length_nil, List.length_cons, List.length_append]); omega)) ?_ | intro _)); (all_goals (conv => whnf))
      all_goals first | (exfalso; omega) | skip
      all_goals rename_i a' c'
      all_goals (refine loop_next ⟨acc, _, a', c', fp'⟩ ⟨hok, htx⟩ hmu (by (repeat ((conv => whnf); refine And.intro (by first | exact rfl | exact vint_eq (by omega) | exact vint_eq (by (dsimp only; omega)) | exact vsl_eq (by omega) | exact vsl_eq (by first | (dsimp only; omega) | (simp; done) | (simp; omega))) ?_)); exact trivial) ((refPick 77 rfl).trans (Thin.ref ?_)))
      all_goals (repeat (first | exact Thin.nil _ | exact Thin.refl _ | refine Thin.keep rfl (fun _ h => h) ?_ | refine Thin.own (by first | rfl | (simp; done) | omega) rfl ?_ | refine Thin.box (by first | rfl | (simp; done)) ?_ | refine Thin.skip ?_))
  · rw [ht] at k2 hwk
    obtain ⟨q, hq⟩ : ∃ q : Nat, (atE S.E m).r.t = q := ⟨(atE S.E m).r.t.toNat, by omega⟩
    rw [hq, Int.toNat_natCast] at k2 hwk
    simp only [Tm.txt, wkT] at k2 hwk
    have hsn : ∀ u : List (Int × Nat), cpsC u ++ [.int .i64 (atE S.E m).r.a, .int .i64 q] = cpsC (u ++ [((atE S.E m).r.a, q)]) := fun u => cpsC_append u [((atE S.E m).r.a, q)]
    have hok : okCp S (s' ++ [((atE S.E m).r.a, q)]) := hs'2.snoc (x := ((atE S.E m).r.a, q)) ⟨a1, by dsimp only; omega, by show 1 ≤ q; omega⟩
    have htx : acc ++ cpTx S.E (s' ++ [((atE S.E m).r.a, q)]) = T := by
      rw [cpTx_append]
      simp only [cpTx, List.nil_append] at k2 ⊢
      exact k2
    have hmu : wkC S.E (s' ++ [((atE S.E m).r.a, q)]) < wkC S.E (s ++ [(m, t + 1)]) := by
      rw [wkC_append, hwk]
      simp only [wkC]; omega
    have hul : ∀ u : List (Int × Nat), (u ++ [((atE S.E m).r.a, q)]).length = u.length + 1 := fun u => by simp
    by_cases h : t = 0
    · rw [if_pos h] at hs'1
      subst h hs'1
      (repeat' ((conv => whnf); first | rw [hidx] | rw [e1] | rw [r3] | rw [r5] | (refine CallK_pack (key := 77) rfl (fun w hR h0 => c1 _ _ _ h0) ?_; rintro _ _ ⟨rfl, fp', rfl⟩; refine ⟨.v _, rfl, ?_⟩) | refine ldCell r1 ?_ | refine ldCell r2 ?_ | refine ldCell r4 ?_ | rw [hq] | rw [hsn] | (refine bcase_prop (fun h => ?_) (fun h => ?_) <;> try (exfalso; omega)) | (refine bcase_nprop (fun h => ?_) (fun h => ?_) <;> try (exfalso; omega)) | (refine bcase_intro (fun h => ?_) (fun h => ?_) <;> (try simp only [Bool.not_eq_true', Bool.not_eq_false', decide_eq_true_eq, decide_eq_false_iff_not, Bool.not_eq_true, Bool.not_eq_false, Decidable.not_not] at h)) | refine And.intro (by first | omega | exact rfl | assumption | exact ⟨rfl, rfl, rfl, rfl, rfl⟩ | exact ⟨rfl, rfl, rfl, rfl⟩ | exact ⟨rfl, by omega⟩ | exact oneAll_of rfl | exact ⟨rfl, oneAll_of rfl⟩ | exact Ref.refl _ | exact Thin.ref (.skip (Thin.refl _)) | exact Thin.ref (.skip (.skip (Thin.refl _))) | exact ⟨rfl, hll⟩ | exact ⟨by unfold maxLen; omega, by omega⟩ | exact ⟨rfl, Nat.le_of_ble_eq_true rfl⟩ | ((try unfold maxLen); (try simp only [List.length_nil, List.length_cons, List.length_append]); omega) | (refine ⟨rfl, ?_⟩; (try simp only [List.length_nil, List.length_cons, List.length_append]); omega)) ?_ | intro _)); (all_goals (conv => whnf))
      all_goals first | (exfalso; omega) | skip
      all_goals rename_i a' c'
      all_goals (refine loop_next ⟨acc, _, a', c', fp'⟩ ⟨hok, htx⟩ hmu (by (repeat ((conv => whnf); refine And.intro (by first | exact rfl | exact vint_eq (by omega) | exact vint_eq (by (dsimp only; omega)) | exact vsl_eq (by omega) | exact vsl_eq (by first | (dsimp only; omega) | (simp; done) | (simp; omega))) ?_)); exact trivial) ((refPick 77 rfl).trans (Thin.ref ?_)))
      all_goals (repeat (first | exact Thin.nil _ | exact Thin.refl _ | refine Thin.keep rfl (fun _ h => h) ?_ | refine Thin.own (by first | rfl | (simp; done) | omega) rfl ?_ | refine Thin.box (by first | rfl | (simp; done)) ?_ | refine Thin.skip ?_))
    · rw [if_neg h] at hs'1
      have hsn' := hsn
      subst hs'1
      (repeat' ((conv => whnf); first | rw [hidx] | rw [e1] | rw [r3] | (refine CallK_pack (key := 77) rfl (fun w hR h0 => c1 _ _ _ h0) ?_; rintro _ _ ⟨rfl, fp', rfl⟩; refine ⟨.v _, rfl, ?_⟩) | refine ldCell r1 ?_ | refine ldCell r2 ?_ | refine ldCell r4 ?_ | rw [hq] | rw [hsn] | (refine bcase_prop (fun h => ?_) (fun h => ?_) <;> try (exfalso; omega)) | (refine bcase_nprop (fun h => ?_) (fun h => ?_) <;> try (exfalso; omega)) | (refine bcase_intro (fun h => ?_) (fun h => ?_) <;> (try simp only [Bool.not_eq_true', Bool.not_eq_false', decide_eq_true_eq, decide_eq_false_iff_not, Bool.not_eq_true, Bool.not_eq_false, Decidable.not_not] at h)) | refine And.intro (by first | omega | exact rfl | assumption | exact ⟨rfl, rfl, rfl, rfl, rfl⟩ | exact ⟨rfl, rfl, rfl, rfl⟩ | exact ⟨rfl, by omega⟩ | exact oneAll_of rfl | exact ⟨rfl, oneAll_of rfl⟩ | exact Ref.refl _ | exact Thin.ref (.skip (Thin.refl _)) | exact Thin.ref (.skip (.skip (Thin.refl _))) | exact ⟨rfl, hll⟩ | exact ⟨by unfold maxLen; omega, by omega⟩ | exact ⟨rfl, Nat.le_of_ble_eq_true rfl⟩ | ((try unfold maxLen); (try simp only [List.length_nil, List.length_cons, List.length_append]); omega) | (refine ⟨rfl, ?_⟩; (try simp only [List.length_nil, List.length_cons, List.length_append]); omega)) ?_ | intro _)); (all_goals (conv => whnf))
      all_goals first | (exfalso; omega) | skip
      all_goals rename_i a' c'
      all_goals (refine loop_next ⟨acc, _, a', c', fp'⟩ ⟨hok, htx⟩ hmu (by (repeat ((conv => whnf); refine And.intro (by first | exact rfl | exact vint_eq (by omega) | exact vint_eq (by (dsimp only; omega)) | exact vsl_eq (by omega) | exact vsl_eq (by first | (dsimp only; omega) | (simp; done) | (simp; omega))) ?_)); exact trivial) ((refPick 77 rfl).trans (Thin.ref ?_)))
      all_goals (repeat (first | exact Thin.nil _ | exact Thin.refl _ | refine Thin.keep rfl (fun _ h => h) ?_ | refine Thin.own (by first | rfl | (simp; done) | omega) rfl ?_ | refine Thin.box (by first | rfl | (simp; done)) ?_ | refine Thin.skip ?_))

/-! ### The visitor -/

theorem _root_.Go.EG.Ref.unpackU' {w0 : World} {fp0 : List Nat} {L : List Ent} {key : Nat} {fp : List Nat} {f : Unit → List Ent} : Ref w0 fp0 (packE key fp f :: L) (f () ++ L) := fun w hR => by
  obtain ⟨x, _, h⟩ := hR.unpack
  exact h
/-- What the visitor writes: the boxes of the store's pointer and of the text, and the text. -/
def fX (b b4 bt bk N : Nat) (acc : List Nat) : Unit → List Ent := fun _ => [.box 4 b4 [pS b] ty_P_intern_Store, .box 13 bt [.slice (some ⟨bk, 0, none⟩) acc.length N] ty_Sl_uint8, .own 35 (some ⟨bk, 0, none⟩) acc.length N ty_uint8 1 (byC acc)]
structure VxG where
  i : Nat
  fp : List Nat
theorem visX (b : Nat) (S : Sto) (hw : WF S) (b4 bt bk N : Nat) (hN : N ≤ 65536) : VisOk S b N fn_access_Extract_1 [.pointer (some ⟨bt, 0, none⟩), .pointer (some ⟨b4, 0, none⟩)] (fX b b4 bt bk N) := by
  intro acc x k h1 h2 h3 h4 fp1 fp2 w hR
  replace hR := (Ref.unpackU' w hR : R _ _ ([.box 4 b4 [pS b] ty_P_intern_Store, .box 13 bt [.slice (some ⟨bk, 0, none⟩) acc.length N] ty_Sl_uint8, .own 35 (some ⟨bk, 0, none⟩) acc.length N ty_uint8 1 (byC acc)] ++ _) w)
  refine part_call [.v (.int .i64 x), .v (.int .i64 k), .ptr 13 bt 0, .ptr 4 b4 0] ok_access_Extract_1 (by simp) hR ?_
  generalize hT : (tm S.E x).txt = T at *
  have hpos := hw.pos1 h1 h2
  unfold Tm.len at hpos
  rw [hT] at hpos
  have hA : ∀ j, j ≤ k → (acc ++ rep j T).length ≤ N := fun j hj => by
    rw [List.length_append, rep_length] at h4 ⊢
    have := Nat.mul_le_mul_right T.length hj
    omega
  have h1N := hA 1 h3
  rw [rep_one] at h1N
  have hk : k ≤ 65536 := by
    rw [List.length_append, rep_length] at h4
    have := Nat.mul_le_mul_left k hpos
    omega
  have c1 := fun fp w fps h => calls_spell b S hw x h1 h2 bt bk N hN acc (by rw [hT]; exact h1N) fp fps w h
  rw [hT] at c1
  have e1 : acc ++ T = acc ++ rep 1 T := by rw [rep_one]
  rw [e1] at c1
  have l1 : (acc ++ rep 1 T).length = acc.length + T.length := by rw [List.length_append, rep_length, Nat.one_mul]
  have hA1 := hA 1 h3
  (repeat' ((conv => whnf); first | refine ⟨.sl 35 _ _ _, ⟨rfl, rfl, rfl, rfl⟩, ?_⟩ | refine ⟨.v _, ⟨rfl, trivial⟩, ?_⟩ | rw [Int.toNat_natCast] | (refine CallK_heap (L0 := [packE 77 fp2 (fS b S), .box 13 bt [.slice (some ⟨bk, 0, none⟩) acc.length N] ty_Sl_uint8, .own 35 (some ⟨bk, 0, none⟩) acc.length N ty_uint8 1 (byC acc)]) (Lr := [.box 4 b4 [pS b] ty_P_intern_Store]) ((List.perm_append_comm (l₁ := [_]) (l₂ := [_, _, _])).trans (List.Perm.append_right _ (List.perm_append_comm (l₁ := [_, _]) (l₂ := [_])))) (fun w hR hR0 => c1 _ _ _ hR0) ?_; rintro _ _ ⟨rfl, fp', rfl⟩; refine ⟨.v _, rfl, ?_⟩) | (refine bcase_prop (fun h => ?_) (fun h => ?_) <;> try (exfalso; omega)) | (refine bcase_nprop (fun h => ?_) (fun h => ?_) <;> try (exfalso; omega)) | (refine bcase_intro (fun h => ?_) (fun h => ?_) <;> (try simp only [Bool.not_eq_true', Bool.not_eq_false', decide_eq_true_eq, decide_eq_false_iff_not, Bool.not_eq_true, Bool.not_eq_false, Decidable.not_not] at h)) | refine And.intro (by first | omega | exact rfl | assumption | exact ⟨rfl, rfl, rfl, rfl, rfl⟩ | exact ⟨rfl, rfl, rfl, rfl⟩ | exact ⟨rfl, by omega⟩ | exact oneAll_of rfl | exact ⟨rfl, oneAll_of rfl⟩ | exact Ref.refl _ | exact Thin.ref (.skip (Thin.refl _)) | exact Thin.ref (.skip (.skip (Thin.refl _))) | exact ⟨rfl, Nat.le_of_ble_eq_true rfl⟩ | ((try unfold maxLen); (try simp only [List.length_nil, List.length_cons, List.length_append]); omega) | (refine ⟨rfl, ?_⟩; (try simp only [List.length_nil, List.length_cons, List.length_append]); omega)) ?_ | intro _)); (all_goals (conv => whnf))
  refine VC_loop VxG (fun y => [(1, .v (.int .i64 k)), (2, .ptr 13 bt 0), (9, .v (.slice (offA (some ⟨bk, 0, none⟩) N acc.length 1) ((acc ++ rep 1 T).length - acc.length) (N - acc.length))), (22, .v (.int .i64 ((k : Int) - 1))), (23, .v (.int .i64 y.i))])
    (fun y => [packE 77 y.fp (fS b S), .box 13 bt [.slice (some ⟨bk, 0, none⟩) (acc ++ rep (y.i + 1) T).length N] ty_Sl_uint8, .own 35 (some ⟨bk, 0, none⟩) (acc ++ rep (y.i + 1) T).length N ty_uint8 1 (byC (acc ++ rep (y.i + 1) T)), .box 4 b4 [pS b] ty_P_intern_Store])
    (fun y => y.i + 1 ≤ k) (fun y => k - y.i) ⟨0, fp'⟩ h3 (by (repeat ((conv => whnf); refine And.intro (by first | exact rfl | exact vint_eq (by omega) | exact vint_eq (by (dsimp only; omega)) | exact vsl_eq (by omega) | exact vsl_eq (by first | (dsimp only; omega) | (simp; done) | (simp; omega))) ?_)); exact trivial) (Thin.ref (Thin.refl _)) ?_
  rintro ⟨i, fpx⟩ hi
  dsimp only at hi ⊢
  have l2 : (acc ++ rep (i + 1) T).length + T.length = (acc ++ rep (i + 1 + 1) T).length := by
    rw [List.length_append, List.length_append, rep_length, rep_length, Nat.succ_mul (i + 1)]; omega
  have hd : ((byC (acc ++ rep (i + 1) T)).drop acc.length).take ((acc ++ rep 1 T).length - acc.length) = byC T := by
    rw [l1, Nat.add_sub_cancel_left, ← byC_append, rep_succ, ← byC_append, show acc.length = (byC acc).length by rw [byC_length], List.drop_left, show T.length = (byC T).length by rw [byC_length], List.take_left]
  have happ : byC (acc ++ rep (i + 1) T) ++ byC T = byC (acc ++ rep (i + 1 + 1) T) := by
    rw [byC_append, List.append_assoc, show rep (i + 1) T ++ T = rep (i + 1 + 1) T from by rw [rep_add (i + 1) 1, rep_one]]
  have hml : (acc ++ rep 1 T).length - acc.length = (byC T).length := by rw [l1, byC_length]; omega
  by_cases hlt : i + 1 < k
  · have hA2 := hA (i + 1 + 1) hlt
    (repeat' ((conv => whnf); first | rw [happ] | refine ⟨.sl 35 _ _ _, ⟨rfl, rfl, rfl, rfl⟩, ?_⟩ | refine ⟨byC T, rdsO 35 bk rfl (by omega) hd hml, ?_⟩ | (refine bcase_prop (fun h => ?_) (fun h => ?_) <;> try (exfalso; omega)) | (refine bcase_nprop (fun h => ?_) (fun h => ?_) <;> try (exfalso; omega)) | (refine bcase_intro (fun h => ?_) (fun h => ?_) <;> (try simp only [Bool.not_eq_true', Bool.not_eq_false', decide_eq_true_eq, decide_eq_false_iff_not, Bool.not_eq_true, Bool.not_eq_false, Decidable.not_not] at h)) | refine And.intro (by first | omega | exact rfl | assumption | exact ⟨rfl, rfl, rfl, rfl, rfl⟩ | exact ⟨rfl, rfl, rfl, rfl⟩ | exact ⟨rfl, by omega⟩ | exact oneAll_of rfl | exact ⟨rfl, oneAll_of rfl⟩ | exact Ref.refl _ | exact Thin.ref (.skip (Thin.refl _)) | exact Thin.ref (.skip (.skip (Thin.refl _))) | exact oneAll_by T | exact ⟨rfl, rfl, rfl, rfl, rfl, by omega, by omega⟩ | exact ⟨rfl, Nat.le_of_ble_eq_true rfl⟩ | ((try unfold maxLen); (try simp only [List.length_nil, List.length_cons, List.length_append]); omega) | (refine ⟨rfl, ?_⟩; (try simp only [List.length_nil, List.length_cons, List.length_append]); omega)) ?_ | intro _)); (all_goals (conv => whnf))
    refine loop_next ⟨i + 1, fpx⟩ hlt (by ((try dsimp only); omega)) (by (repeat ((conv => whnf); refine And.intro (by first | exact rfl | exact vint_eq (by omega) | exact vint_eq (by (dsimp only; omega)) | exact vsl_eq (by omega) | exact vsl_eq (by first | (dsimp only; omega) | (simp; done) | (simp; omega))) ?_)); exact trivial) (Thin.ref ?_)
    refine .keep rfl (fun _ h => h) (.box ?_ (.own ?_ rfl (.keep rfl (fun _ h => h) (.nil _))))
    · rw [show (acc ++ rep (i + 1) T).length + ((acc ++ rep 1 T).length - acc.length) = (acc ++ rep (i + 1 + 1) T).length from by omega]
    · show _ = (acc ++ rep (i + 1 + 1) T).length
      omega
  · have hik : i + 1 = k := by omega
    rw [hik]
    (repeat' ((conv => whnf); first | (refine bcase_prop (fun h => ?_) (fun h => ?_) <;> try (exfalso; omega)) | (refine bcase_nprop (fun h => ?_) (fun h => ?_) <;> try (exfalso; omega)) | (refine bcase_intro (fun h => ?_) (fun h => ?_) <;> (try simp only [Bool.not_eq_true', Bool.not_eq_false', decide_eq_true_eq, decide_eq_false_iff_not, Bool.not_eq_true, Bool.not_eq_false, Decidable.not_not] at h)) | refine And.intro (by first | omega | exact rfl | assumption | exact ⟨rfl, rfl, rfl, rfl, rfl⟩ | exact ⟨rfl, rfl, rfl, rfl⟩ | exact ⟨rfl, by omega⟩ | exact oneAll_of rfl | exact ⟨rfl, oneAll_of rfl⟩ | exact Ref.refl _ | exact Thin.ref (.skip (Thin.refl _)) | exact Thin.ref (.skip (.skip (Thin.refl _))) | exact ⟨rfl, Nat.le_of_ble_eq_true rfl⟩ | ((try unfold maxLen); (try simp only [List.length_nil, List.length_cons, List.length_append]); omega) | (refine ⟨rfl, ?_⟩; (try simp only [List.length_nil, List.length_cons, List.length_append]); omega)) ?_ | intro _)); (all_goals (conv => whnf))
    refine ⟨⟨[packE 90 (fps (fX b b4 bt bk N (acc ++ rep k T) ())) (fX b b4 bt bk N (acc ++ rep k T)), packE 77 fpx (fS b S)], ?_, rfl, _, _, rfl⟩⟩
    exact (Ref.perm ((List.perm_append_comm (l₁ := [_, _, _]) (l₂ := [_])).trans (.cons _ (List.perm_append_comm (l₁ := [_]) (l₂ := [_, _]))))).trans (Ref.packs (f := fX b b4 bt bk N (acc ++ rep k T)) () (Thin.refl _))

/-! ### Extract -/

section
attribute [local semireducible] CallK
theorem callPre {P : Program} {w0 : World} {fp0 : List Nat} {L L' : List Ent} {f : FuncId} {args : List Value} {k : SV → List Ent → Prop} (href : Ref w0 fp0 L L') (h : CallK P w0 fp0 f args L' k) : CallK P w0 fp0 f args L k := fun w hR => h w (href w hR)
end

def extQ (key b : Nat) (S : Sto) (T : List Nat) (v : Value) (L1 : List Ent) : Prop :=
  ∃ a c fp', v = .tuple #[.slice a T.length c, .nilIface] ∧ L1 = [packE key fp' (fS b S), .own 806 a T.length c ty_uint8 1 (byC T)]
theorem calls_Extract (b : Nat) (S : Sto) (hw : WF S) (n : Int) (i m : Nat) (hk : known S n) (hi : i + m ≤ (tm S.E n).len) (hm : m ≤ 65536) (key : Nat) (fp : List Nat) (w : World) (hR : StR w key fp b S) :
    Calls Try.prog fn_access_Extract #[pS b, .int .i64 n, .int .i64 i, .int .i64 m] w fun e w' => ∃ v L1, e = .returned v ∧ R w fp L1 w' ∧ extQ key b S (sub (tm S.E n).txt i m) v L1 := by
  refine part_call [.v (pS b), .v (.int .i64 n), .v (.int .i64 i), .v (.int .i64 m)] ok_access_Extract (by simp) (hR.key 77) ?_
  have hsm := hw.small
  have hlen := hw.le hk.2
  have c0 := calls_SWeight b S n hsm
  rw [wtRes_ok hk] at c0
  have c1 := calls_lRange i m (tm S.E n).txt.length hlen
  unfold rangeRes at c1
  unfold Tm.len at hi
  rw [if_pos ⟨by omega, by omega, by omega, by omega⟩] at c1
  have hsl : (sub (tm S.E n).txt i m).length = m := sub_length hi
  have c3 := fun b4 bt bk => calls_parts b S hw n i m hk hi fn_access_Extract_1 [.pointer (some ⟨bt, 0, none⟩), .pointer (some ⟨b4, 0, none⟩)] (fX b b4 bt bk m) m (Nat.le_refl m) rfl (visX b S hw b4 bt bk m hm)
  generalize hT : sub (tm S.E n).txt i m = T at *
  (repeat' ((conv => whnf); first | refine ⟨.v _, ⟨rfl, trivial⟩, ?_⟩ | (refine CallK_pack (key := 77) rfl (fun w hR h0 => c0 _ _ _ h0) ?_; rintro _ _ ⟨rfl, fp', rfl⟩; refine ⟨.v _, rfl, ?_⟩) | (first | refine CallK_pure (.v _) (fun w hR => c1 w) ?_ | refine QCall_pure (.v _) (fun w hR => c1 w) ?_) | (refine bcase_prop (fun h => ?_) (fun h => ?_) <;> try (exfalso; omega)) | (refine bcase_nprop (fun h => ?_) (fun h => ?_) <;> try (exfalso; omega)) | (refine bcase_intro (fun h => ?_) (fun h => ?_) <;> (try simp only [Bool.not_eq_true', Bool.not_eq_false', decide_eq_true_eq, decide_eq_false_iff_not, Bool.not_eq_true, Bool.not_eq_false, Decidable.not_not] at h)) | refine And.intro (by first | omega | exact rfl | assumption | exact ⟨rfl, rfl, rfl, rfl, rfl⟩ | exact ⟨rfl, rfl, rfl, rfl⟩ | exact ⟨rfl, by omega⟩ | exact oneAll_of rfl | exact ⟨rfl, oneAll_of rfl⟩ | exact Ref.refl _ | exact Thin.ref (.skip (Thin.refl _)) | exact Thin.ref (.skip (.skip (Thin.refl _))) | exact ⟨by omega, by omega, by omega, by unfold maxLen; omega⟩ | exact ⟨rfl, Nat.le_of_ble_eq_true rfl⟩ | ((try unfold maxLen); (try simp only [List.length_nil, List.length_cons, List.length_append]); omega) | (refine ⟨rfl, ?_⟩; (try simp only [List.length_nil, List.length_cons, List.length_append]); omega)) ?_ | intro _)); (all_goals (conv => whnf))
  refine callPre ((Thin.ref (.keep rfl (fun _ h => h) (.keep rfl (fun _ h => h) (.skip (.keep rfl (fun _ h => h) (.keep rfl (fun _ h => h) (.nil _)))))) : Ref _ _ _ [.box 13 _ [.slice (some ⟨_, 0, none⟩) 0 m] ty_Sl_uint8, .own 35 (some ⟨_, 0, none⟩) 0 m ty_uint8 1 [], packE 77 fp' (fS b S), .box 4 _ [pS b] ty_P_intern_Store]).trans (Ref.perm (List.perm_append_comm (l₁ := [_, _, _]) (l₂ := [_])))) ?_
  refine callPre (Ref.packs (key := 90) (f := fX b _ _ _ m []) () (Thin.refl _)) ?_
  refine CallK_post ?_
  refine CallK_pack2 (key1 := 90) (key2 := 77) rfl rfl (fun w hR h0 => c3 _ _ _ _ _ _ h0) ?_
  rintro _ _ ⟨rfl, fp1', fp2', rfl⟩
  refine ⟨.v _, rfl, _, Ref.unpackU', ?_⟩
  (repeat' ((conv => whnf); first | refine ⟨.v _, ⟨rfl, trivial⟩, ?_⟩ | (refine bcase_prop (fun h => ?_) (fun h => ?_) <;> try (exfalso; omega)) | (refine bcase_nprop (fun h => ?_) (fun h => ?_) <;> try (exfalso; omega)) | (refine bcase_intro (fun h => ?_) (fun h => ?_) <;> (try simp only [Bool.not_eq_true', Bool.not_eq_false', decide_eq_true_eq, decide_eq_false_iff_not, Bool.not_eq_true, Bool.not_eq_false, Decidable.not_not] at h)) | refine And.intro (by first | omega | exact rfl | assumption | exact ⟨rfl, rfl, rfl, rfl, rfl⟩ | exact ⟨rfl, rfl, rfl, rfl⟩ | exact ⟨rfl, by omega⟩ | exact oneAll_of rfl | exact ⟨rfl, oneAll_of rfl⟩ | exact Ref.refl _ | exact Thin.ref (.skip (Thin.refl _)) | exact Thin.ref (.skip (.skip (Thin.refl _))) | exact ⟨rfl, Nat.le_of_ble_eq_true rfl⟩ | ((try unfold maxLen); (try simp only [List.length_nil, List.length_cons, List.length_append]); omega) | (refine ⟨rfl, ?_⟩; (try simp only [List.length_nil, List.length_cons, List.length_append]); omega)) ?_ | intro _)); (all_goals (conv => whnf))
  exact ⟨⟨_, (refPick 77 rfl).trans (Thin.ref (Thin.packE (.skip (.skip (.own rfl rfl (.nil _)))))), _, m, fp2', rfl, rfl⟩⟩
theorem calls_ExtractBad (b : Nat) (S : Sto) (hw : WF S) (n i m : Int) (hk : known S n) (hb : ¬ (0 ≤ i ∧ 0 ≤ m ∧ i ≤ (tm S.E n).len ∧ m ≤ (tm S.E n).len - i)) : SC fn_access_Extract #[pS b, .int .i64 n, .int .i64 i, .int .i64 m] b S S (.tuple #[.slice none 0 0, errV 1]) := by
  intro key fp w hR
  refine part_call [.v (pS b), .v (.int .i64 n), .v (.int .i64 i), .v (.int .i64 m)] ok_access_Extract (by simp) (hR.key 77) ?_
  have c0 := calls_SWeight b S n hw.small
  rw [wtRes_ok hk] at c0
  have c1 := calls_lRange i m (tm S.E n).txt.length (hw.le hk.2)
  unfold rangeRes at c1
  have hb' : ¬ (0 ≤ i ∧ 0 ≤ m ∧ i ≤ ((tm S.E n).txt.length : Nat) ∧ m ≤ ((tm S.E n).txt.length : Nat) - i) := hb
  rw [if_neg hb'] at c1
  (repeat' ((conv => whnf); first | refine ⟨.v _, ⟨rfl, trivial⟩, ?_⟩ | (refine CallK_pack (key := 77) rfl (fun w hR h0 => c0 _ _ _ h0) ?_; rintro _ _ ⟨rfl, fp', rfl⟩; refine ⟨.v _, rfl, ?_⟩) | (first | refine CallK_pure (.v _) (fun w hR => c1 w) ?_ | refine QCall_pure (.v _) (fun w hR => c1 w) ?_) | (refine bcase_prop (fun h => ?_) (fun h => ?_) <;> try (exfalso; omega)) | (refine bcase_nprop (fun h => ?_) (fun h => ?_) <;> try (exfalso; omega)) | (refine bcase_intro (fun h => ?_) (fun h => ?_) <;> (try simp only [Bool.not_eq_true', Bool.not_eq_false', decide_eq_true_eq, decide_eq_false_iff_not, Bool.not_eq_true, Bool.not_eq_false, Decidable.not_not] at h)) | refine And.intro (by first | omega | exact rfl | assumption | exact ⟨rfl, rfl, rfl, rfl, rfl⟩ | exact ⟨rfl, rfl, rfl, rfl⟩ | exact ⟨rfl, by omega⟩ | exact oneAll_of rfl | exact ⟨rfl, oneAll_of rfl⟩ | exact Ref.refl _ | exact Thin.ref (.skip (Thin.refl _)) | exact Thin.ref (.skip (.skip (Thin.refl _))) | exact ⟨rfl, Nat.le_of_ble_eq_true rfl⟩ | ((try unfold maxLen); (try simp only [List.length_nil, List.length_cons, List.length_append]); omega) | (refine ⟨rfl, ?_⟩; (try simp only [List.length_nil, List.length_cons, List.length_append]); omega)) ?_ | intro _)); (all_goals (conv => whnf))
  exact ⟨endP (by (repeat (first | exact Thin.nil _ | exact Thin.refl _ | refine Thin.keep rfl (fun _ h => h) ?_ | refine Thin.skip ?_))) rfl⟩
end Go.Proofs.Ytohlphngnhcbfaa
/- The text of a rule, by the reference. -/
namespace Go.Proofs.Ytohlphngnhcbfaa
open Go.EG
attribute [local irreducible] CallK QCall Go.Calls
set_option linter.unusedSimpArgs false
set_option linter.unusedVariables false
set_option maxRecDepth 20000
set_option maxHeartbeats 4000000

theorem In.take {w0 : World} {fp0 : List Nat} {a : Option Addr} {xs : List Value} (h : In w0 fp0 a xs) (n : Nat) : In w0 fp0 a (xs.take n) := by
  rcases h with rfl | ⟨b, off, rfl, h1, h2, h3⟩
  · exact .inl (by simp)
  · refine .inr ⟨b, off, rfl, h1, h2, fun j v hv => h3 j v ?_⟩
    rw [List.getElem?_take] at hv
    split at hv
    · exact hv
    · cases hv
theorem own_cap {w0 w : World} {fp0 : List Nat} {L : List Ent} {key : Nat} {a : Option Addr} {n c T sz : Nat} {xs : List Value} (hR : R w0 fp0 L w) (h : ownAt key L = some ⟨a, n, c, T, sz, xs⟩) : n ≤ c := by
  have hk := own_row hR h
  rcases hk.2 with ⟨h2, h3⟩ | ⟨g, cap, cur, hv, hg, hh, h3, h4, h5, h6⟩
  · simp only at h3; omega
  · simp only [Value.slice.injEq] at hv
    obtain ⟨_, _, rfl⟩ := hv
    exact h3

theorem WF.tim' {S : Sto} (h : WF S) {n : Int} (h1 : 1 ≤ n) (h2 : n ≤ S.E.length) : (atE S.E n).r.t ≤ 9223372036854775807 := by
  obtain ⟨hr, _, ht, hl, _⟩ := h.at_ h1 h2
  rcases hr with hr | ⟨e1, e2, e3, e4, e5, e6, e7⟩ | ⟨e1, e2, e3, e4, e5, e6⟩
  · omega
  · omega
  · rw [ht] at hl
    unfold mkT at hl
    rw [if_neg (by omega), if_neg (by omega)] at hl
    unfold Tm.len at hl
    rw [Tm.txt, len_rep] at hl
    have hp := h.pos1 e5 (by omega)
    unfold Tm.len at hp
    have : (atE S.E n).r.t.toNat ≤ LM := Nat.le_trans (Nat.le_mul_of_pos_right _ hp) hl
    unfold LM at this
    omega

/-! ### derive -/

theorem derive_ok {E : List Entr} (hw : WF ⟨1000, E⟩) {a : Option Addr} {c : Nat} : ∀ (m : Nat) (n : Int) (k : Nat), n = m → 1 ≤ n → n ≤ k → k ≤ E.length → (tm E n).len ≤ 65536 → ∀ (w : World), In w [] a (ruE E) →
    Calls Try.prog fn_evergreenref12_derive #[.slice a k c, .int .i64 n] w (RetS ty_uint8 1 (tm E n).txt.length (byC (tm E n).txt) w) := by
  intro m
  induction m using Nat.strongRecOn with
  | ind m ih =>
    intro n k hm h1 hnk hk hlen w hin
    have hn2 : n ≤ E.length := by omega
    refine slice_call [.v (.slice a k c), .v (.int .i64 n)] w ok_evergreenref12_derive (by simp) ?_
    have hsm : E.length ≤ 1000 := hw.len
    have hat : ((ruE E).drop ((n - 1).toNat * 5)).take 5 = ruC (atE E n).r := by
      rw [atE_pos (by omega), show n.toNat - 1 = (n - 1).toNat by omega]
      exact ruE_at (by omega)
    have hrd := fun {L : List Ent} => In.rdn (L := L) (vs := ruC (atE E n).r) (k := (n - 1).toNat * 5) hin (Nat.succ_pos _) hat
    have hne : a ≠ none := hin.ne' (k := (n - 1).toNat * 5) (by rw [ruE_length]; omega)
    unfold Tm.len at hlen
    rcases hw.below h1 hn2 with ⟨q1, ht⟩ | ⟨q1, ht, a1, a2, b1, b2⟩ | ⟨q1, ht, a1, a2, t2⟩
    · obtain ⟨l, hl⟩ : ∃ l : Nat, (atE E n).r.l = l := ⟨(atE E n).r.l.toNat, by have := (hw.at_ h1 hn2).2.1; dsimp only at this; omega⟩
      dsimp only at ht q1
      rw [ht, hl, Int.toNat_natCast]
      (repeat' ((conv => whnf); first | rw [hl] | refine ⟨ruC (atE E n).r, rfl, hrd, ?_⟩ | (refine bcase_prop (fun h => ?_) (fun h => ?_) <;> try (exfalso; omega)) | (refine bcase_nprop (fun h => ?_) (fun h => ?_) <;> try (exfalso; omega)) | (refine bcase_intro (fun h => ?_) (fun h => ?_) <;> (try simp only [Bool.not_eq_true', Bool.not_eq_false', decide_eq_true_eq, decide_eq_false_iff_not, Bool.not_eq_true, Bool.not_eq_false, Decidable.not_not] at h)) | refine And.intro (by first | omega | exact rfl | assumption | exact ⟨rfl, rfl, rfl, rfl, rfl⟩ | exact ⟨rfl, rfl, rfl, rfl⟩ | exact ⟨rfl, by omega⟩ | exact oneAll_of rfl | exact ⟨rfl, oneAll_of rfl⟩ | exact Ref.refl _ | exact Thin.ref (.skip (Thin.refl _)) | exact Thin.ref (.skip (.skip (Thin.refl _))) | exact hne | exact ⟨rfl, Nat.le_of_ble_eq_true rfl⟩ | ((try unfold maxLen); (try simp only [List.length_nil, List.length_cons, List.length_append]); omega) | (refine ⟨rfl, ?_⟩; (try simp only [List.length_nil, List.length_cons, List.length_append]); omega)) ?_ | intro _)); (all_goals (conv => whnf))
      all_goals first | (exfalso; omega) | skip
      all_goals exact ⟨_, _, rfl, Thin.ref (.own rfl rfl (.nil _))⟩
    · dsimp only at ht q1 a1 a2 b1 b2
      rw [ht, Tm.txt, List.length_append] at hlen
      have cA := fun w h => ih (atE E n).r.a.toNat (by omega) (atE E n).r.a k (by omega) a1 (by omega) hk (by unfold Tm.len; omega) w h
      have cB := fun w h => ih (atE E n).r.b.toNat (by omega) (atE E n).r.b k (by omega) b1 (by omega) hk (by unfold Tm.len; omega) w h
      rw [ht, Tm.txt]
      have o1 := oneAll_by (tm E (atE E n).r.a).txt
      have o2 := oneAll_by (tm E (atE E n).r.b).txt
      have s1 := byC_append (tm E (atE E n).r.a).txt (tm E (atE E n).r.b).txt
      generalize (tm E (atE E n).r.a).txt = A at *
      generalize (tm E (atE E n).r.b).txt = B at *
      (repeat' ((conv => whnf); first | refine ⟨ruC (atE E n).r, rfl, hrd, ?_⟩ | (refine CallK_slice 600 (fun w' hR => cA w' (hin.cast hR (by simp))) ?_) | (refine CallK_slice 601 (fun w' hR => cB w' (hin.cast hR (by simp))) ?_) | (refine bcase_prop (fun h => ?_) (fun h => ?_) <;> try (exfalso; omega)) | (refine bcase_nprop (fun h => ?_) (fun h => ?_) <;> try (exfalso; omega)) | (refine bcase_intro (fun h => ?_) (fun h => ?_) <;> (try simp only [Bool.not_eq_true', Bool.not_eq_false', decide_eq_true_eq, decide_eq_false_iff_not, Bool.not_eq_true, Bool.not_eq_false, Decidable.not_not] at h)) | refine And.intro (by first | omega | exact rfl | assumption | exact ⟨rfl, rfl, rfl, rfl, rfl⟩ | exact ⟨rfl, rfl, rfl, rfl⟩ | exact ⟨rfl, by omega⟩ | exact oneAll_of rfl | exact ⟨rfl, oneAll_of rfl⟩ | exact Ref.refl _ | exact Thin.ref (.skip (Thin.refl _)) | exact Thin.ref (.skip (.skip (Thin.refl _))) | exact hne | exact o1 | exact o2 | exact ⟨by unfold maxLen; omega, by omega⟩ | exact ⟨rfl, Nat.le_of_ble_eq_true rfl⟩ | ((try unfold maxLen); (try simp only [List.length_nil, List.length_cons, List.length_append]); omega) | (refine ⟨rfl, ?_⟩; (try simp only [List.length_nil, List.length_cons, List.length_append]); omega)) ?_ | intro _)); (all_goals (conv => whnf))
      all_goals first | (exfalso; omega) | skip
      refine ⟨⟨_, _, congrArg (fun n => Value.slice _ n _) (by simp), Thin.ref (.skip (.skip (.own (by simp) ?_ (.nil _))))⟩⟩
      rw [← s1]; rfl
    · dsimp only at ht q1 a1 a2 t2
      obtain ⟨t, htt⟩ : ∃ t : Nat, (atE E n).r.t = t := ⟨(atE E n).r.t.toNat, by omega⟩
      rw [htt, Int.toNat_natCast] at ht
      rw [ht, Tm.txt, rep_length] at hlen
      have hpos := hw.pos1 a1 (by dsimp only; omega)
      dsimp only at hpos
      unfold Tm.len at hpos
      have hle : (tm E (atE E n).r.a).txt.length ≤ t * (tm E (atE E n).r.a).txt.length := Nat.le_mul_of_pos_left _ (by omega)
      have cA := fun w h => ih (atE E n).r.a.toNat (by omega) (atE E n).r.a k (by omega) a1 (by omega) hk (by unfold Tm.len; omega) w h
      rw [ht, Tm.txt]
      have o1 := oneAll_by (tm E (atE E n).r.a).txt
      have htb : t ≤ 65536 := Nat.le_trans (Nat.le_mul_of_pos_right t hpos) hlen
      generalize (tm E (atE E n).r.a).txt = A at *
      (repeat' ((conv => whnf); first | refine ⟨ruC (atE E n).r, rfl, hrd, ?_⟩ | (refine CallK_slice 600 (fun w' hR => cA w' (hin.cast hR (by simp))) ?_) | (refine bcase_prop (fun h => ?_) (fun h => ?_) <;> try (exfalso; omega)) | (refine bcase_nprop (fun h => ?_) (fun h => ?_) <;> try (exfalso; omega)) | (refine bcase_intro (fun h => ?_) (fun h => ?_) <;> (try simp only [Bool.not_eq_true', Bool.not_eq_false', decide_eq_true_eq, decide_eq_false_iff_not, Bool.not_eq_true, Bool.not_eq_false, Decidable.not_not] at h)) | refine And.intro (by first | omega | exact rfl | assumption | exact ⟨rfl, rfl, rfl, rfl, rfl⟩ | exact ⟨rfl, rfl, rfl, rfl⟩ | exact ⟨rfl, by omega⟩ | exact oneAll_of rfl | exact ⟨rfl, oneAll_of rfl⟩ | exact Ref.refl _ | exact Thin.ref (.skip (Thin.refl _)) | exact Thin.ref (.skip (.skip (Thin.refl _))) | exact hne | exact o1 | exact ⟨by unfold maxLen; omega, by omega⟩ | exact ⟨rfl, Nat.le_of_ble_eq_true rfl⟩ | ((try unfold maxLen); (try simp only [List.length_nil, List.length_cons, List.length_append]); omega) | (refine ⟨rfl, ?_⟩; (try simp only [List.length_nil, List.length_cons, List.length_append]); omega)) ?_ | intro _)); (all_goals (conv => whnf))
      all_goals first | (exfalso; omega) | skip
      rename_i b5 _ b20 a6 c6 a20 c20 b35 a35 c35
      refine VC_loop (Nat × Option Addr × Nat) (fun x => [(5, .ptr 5 b5 0), (6, .sl 20 x.2.1 (rep x.1 A).length x.2.2), (7, .sl 35 a35 A.length c35), (8, .v (.int .i64 x.1))])
        (fun x => [.own 35 a35 A.length c35 ty_uint8 1 (byC A), .own 20 x.2.1 (rep x.1 A).length x.2.2 ty_uint8 1 (byC (rep x.1 A)), .box 5 b5 (ruC (atE E n).r) ty_api_Rule])
        (fun x => 1 ≤ x.1 ∧ x.1 ≤ t) (fun x => t - x.1) (1, a20, c20) ⟨Nat.le_refl _, by show 1 ≤ t; omega⟩ ?_ (Thin.ref (.own (by omega) rfl (.skip (.own (by rw [rep_one]; omega) (by rw [rep_one]; rfl) (.keep rfl (fun _ h => h) (.nil _)))))) ?_
      · simp only [rep_one]; (repeat ((conv => whnf); refine And.intro (by first | exact rfl | exact vint_eq (by omega) | exact vint_eq (by (dsimp only; omega)) | exact vsl_eq (by omega) | exact vsl_eq (by first | (dsimp only; omega) | (simp; done) | (simp; omega))) ?_)); exact trivial
      rintro ⟨j, a, c⟩ ⟨j1, j2⟩
      dsimp only at j1 j2 ⊢
      have hrl := rep_length j A
      have hjl : (rep j A).length ≤ t * A.length := by rw [hrl]; exact Nat.mul_le_mul_right _ j2
      have hs : byC (rep j A) ++ byC A = byC (rep (j + 1) A) := by rw [byC_append, rep_add j 1, rep_one]
      have hl2 : (rep j A).length + A.length = (rep (j + 1) A).length := by rw [rep_length, rep_length, Nat.succ_mul]
      by_cases hlt : j < t
      · (repeat' ((conv => whnf); first | rw [htt] | rw [hs] | (refine bcase_prop (fun h => ?_) (fun h => ?_) <;> try (exfalso; omega)) | (refine bcase_nprop (fun h => ?_) (fun h => ?_) <;> try (exfalso; omega)) | (refine bcase_intro (fun h => ?_) (fun h => ?_) <;> (try simp only [Bool.not_eq_true', Bool.not_eq_false', decide_eq_true_eq, decide_eq_false_iff_not, Bool.not_eq_true, Bool.not_eq_false, Decidable.not_not] at h)) | refine And.intro (by first | omega | exact rfl | assumption | exact ⟨rfl, rfl, rfl, rfl, rfl⟩ | exact ⟨rfl, rfl, rfl, rfl⟩ | exact ⟨rfl, by omega⟩ | exact oneAll_of rfl | exact ⟨rfl, oneAll_of rfl⟩ | exact Ref.refl _ | exact Thin.ref (.skip (Thin.refl _)) | exact Thin.ref (.skip (.skip (Thin.refl _))) | exact o1 | exact ⟨by unfold maxLen; omega, by omega⟩ | exact ⟨rfl, Nat.le_of_ble_eq_true rfl⟩ | ((try unfold maxLen); (try simp only [List.length_nil, List.length_cons, List.length_append]); omega) | (refine ⟨rfl, ?_⟩; (try simp only [List.length_nil, List.length_cons, List.length_append]); omega)) ?_ | intro _)); (all_goals (conv => whnf))
        all_goals first | (exfalso; omega) | skip
        rename_i a' c'
        refine loop_next (j + 1, a', c') ⟨by dsimp only; omega, hlt⟩ (by ((try dsimp only); omega)) (by (repeat ((conv => whnf); refine And.intro (by first | exact rfl | exact vint_eq (by omega) | exact vint_eq (by (dsimp only; omega)) | exact vsl_eq (by omega) | exact vsl_eq (by first | (dsimp only; omega) | (simp; done) | (simp; omega))) ?_)); exact trivial) (Thin.ref (.keep rfl (fun _ h => h) (.own hl2 rfl (.keep rfl (fun _ h => h) (.nil _)))))
      · have hjt : j = t := by omega
        subst hjt
        (repeat' ((conv => whnf); first | rw [htt] | (refine bcase_prop (fun h => ?_) (fun h => ?_) <;> try (exfalso; omega)) | (refine bcase_nprop (fun h => ?_) (fun h => ?_) <;> try (exfalso; omega)) | (refine bcase_intro (fun h => ?_) (fun h => ?_) <;> (try simp only [Bool.not_eq_true', Bool.not_eq_false', decide_eq_true_eq, decide_eq_false_iff_not, Bool.not_eq_true, Bool.not_eq_false, Decidable.not_not] at h)) | refine And.intro (by first | omega | exact rfl | assumption | exact ⟨rfl, rfl, rfl, rfl, rfl⟩ | exact ⟨rfl, rfl, rfl, rfl⟩ | exact ⟨rfl, by omega⟩ | exact oneAll_of rfl | exact ⟨rfl, oneAll_of rfl⟩ | exact Ref.refl _ | exact Thin.ref (.skip (Thin.refl _)) | exact Thin.ref (.skip (.skip (Thin.refl _))) | exact ⟨rfl, Nat.le_of_ble_eq_true rfl⟩ | ((try unfold maxLen); (try simp only [List.length_nil, List.length_cons, List.length_append]); omega) | (refine ⟨rfl, ?_⟩; (try simp only [List.length_nil, List.length_cons, List.length_append]); omega)) ?_ | intro _)); (all_goals (conv => whnf))
        all_goals first | (exfalso; omega) | skip
        exact ⟨⟨_, _, rfl, Thin.ref (.skip (.own rfl rfl (.nil _)))⟩⟩

/-! ### Refs, Expand, Text -/

def rfsL (r : Rul) : List Int := if r.k = 2 then [r.a, r.b] else if r.k = 3 then [r.a] else []
theorem calls_r12Refs (r : Rul) (w : World) : Calls Try.prog fn_evergreenref12_Refs #[ruV r] w (RetS ty_api_ID 1 (rfsL r).length (ints .i64 (rfsL r)) w) := by
  refine slice_call [.v (ruV r)] w ok_evergreenref12_Refs (by simp) ?_
  unfold rfsL
  by_cases h2 : r.k = 2
  · rw [if_pos h2]
    (repeat' ((conv => whnf); first | (refine bcase_prop (fun h => ?_) (fun h => ?_) <;> try (exfalso; omega)) | (refine bcase_nprop (fun h => ?_) (fun h => ?_) <;> try (exfalso; omega)) | (refine bcase_intro (fun h => ?_) (fun h => ?_) <;> (try simp only [Bool.not_eq_true', Bool.not_eq_false', decide_eq_true_eq, decide_eq_false_iff_not, Bool.not_eq_true, Bool.not_eq_false, Decidable.not_not] at h)) | refine And.intro (by first | omega | exact rfl | assumption | exact ⟨rfl, rfl, rfl, rfl, rfl⟩ | exact ⟨rfl, rfl, rfl, rfl⟩ | exact ⟨rfl, by omega⟩ | exact oneAll_of rfl | exact ⟨rfl, oneAll_of rfl⟩ | exact Ref.refl _ | exact Thin.ref (.skip (Thin.refl _)) | exact Thin.ref (.skip (.skip (Thin.refl _))) | exact ⟨rfl, Nat.le_of_ble_eq_true rfl⟩ | ((try unfold maxLen); (try simp only [List.length_nil, List.length_cons, List.length_append]); omega) | (refine ⟨rfl, ?_⟩; (try simp only [List.length_nil, List.length_cons, List.length_append]); omega)) ?_ | intro _)); (all_goals (conv => whnf))
    exact ⟨⟨_, _, rfl, Thin.ref (.own rfl rfl (.nil _))⟩⟩
  · rw [if_neg h2]
    by_cases h3 : r.k = 3
    · rw [if_pos h3]
      (repeat' ((conv => whnf); first | (refine bcase_prop (fun h => ?_) (fun h => ?_) <;> try (exfalso; omega)) | (refine bcase_nprop (fun h => ?_) (fun h => ?_) <;> try (exfalso; omega)) | (refine bcase_intro (fun h => ?_) (fun h => ?_) <;> (try simp only [Bool.not_eq_true', Bool.not_eq_false', decide_eq_true_eq, decide_eq_false_iff_not, Bool.not_eq_true, Bool.not_eq_false, Decidable.not_not] at h)) | refine And.intro (by first | omega | exact rfl | assumption | exact ⟨rfl, rfl, rfl, rfl, rfl⟩ | exact ⟨rfl, rfl, rfl, rfl⟩ | exact ⟨rfl, by omega⟩ | exact oneAll_of rfl | exact ⟨rfl, oneAll_of rfl⟩ | exact Ref.refl _ | exact Thin.ref (.skip (Thin.refl _)) | exact Thin.ref (.skip (.skip (Thin.refl _))) | exact ⟨rfl, Nat.le_of_ble_eq_true rfl⟩ | ((try unfold maxLen); (try simp only [List.length_nil, List.length_cons, List.length_append]); omega) | (refine ⟨rfl, ?_⟩; (try simp only [List.length_nil, List.length_cons, List.length_append]); omega)) ?_ | intro _)); (all_goals (conv => whnf))
      exact ⟨⟨_, _, rfl, Thin.ref (.own rfl rfl (.nil _))⟩⟩
    · rw [if_neg h3]
      (repeat' ((conv => whnf); first | (refine bcase_prop (fun h => ?_) (fun h => ?_) <;> try (exfalso; omega)) | (refine bcase_nprop (fun h => ?_) (fun h => ?_) <;> try (exfalso; omega)) | (refine bcase_intro (fun h => ?_) (fun h => ?_) <;> (try simp only [Bool.not_eq_true', Bool.not_eq_false', decide_eq_true_eq, decide_eq_false_iff_not, Bool.not_eq_true, Bool.not_eq_false, Decidable.not_not] at h)) | refine And.intro (by first | omega | exact rfl | assumption | exact ⟨rfl, rfl, rfl, rfl, rfl⟩ | exact ⟨rfl, rfl, rfl, rfl⟩ | exact ⟨rfl, by omega⟩ | exact oneAll_of rfl | exact ⟨rfl, oneAll_of rfl⟩ | exact Ref.refl _ | exact Thin.ref (.skip (Thin.refl _)) | exact Thin.ref (.skip (.skip (Thin.refl _))) | exact ⟨rfl, Nat.le_of_ble_eq_true rfl⟩ | ((try unfold maxLen); (try simp only [List.length_nil, List.length_cons, List.length_append]); omega) | (refine ⟨rfl, ?_⟩; (try simp only [List.length_nil, List.length_cons, List.length_append]); omega)) ?_ | intro _)); (all_goals (conv => whnf))
      exact ⟨⟨none, 0, rfl, (Ref.ownNil 0 _ 1).trans (Thin.ref (.own rfl rfl (.nil _)))⟩⟩

/-- A length, cut off. -/
def cl (E : List Entr) (most : Nat) (n : Nat) : Int := ((min (tm E n).len (most + 1) : Nat) : Int)
def clL (E : List Entr) (most k i : Nat) : List Int := (List.range (k + 1)).map fun j => if j ≤ i then cl E most j else 0
theorem clL_length (E : List Entr) (most k i : Nat) : (clL E most k i).length = k + 1 := by simp [clL]
theorem clL_at {E : List Entr} {most k i j : Nat} (h : j ≤ k) (h2 : j ≤ i) : (ints .i64 (clL E most k i))[j]? = some (.int .i64 (cl E most j)) := by
  simp [ints, clL, show j < k + 1 by omega, h2]
theorem clL_set {E : List Entr} {most k i : Nat} (h : i + 1 ≤ k) : splice (ints .i64 (clL E most k i)) (i + 1) [.int .i64 (cl E most (i + 1))] = ints .i64 (clL E most k (i + 1)) := by
  rw [splice_ints (by rw [clL_length]; omega)]
  congr 1
  apply List.ext_getElem
  · simp [clL]
  · intro j h1 h2
    rw [List.getElem_set]
    simp only [clL, List.getElem_map, List.getElem_range]
    by_cases hj : i + 1 = j
    · rw [if_pos hj, if_pos (by omega), hj]
    · rw [if_neg hj]
      by_cases hj2 : j ≤ i
      · rw [if_pos hj2, if_pos (by omega)]
      · rw [if_neg hj2, if_neg (by omega)]
theorem clL_zero {E : List Entr} {most k : Nat} : (List.replicate (k + 1) [Value.int .i64 0]).flatten = ints .i64 (clL E most k 0) := by
  rw [flat_zeros]
  congr 1
  apply List.ext_getElem
  · simp [clL]
  · intro j h1 h2
    simp only [clL, List.getElem_map, List.getElem_range, List.getElem_replicate]
    split
    · rename_i h
      have : j = 0 := by omega
      subst this
      simp [cl, tm_zero, Tm.len, Tm.txt]
    · rfl

def expQ (most : Nat) (T : List Nat) (v : Value) (L1 : List Ent) : Prop :=
  (T.length ≤ most ∧ ∃ a c, v = .tuple #[.slice a T.length c, .bool true] ∧ L1 = [.own 807 a T.length c ty_uint8 1 (byC T)]) ∨
  (most < T.length ∧ v = .tuple #[.slice none 0 0, .bool false] ∧ L1 = [])
theorem calls_Expand {E : List Entr} (hw : WF ⟨1000, E⟩) {a : Option Addr} {c : Nat} (k most : Nat) (hk : 1 ≤ k) (hkE : k ≤ E.length) (hm : most ≤ 65536) (w : World) (hin : In w [] a (ruE E)) :
    Calls Try.prog fn_evergreenref12_Expand #[.slice a k c, .int .i64 most] w fun e w' => ∃ v L1, e = .returned v ∧ R w [] L1 w' ∧ expQ most (tm E k).txt v L1 := by
  refine new_call [.v (.slice a k c), .v (.int .i64 most)] ok_evergreenref12_Expand (by simp) ?_
  have hsm : E.length ≤ 1000 := hw.len
  have hne : ∀ i, i < E.length → a ≠ none := fun i hi => hin.ne' (k := i * 5) (by rw [ruE_length]; omega)
  have hrd := fun {L : List Ent} (i : Nat) (hi : i < E.length) => In.rdn (L := L) (vs := ruC (E.getD i ent0).r) (k := i * 5) hin (Nat.succ_pos _) (ruE_at hi)
  have hk1 : ((k : Int) + 1).toNat = k + 1 := by omega
  have hz := clL_zero (E := E) (most := most) (k := k)
  (repeat' ((conv => whnf); first | rw [hk1] | rw [hz] | (refine bcase_prop (fun h => ?_) (fun h => ?_) <;> try (exfalso; omega)) | (refine bcase_nprop (fun h => ?_) (fun h => ?_) <;> try (exfalso; omega)) | (refine bcase_intro (fun h => ?_) (fun h => ?_) <;> (try simp only [Bool.not_eq_true', Bool.not_eq_false', decide_eq_true_eq, decide_eq_false_iff_not, Bool.not_eq_true, Bool.not_eq_false, Decidable.not_not] at h)) | refine And.intro (by first | omega | exact rfl | assumption | exact ⟨rfl, rfl, rfl, rfl, rfl⟩ | exact ⟨rfl, rfl, rfl, rfl⟩ | exact ⟨rfl, by omega⟩ | exact oneAll_of rfl | exact ⟨rfl, oneAll_of rfl⟩ | exact Ref.refl _ | exact Thin.ref (.skip (Thin.refl _)) | exact Thin.ref (.skip (.skip (Thin.refl _))) | exact ⟨by omega, by omega, by omega, by unfold maxLen; omega⟩ | exact ⟨rfl, Nat.le_of_ble_eq_true rfl⟩ | ((try unfold maxLen); (try simp only [List.length_nil, List.length_cons, List.length_append]); omega) | (refine ⟨rfl, ?_⟩; (try simp only [List.length_nil, List.length_cons, List.length_append]); omega)) ?_ | intro _)); (all_goals (conv => whnf))
  all_goals first | (exfalso; omega) | skip
  rename_i b18
  refine VC_loop Nat (fun i => [(0, .v (.slice a k c)), (1, .v (.int .i64 most)), (6, .sl 18 (some ⟨b18, 0, none⟩) (k + 1) (k + 1)), (7, .v (.int .i64 i))]) (fun i => [.own 18 (some ⟨b18, 0, none⟩) (k + 1) (k + 1) ty_int 1 (ints .i64 (clL E most k i))])
    (fun i => i ≤ k) (fun i => k - i) 0 (Nat.zero_le _) (by (repeat ((conv => whnf); refine And.intro (by first | exact rfl | exact vint_eq (by omega) | exact vint_eq (by (dsimp only; omega)) | exact vsl_eq (by omega) | exact vsl_eq (by first | (dsimp only; omega) | (simp; done) | (simp; omega))) ?_)); exact trivial) (Thin.ref (Thin.refl _)) ?_
  intro i hi
  by_cases hlt : i < k
  case neg =>
    have hik : i = k := by omega
    subst hik
    have hat := clL_at (E := E) (most := most) (k := i) (i := i) (j := i) (Nat.le_refl _) (Nat.le_refl _)
    unfold cl at hat
    unfold Tm.len at hat
    by_cases hs : (tm E i).txt.length ≤ most
    · have hlen : (tm E i).len ≤ 65536 := by unfold Tm.len; omega
      have cD := fun w h => derive_ok hw (a := a) (c := c) i i i rfl (by omega) (by omega) hkE hlen w h
      rw [show min (tm E i).txt.length (most + 1) = (tm E i).txt.length by omega] at hat
      generalize (tm E i).txt = T at *
      (repeat' ((conv => whnf); first | rw [Int.toNat_natCast] | rw [Nat.mul_one] | refine ldCell hat ?_ | (refine CallK_slice 807 (fun w' hR => cD w' (hin.cast hR (by simp))) ?_) | (refine bcase_prop (fun h => ?_) (fun h => ?_) <;> try (exfalso; omega)) | (refine bcase_nprop (fun h => ?_) (fun h => ?_) <;> try (exfalso; omega)) | (refine bcase_intro (fun h => ?_) (fun h => ?_) <;> (try simp only [Bool.not_eq_true', Bool.not_eq_false', decide_eq_true_eq, decide_eq_false_iff_not, Bool.not_eq_true, Bool.not_eq_false, Decidable.not_not] at h)) | refine And.intro (by first | omega | exact rfl | assumption | exact ⟨rfl, rfl, rfl, rfl, rfl⟩ | exact ⟨rfl, rfl, rfl, rfl⟩ | exact ⟨rfl, by omega⟩ | exact oneAll_of rfl | exact ⟨rfl, oneAll_of rfl⟩ | exact Ref.refl _ | exact Thin.ref (.skip (Thin.refl _)) | exact Thin.ref (.skip (.skip (Thin.refl _))) | exact ⟨rfl, Nat.le_of_ble_eq_true rfl⟩ | ((try unfold maxLen); (try simp only [List.length_nil, List.length_cons, List.length_append]); omega) | (refine ⟨rfl, ?_⟩; (try simp only [List.length_nil, List.length_cons, List.length_append]); omega)) ?_ | intro _)); (all_goals (conv => whnf))
      all_goals first | (exfalso; omega) | skip
      exact ⟨⟨_, Thin.ref (.own rfl rfl (.nil _)), .inl ⟨hs, _, _, rfl, rfl⟩⟩⟩
    · rw [show min (tm E i).txt.length (most + 1) = most + 1 by omega] at hat
      generalize (tm E i).txt = T at *
      (repeat' ((conv => whnf); first | rw [Int.toNat_natCast] | rw [Nat.mul_one] | refine ldCell hat ?_ | (refine bcase_prop (fun h => ?_) (fun h => ?_) <;> try (exfalso; omega)) | (refine bcase_nprop (fun h => ?_) (fun h => ?_) <;> try (exfalso; omega)) | (refine bcase_intro (fun h => ?_) (fun h => ?_) <;> (try simp only [Bool.not_eq_true', Bool.not_eq_false', decide_eq_true_eq, decide_eq_false_iff_not, Bool.not_eq_true, Bool.not_eq_false, Decidable.not_not] at h)) | refine And.intro (by first | omega | exact rfl | assumption | exact ⟨rfl, rfl, rfl, rfl, rfl⟩ | exact ⟨rfl, rfl, rfl, rfl⟩ | exact ⟨rfl, by omega⟩ | exact oneAll_of rfl | exact ⟨rfl, oneAll_of rfl⟩ | exact Ref.refl _ | exact Thin.ref (.skip (Thin.refl _)) | exact Thin.ref (.skip (.skip (Thin.refl _))) | exact ⟨rfl, Nat.le_of_ble_eq_true rfl⟩ | ((try unfold maxLen); (try simp only [List.length_nil, List.length_cons, List.length_append]); omega) | (refine ⟨rfl, ?_⟩; (try simp only [List.length_nil, List.length_cons, List.length_append]); omega)) ?_ | intro _)); (all_goals (conv => whnf))
      all_goals first | (exfalso; omega) | skip
      exact ⟨⟨[], Thin.ref (.nil _), .inr ⟨by omega, rfl, rfl⟩⟩⟩
  have hr := fun {L : List Ent} => hrd (L := L) i (by omega)
  have hn0 := hne i (by omega)
  have hatE : atE E ((i : Int) + 1) = E.getD i ent0 := atE_succ E i
  have c1 := calls_r12Refs (E.getD i ent0).r
  have h1 : (1 : Int) ≤ (i : Int) + 1 := by omega
  have h2 : (i : Int) + 1 ≤ (⟨1000, E⟩ : Sto).E.length := by dsimp only; omega
  have hb := hw.below h1 h2
  dsimp only at hb
  rw [hatE] at hb
  have hrefs : ∀ j, j < (rfsL (E.getD i ent0).r).length → 1 ≤ (rfsL (E.getD i ent0).r).getD j 0 ∧ (rfsL (E.getD i ent0).r).getD j 0 ≤ i := by
    intro j hj
    unfold rfsL at hj ⊢
    rcases hb with ⟨q1, ht⟩ | ⟨q1, ht, a1, a2, b1, b2⟩ | ⟨q1, ht, a1, a2, t2⟩
    · rw [if_neg (by omega), if_neg (by omega)] at hj; simp at hj
    · rw [if_pos q1] at hj ⊢
      simp only [List.length_cons, List.length_nil] at hj
      rcases (by omega : j = 0 ∨ j = 1) with rfl | rfl
      · simp only [List.getD_cons_zero]; omega
      · simp only [List.getD_cons_succ, List.getD_cons_zero]; omega
    · rw [if_neg (by omega), if_pos q1] at hj ⊢
      simp only [List.length_cons, List.length_nil] at hj
      have : j = 0 := by omega
      subst this
      simp only [List.getD_cons_zero]; omega
  (repeat' ((conv => whnf); first | rw [Int.toNat_natCast] | refine ⟨ruC (E.getD i ent0).r, rfl, hr, ?_⟩ | (refine CallK_slice 700 (fun w' hR => c1 w') ?_) | (refine bcase_prop (fun h => ?_) (fun h => ?_) <;> try (exfalso; omega)) | (refine bcase_nprop (fun h => ?_) (fun h => ?_) <;> try (exfalso; omega)) | (refine bcase_intro (fun h => ?_) (fun h => ?_) <;> (try simp only [Bool.not_eq_true', Bool.not_eq_false', decide_eq_true_eq, decide_eq_false_iff_not, Bool.not_eq_true, Bool.not_eq_false, Decidable.not_not] at h)) | refine And.intro (by first | omega | exact rfl | assumption | exact ⟨rfl, rfl, rfl, rfl, rfl⟩ | exact ⟨rfl, rfl, rfl, rfl⟩ | exact ⟨rfl, by omega⟩ | exact oneAll_of rfl | exact ⟨rfl, oneAll_of rfl⟩ | exact Ref.refl _ | exact Thin.ref (.skip (Thin.refl _)) | exact Thin.ref (.skip (.skip (Thin.refl _))) | exact hn0 | exact ⟨rfl, Nat.le_of_ble_eq_true rfl⟩ | ((try unfold maxLen); (try simp only [List.length_nil, List.length_cons, List.length_append]); omega) | (refine ⟨rfl, ?_⟩; (try simp only [List.length_nil, List.length_cons, List.length_append]); omega)) ?_ | intro _)); (all_goals (conv => whnf))
  all_goals first | (exfalso; omega) | skip
  rename_i b8 a7 c7
  refine VC_loop Nat (fun j => [(0, .v (.slice a k c)), (1, .v (.int .i64 most)), (6, .sl 18 (some ⟨b18, 0, none⟩) (k + 1) (k + 1)), (7, .v (.int .i64 i)), (8, .ptr 8 b8 0), (9, .sl 700 a7 (rfsL (E.getD i ent0).r).length c7), (10, .v (.int .i64 j))])
    (fun j => [.own 700 a7 (rfsL (E.getD i ent0).r).length c7 ty_api_ID 1 (ints .i64 (rfsL (E.getD i ent0).r)), .box 8 b8 (ruC (E.getD i ent0).r) ty_api_Rule, .own 18 (some ⟨b18, 0, none⟩) (k + 1) (k + 1) ty_int 1 (ints .i64 (clL E most k i))])
    (fun j => j ≤ (rfsL (E.getD i ent0).r).length) (fun j => (rfsL (E.getD i ent0).r).length - j) 0 (Nat.zero_le _) (by (repeat ((conv => whnf); refine And.intro (by first | exact rfl | exact vint_eq (by omega) | exact vint_eq (by (dsimp only; omega)) | exact vsl_eq (by omega) | exact vsl_eq (by first | (dsimp only; omega) | (simp; done) | (simp; omega))) ?_)); exact trivial) (Thin.ref (Thin.refl _)) ?_
  intro j hj
  have hrl : (rfsL (E.getD i ent0).r).length ≤ 2 := by
    unfold rfsL
    split
    · simp
    · split <;> simp
  by_cases hjl : j < (rfsL (E.getD i ent0).r).length
  · have hx := hrefs j hjl
    have hat : (ints .i64 (rfsL (E.getD i ent0).r))[j]? = some (.int .i64 ((rfsL (E.getD i ent0).r).getD j 0)) := ints_getD hjl
    (repeat' ((conv => whnf); first | rw [Int.toNat_natCast] | rw [Nat.mul_one] | refine ldCell hat ?_ | (refine bcase_prop (fun h => ?_) (fun h => ?_) <;> try (exfalso; omega)) | (refine bcase_nprop (fun h => ?_) (fun h => ?_) <;> try (exfalso; omega)) | (refine bcase_intro (fun h => ?_) (fun h => ?_) <;> (try simp only [Bool.not_eq_true', Bool.not_eq_false', decide_eq_true_eq, decide_eq_false_iff_not, Bool.not_eq_true, Bool.not_eq_false, Decidable.not_not] at h)) | refine And.intro (by first | omega | exact rfl | assumption | exact ⟨rfl, rfl, rfl, rfl, rfl⟩ | exact ⟨rfl, rfl, rfl, rfl⟩ | exact ⟨rfl, by omega⟩ | exact oneAll_of rfl | exact ⟨rfl, oneAll_of rfl⟩ | exact Ref.refl _ | exact Thin.ref (.skip (Thin.refl _)) | exact Thin.ref (.skip (.skip (Thin.refl _))) | exact ⟨rfl, Nat.le_of_ble_eq_true rfl⟩ | ((try unfold maxLen); (try simp only [List.length_nil, List.length_cons, List.length_append]); omega) | (refine ⟨rfl, ?_⟩; (try simp only [List.length_nil, List.length_cons, List.length_append]); omega)) ?_ | intro _)); (all_goals (conv => whnf))
    all_goals first | (exfalso; omega) | skip
    exact loop_next (j + 1) hjl (by ((try dsimp only); omega)) (by (repeat ((conv => whnf); refine And.intro (by first | exact rfl | exact vint_eq (by omega) | exact vint_eq (by (dsimp only; omega)) | exact vsl_eq (by omega) | exact vsl_eq (by first | (dsimp only; omega) | (simp; done) | (simp; omega))) ?_)); exact trivial) (Thin.ref (Thin.refl _))
  · have e1 : ((i : Int) + 1).toNat = i + 1 := by omega
    have hll : i + 1 + 1 ≤ (ints .i64 (clL E most k i)).length := by rw [ints_length, clL_length]; omega
    have hset := clL_set (E := E) (most := most) (k := k) (i := i) hlt
    have hz1 : ((i + 1 : Nat) : Int) = (i : Int) + 1 := by omega
    have hzz : cl E most (i + 1) = ((min (tm E ((i : Int) + 1)).len (most + 1) : Nat) : Int) := by unfold cl; rw [hz1]
    rcases hb with ⟨q1, ht⟩ | ⟨q1, ht, a1, a2, b1, b2⟩ | ⟨q1, ht, a1, a2, t2⟩
    · have hz : (tm E ((i : Int) + 1)).len = 1 := by rw [ht]; rfl
      rw [hz] at hzz
      have x1 : 1 ≤ most → splice (ints .i64 (clL E most k i)) (i + 1) [.int .i64 1] = ints .i64 (clL E most k (i + 1)) := fun h => by
        rw [← hset, hzz, show min 1 (most + 1) = 1 by omega]; rfl
      have x2 : ¬ 1 ≤ most → splice (ints .i64 (clL E most k i)) (i + 1) [.int .i64 ((most : Int) + 1)] = ints .i64 (clL E most k (i + 1)) := fun h => by
        rw [← hset, hzz, show min 1 (most + 1) = most + 1 by omega]; rfl
      generalize (E.getD i ent0).r = r at *
      (repeat' ((conv => whnf); first | rw [e1] | rw [x1 (by omega)] | rw [x2 (by omega)] | rw [Int.toNat_natCast] | rw [Nat.mul_one] | (refine bcase_prop (fun h => ?_) (fun h => ?_) <;> try (exfalso; omega)) | (refine bcase_nprop (fun h => ?_) (fun h => ?_) <;> try (exfalso; omega)) | (refine bcase_intro (fun h => ?_) (fun h => ?_) <;> (try simp only [Bool.not_eq_true', Bool.not_eq_false', decide_eq_true_eq, decide_eq_false_iff_not, Bool.not_eq_true, Bool.not_eq_false, Decidable.not_not] at h)) | refine And.intro (by first | omega | exact rfl | assumption | exact ⟨rfl, rfl, rfl, rfl, rfl⟩ | exact ⟨rfl, rfl, rfl, rfl⟩ | exact ⟨rfl, by omega⟩ | exact oneAll_of rfl | exact ⟨rfl, oneAll_of rfl⟩ | exact Ref.refl _ | exact Thin.ref (.skip (Thin.refl _)) | exact Thin.ref (.skip (.skip (Thin.refl _))) | exact ⟨rfl, hll⟩ | exact ⟨rfl, Nat.le_of_ble_eq_true rfl⟩ | ((try unfold maxLen); (try simp only [List.length_nil, List.length_cons, List.length_append]); omega) | (refine ⟨rfl, ?_⟩; (try simp only [List.length_nil, List.length_cons, List.length_append]); omega)) ?_ | intro _)); (all_goals (conv => whnf))
      all_goals first | (exfalso; omega) | skip
      all_goals (refine loop_next (i + 1) hlt (by ((try dsimp only); omega)) (by (repeat ((conv => whnf); refine And.intro (by first | exact rfl | exact vint_eq (by omega) | exact vint_eq (by (dsimp only; omega)) | exact vsl_eq (by omega) | exact vsl_eq (by first | (dsimp only; omega) | (simp; done) | (simp; omega))) ?_)); exact trivial) (Thin.ref (.skip (.skip (.keep rfl (fun _ h => h) (.nil _))))))
    · obtain ⟨na, hna⟩ : ∃ na : Nat, (E.getD i ent0).r.a = na := ⟨(E.getD i ent0).r.a.toNat, by omega⟩
      obtain ⟨nb, hnb⟩ : ∃ nb : Nat, (E.getD i ent0).r.b = nb := ⟨(E.getD i ent0).r.b.toNat, by omega⟩
      have hz : (tm E ((i : Int) + 1)).len = (tm E na).len + (tm E nb).len := by rw [ht, hna, hnb, Tm.len_pr]
      rw [hz] at hzz
      have la := clL_at (E := E) (most := most) (k := k) (i := i) (j := na) (by omega) (by omega)
      have lb := clL_at (E := E) (most := most) (k := k) (i := i) (j := nb) (by omega) (by omega)
      have xa : cl E most na = ((min (tm E na).len (most + 1) : Nat) : Int) := rfl
      have xb : cl E most nb = ((min (tm E nb).len (most + 1) : Nat) : Int) := rfl
      generalize cl E most na = x at *
      generalize cl E most nb = y at *
      generalize (tm E na).len = ln at *
      generalize (tm E nb).len = lm at *
      have x1 : x + y ≤ most → splice (ints .i64 (clL E most k i)) (i + 1) [.int .i64 (x + y)] = ints .i64 (clL E most k (i + 1)) := fun h => by
        rw [← hset, hzz, show ((min (ln + lm) (most + 1) : Nat) : Int) = x + y by omega]
      have x2 : ¬ x + y ≤ most → splice (ints .i64 (clL E most k i)) (i + 1) [.int .i64 ((most : Int) + 1)] = ints .i64 (clL E most k (i + 1)) := fun h => by
        rw [← hset, hzz, show ((min (ln + lm) (most + 1) : Nat) : Int) = (most : Int) + 1 by omega]
      generalize (E.getD i ent0).r = r at *
      (repeat' ((conv => whnf); first | rw [e1] | rw [hna] | rw [hnb] | rw [x1 (by omega)] | rw [x2 (by omega)] | rw [Int.toNat_natCast] | rw [Nat.mul_one] | refine ldCell la ?_ | refine ldCell lb ?_ | (refine bcase_prop (fun h => ?_) (fun h => ?_) <;> try (exfalso; omega)) | (refine bcase_nprop (fun h => ?_) (fun h => ?_) <;> try (exfalso; omega)) | (refine bcase_intro (fun h => ?_) (fun h => ?_) <;> (try simp only [Bool.not_eq_true', Bool.not_eq_false', decide_eq_true_eq, decide_eq_false_iff_not, Bool.not_eq_true, Bool.not_eq_false, Decidable.not_not] at h)) | refine And.intro (by first | omega | exact rfl | assumption | exact ⟨rfl, rfl, rfl, rfl, rfl⟩ | exact ⟨rfl, rfl, rfl, rfl⟩ | exact ⟨rfl, by omega⟩ | exact oneAll_of rfl | exact ⟨rfl, oneAll_of rfl⟩ | exact Ref.refl _ | exact Thin.ref (.skip (Thin.refl _)) | exact Thin.ref (.skip (.skip (Thin.refl _))) | exact ⟨rfl, hll⟩ | exact ⟨rfl, Nat.le_of_ble_eq_true rfl⟩ | ((try unfold maxLen); (try simp only [List.length_nil, List.length_cons, List.length_append]); omega) | (refine ⟨rfl, ?_⟩; (try simp only [List.length_nil, List.length_cons, List.length_append]); omega)) ?_ | intro _)); (all_goals (conv => whnf))
      all_goals first | (exfalso; omega) | skip
      all_goals (refine loop_next (i + 1) hlt (by ((try dsimp only); omega)) (by (repeat ((conv => whnf); refine And.intro (by first | exact rfl | exact vint_eq (by omega) | exact vint_eq (by (dsimp only; omega)) | exact vsl_eq (by omega) | exact vsl_eq (by first | (dsimp only; omega) | (simp; done) | (simp; omega))) ?_)); exact trivial) (Thin.ref (.skip (.skip (.keep rfl (fun _ h => h) (.nil _))))))
    · obtain ⟨na, hna⟩ : ∃ na : Nat, (E.getD i ent0).r.a = na := ⟨(E.getD i ent0).r.a.toNat, by omega⟩
      obtain ⟨q, hq⟩ : ∃ q : Nat, (E.getD i ent0).r.t = q := ⟨(E.getD i ent0).r.t.toNat, by omega⟩
      have hz : (tm E ((i : Int) + 1)).len = q * (tm E na).len := by rw [ht, hna, hq, Tm.len_pw, Int.toNat_natCast]
      rw [hz] at hzz
      have la := clL_at (E := E) (most := most) (k := k) (i := i) (j := na) (by omega) (by omega)
      have xa : cl E most na = ((min (tm E na).len (most + 1) : Nat) : Int) := rfl
      rw [xa] at la
      have hdiv : (most : Int) / (q : Int) = ((most / q : Nat) : Int) := by rw [Int.natCast_ediv]
      have hiff : min (tm E na).len (most + 1) ≤ most / q ↔ min (tm E na).len (most + 1) * q ≤ most := Nat.le_div_iff_mul_le (by omega)
      have hmul : ((min (tm E na).len (most + 1) : Nat) : Int) * (q : Int) = ((min (tm E na).len (most + 1) * q : Nat) : Int) := by simp
      have hp1 : min (tm E na).len (most + 1) * q ≤ most → min (q * (tm E na).len) (most + 1) = min (tm E na).len (most + 1) * q := fun h => by
        have h1 : min (tm E na).len (most + 1) * 1 ≤ min (tm E na).len (most + 1) * q := Nat.mul_le_mul_left _ (by omega)
        have h2 : min (tm E na).len (most + 1) = (tm E na).len := by omega
        rw [h2] at h ⊢
        rw [Nat.mul_comm q]; omega
      have hp2 : ¬ min (tm E na).len (most + 1) * q ≤ most → min (q * (tm E na).len) (most + 1) = most + 1 := fun h => by
        have h1 : 1 * (tm E na).len ≤ q * (tm E na).len := Nat.mul_le_mul_right _ (by omega)
        by_cases h2 : (tm E na).len ≤ most
        · rw [show min (tm E na).len (most + 1) = (tm E na).len by omega, Nat.mul_comm] at h; omega
        · omega
      generalize min (tm E na).len (most + 1) = x at *
      generalize min (q * (tm E na).len) (most + 1) = z at *
      generalize x * q = p at *
      generalize most / q = d at *
      have x1 : p ≤ most → splice (ints .i64 (clL E most k i)) (i + 1) [.int .i64 (p : Int)] = ints .i64 (clL E most k (i + 1)) := fun h => by
        rw [← hset, hzz, hp1 h]
      have x2 : ¬ p ≤ most → splice (ints .i64 (clL E most k i)) (i + 1) [.int .i64 ((most : Int) + 1)] = ints .i64 (clL E most k (i + 1)) := fun h => by
        rw [← hset, hzz, hp2 h]; rfl
      have hqb := hw.tim' (n := (i : Int) + 1) h1 h2
      dsimp only at hqb
      rw [hatE] at hqb
      generalize (E.getD i ent0).r = r at *
      (repeat' ((conv => whnf); first | rw [e1] | rw [hna] | rw [hq] | rw [hdiv] | rw [hmul] | rw [x1 (by omega)] | rw [x2 (by omega)] | rw [Int.toNat_natCast] | rw [Nat.mul_one] | refine ldCell la ?_ | (refine bcase_prop (fun h => ?_) (fun h => ?_) <;> try (exfalso; omega)) | (refine bcase_nprop (fun h => ?_) (fun h => ?_) <;> try (exfalso; omega)) | (refine bcase_intro (fun h => ?_) (fun h => ?_) <;> (try simp only [Bool.not_eq_true', Bool.not_eq_false', decide_eq_true_eq, decide_eq_false_iff_not, Bool.not_eq_true, Bool.not_eq_false, Decidable.not_not] at h)) | refine And.intro (by first | omega | exact rfl | assumption | exact ⟨rfl, rfl, rfl, rfl, rfl⟩ | exact ⟨rfl, rfl, rfl, rfl⟩ | exact ⟨rfl, by omega⟩ | exact oneAll_of rfl | exact ⟨rfl, oneAll_of rfl⟩ | exact Ref.refl _ | exact Thin.ref (.skip (Thin.refl _)) | exact Thin.ref (.skip (.skip (Thin.refl _))) | exact ⟨rfl, hll⟩ | exact ⟨by omega, by omega, by omega⟩ | exact ⟨rfl, Nat.le_of_ble_eq_true rfl⟩ | ((try unfold maxLen); (try simp only [List.length_nil, List.length_cons, List.length_append]); omega) | (refine ⟨rfl, ?_⟩; (try simp only [List.length_nil, List.length_cons, List.length_append]); omega)) ?_ | intro _)); (all_goals (conv => whnf))
      all_goals first | (exfalso; omega) | skip
      all_goals (refine loop_next (i + 1) hlt (by ((try dsimp only); omega)) (by (repeat ((conv => whnf); refine And.intro (by first | exact rfl | exact vint_eq (by omega) | exact vint_eq (by (dsimp only; omega)) | exact vsl_eq (by omega) | exact vsl_eq (by first | (dsimp only; omega) | (simp; done) | (simp; omega))) ?_)); exact trivial) (Thin.ref (.skip (.skip (.keep rfl (fun _ h => h) (.nil _))))))
theorem calls_Expand0 (most : Nat) (hm : most ≤ 65536) (a : Option Addr) (c : Nat) (w : World) :
    Calls Try.prog fn_evergreenref12_Expand #[.slice a 0 c, .int .i64 most] w fun e w' => ∃ v L1, e = .returned v ∧ R w [] L1 w' ∧ expQ most [] v L1 := by
  refine new_call [.v (.slice a 0 c), .v (.int .i64 most)] ok_evergreenref12_Expand (by simp) ?_
  (repeat' ((conv => whnf); first | (refine bcase_prop (fun h => ?_) (fun h => ?_) <;> try (exfalso; omega)) | (refine bcase_nprop (fun h => ?_) (fun h => ?_) <;> try (exfalso; omega)) | (refine bcase_intro (fun h => ?_) (fun h => ?_) <;> (try simp only [Bool.not_eq_true', Bool.not_eq_false', decide_eq_true_eq, decide_eq_false_iff_not, Bool.not_eq_true, Bool.not_eq_false, Decidable.not_not] at h)) | refine And.intro (by first | omega | exact rfl | assumption | exact ⟨rfl, rfl, rfl, rfl, rfl⟩ | exact ⟨rfl, rfl, rfl, rfl⟩ | exact ⟨rfl, by omega⟩ | exact oneAll_of rfl | exact ⟨rfl, oneAll_of rfl⟩ | exact Ref.refl _ | exact Thin.ref (.skip (Thin.refl _)) | exact Thin.ref (.skip (.skip (Thin.refl _))) | exact ⟨rfl, Nat.le_of_ble_eq_true rfl⟩ | ((try unfold maxLen); (try simp only [List.length_nil, List.length_cons, List.length_append]); omega) | (refine ⟨rfl, ?_⟩; (try simp only [List.length_nil, List.length_cons, List.length_append]); omega)) ?_ | intro _)); (all_goals (conv => whnf))
  all_goals first | (exfalso; omega) | skip
  exact ⟨⟨_, (Ref.ownNil 807 ty_uint8 1).trans (Thin.ref (.keep rfl (fun _ h => h) (.nil _))), .inl ⟨Nat.zero_le _, none, 0, rfl, rfl⟩⟩⟩
theorem offA_zero (a : Option Addr) (c sz : Nat) : offA a c 0 sz = a := by
  unfold offA
  split
  · rfl
  · cases a with
    | none => rfl
    | some x => simp [Addr.add]
theorem calls_Text {E : List Entr} (hw : WF ⟨1000, E⟩) {a1 a2 : Option Addr} {c1 c2 : Nat} (most : Nat) (hm : most ≤ 65536) {n : Int} (h0 : 0 ≤ n) (hn : n ≤ E.length) (w : World) (hc : E.length ≤ c1) (hin : In w [] a1 (ruE E)) :
    Calls Try.prog fn_evergreenref12_Text #[stV E.length a1 c1 a2 c2, .int .i64 n, .int .i64 most] w fun e w' => ∃ v L1, e = .returned v ∧ R w [] L1 w' ∧ expQ most (tm E n).txt v L1 := by
  refine new_call [.v (stV E.length a1 c1 a2 c2), .v (.int .i64 n), .v (.int .i64 most)] ok_evergreenref12_Text (by simp) ?_
  have hz := offA_zero a1 c1 5
  obtain ⟨k, rfl⟩ := Int.eq_ofNat_of_zero_le h0
  have ek : ((k : Int).toNat - Int.toNat 0) = k := by omega
  have cE : ∀ w, In w [] a1 (ruE E) → Calls Try.prog fn_evergreenref12_Expand #[.slice a1 k (c1 - Int.toNat 0), .int .i64 most] w fun e w' => ∃ v L1, e = .returned v ∧ R w [] L1 w' ∧ expQ most (tm E k).txt v L1 := fun w h => by
    by_cases hk : k = 0
    · subst hk
      exact calls_Expand0 most hm a1 _ w
    · exact calls_Expand hw k most (by omega) (by omega) hm w h
  unfold expQ at cE
  have hz' : offA a1 c1 (Int.toNat 0) 5 = a1 := hz
  generalize (tm E k).txt = T at *
  (repeat' ((conv => whnf); first | rw [ek] | rw [hz'] | refine ⟨.v _, ⟨rfl, trivial⟩, ?_⟩ | ((refine CallK_new (fun w hR => cE w (hin.cast hR (by simp))) ?_; rintro _ _ (⟨hq, a', c', rfl, rfl⟩ | ⟨hq, rfl, rfl⟩)) <;> refine ⟨.v _, rfl, ?_⟩) | (refine bcase_prop (fun h => ?_) (fun h => ?_) <;> try (exfalso; omega)) | (refine bcase_nprop (fun h => ?_) (fun h => ?_) <;> try (exfalso; omega)) | (refine bcase_intro (fun h => ?_) (fun h => ?_) <;> (try simp only [Bool.not_eq_true', Bool.not_eq_false', decide_eq_true_eq, decide_eq_false_iff_not, Bool.not_eq_true, Bool.not_eq_false, Decidable.not_not] at h)) | refine And.intro (by first | omega | exact rfl | assumption | exact ⟨rfl, rfl, rfl, rfl, rfl⟩ | exact ⟨rfl, rfl, rfl, rfl⟩ | exact ⟨rfl, by omega⟩ | exact oneAll_of rfl | exact ⟨rfl, oneAll_of rfl⟩ | exact Ref.refl _ | exact Thin.ref (.skip (Thin.refl _)) | exact Thin.ref (.skip (.skip (Thin.refl _))) | exact ⟨rfl, Nat.le_of_ble_eq_true rfl⟩ | ((try unfold maxLen); (try simp only [List.length_nil, List.length_cons, List.length_append]); omega) | (refine ⟨rfl, ?_⟩; (try simp only [List.length_nil, List.length_cons, List.length_append]); omega)) ?_ | intro _)); (all_goals (conv => whnf))
  · exact ⟨⟨_, Thin.ref (.keep rfl (fun _ h => h) (.nil _)), .inl ⟨hq, a', c', rfl, rfl⟩⟩⟩
  · exact ⟨⟨[], Thin.ref (.nil _), .inr ⟨hq, rfl, rfl⟩⟩⟩
end Go.Proofs.Ytohlphngnhcbfaa
/- The statements of chapters 16 and 19 that need no plain text: the program. -/
namespace Go.Proofs.Ytohlphngnhcbfaa
open Go.EG
attribute [local irreducible] CallK QCall Go.Calls
set_option linter.unusedSimpArgs false
set_option linter.unusedVariables false
set_option maxRecDepth 20000
set_option maxHeartbeats 4000000

/-- A number, read as one without a sign, modulo another. -/
def uMod (x : Int) (L : Nat) : Nat := (x % 18446744073709551616 % ((L : Int) + 1)).toNat
theorem uMod_le (x : Int) (L : Nat) : uMod x L ≤ L := by
  unfold uMod
  have h1 := Int.emod_lt_of_pos (x % 18446744073709551616) (show (0 : Int) < (L : Int) + 1 by omega)
  omega
theorem uMod_eq (x : Int) {L : Nat} (h : L ≤ LM) : x % 18446744073709551616 % (((L : Int) + 1) % 18446744073709551616) = (uMod x L : Nat) := by
  unfold uMod LM at *
  have h0 := Int.emod_nonneg (x % 18446744073709551616) (show ((L : Int) + 1) ≠ 0 by omega)
  have e : ((L : Int) + 1) % 18446744073709551616 = (L : Int) + 1 := by omega
  rw [e]; omega
/-- An offset lies in the line of which it is. -/
theorem le_lineE {t : List Nat} {i : Nat} (h : i ≤ t.length) : i ≤ lineE t (linesN (t.take i)) := by
  unfold lineE
  split
  · rename_i h1
    obtain ⟨f1, f2, f3⟩ := feed_lt h1
    rcases Nat.lt_or_ge (feedN t (linesN (t.take i))) i with h2 | h2
    · exfalso
      generalize feedN t (linesN (t.take i)) = p at *
      have h3 : linesN (t.take (p + 1)) = linesN (t.take p) + 1 := by
        rw [List.take_add_one, lines_append]
        congr 1
        rw [List.getD_eq_getElem?_getD, List.getElem?_eq_getElem f1] at f2
        simp at f2
        rw [List.getElem?_eq_getElem f1, f2]
        rfl
      have h4 := lines_take_mono t (show p + 1 ≤ i from h2)
      omega
    · exact h2
  · exact h

end Go.Proofs.Ytohlphngnhcbfaa
/- Lines, positions, ranges: the references. -/
namespace Go.Proofs.Ytohlphngnhcbfaa
open Go.EG
attribute [local irreducible] CallK QCall Go.Calls
set_option linter.unusedSimpArgs false
set_option linter.unusedVariables false
set_option maxRecDepth 20000
set_option maxHeartbeats 4000000

/-! ### Plain -/

theorem take_next {t : List Nat} {i : Nat} (h : i < t.length) : t.take (i + 1) = t.take i ++ [t.getD i 0] := by
  rw [List.take_add_one, List.getD_eq_getElem?_getD, List.getElem?_eq_getElem h]; rfl
theorem lines_next {t : List Nat} {i : Nat} (h : i < t.length) : linesN (t.take (i + 1)) = linesN (t.take i) + (if t.getD i 0 = 10 then 1 else 0) := by
  rw [take_next h, lines_append]
  congr 1
  by_cases hx : t.getD i 0 = 10
  · rw [if_pos hx, hx]; rfl
  · rw [if_neg hx, lines_cons, if_neg hx]; rfl
theorem tail_next {t : List Nat} {i : Nat} (h : i < t.length) : tailN (t.take (i + 1)) = if t.getD i 0 = 10 then 0 else tailN (t.take i) + 1 := by
  rw [take_next h, tail_append]
  by_cases hx : t.getD i 0 = 10
  · rw [if_pos hx, hx]; rfl
  · rw [if_neg hx]
    have h1 : linesN [t.getD i 0] = 0 := by rw [lines_cons, if_neg hx]; rfl
    rw [if_pos h1, Nat.add_comm]; rfl
theorem feed_at {t : List Nat} {i : Nat} (h : i < t.length) (hx : t.getD i 0 = 10) : linesN (t.take i) < linesN t ∧ feedN t (linesN (t.take i)) = i := by
  have hd : t = t.take i ++ (10 :: t.drop (i + 1)) := by
    conv => lhs; rw [← List.take_append_drop i t]
    congr 1
    rw [List.drop_eq_getElem_cons h]
    congr 1
    rw [List.getD_eq_getElem?_getD, List.getElem?_eq_getElem h] at hx
    simpa using hx
  refine ⟨?_, ?_⟩
  · conv => rhs; rw [hd]
    rw [lines_append, lines_cons, if_pos rfl]; omega
  · have h2 := feed_right (s := t.take i) (k := linesN (t.take i)) (10 :: t.drop (i + 1)) (Nat.le_refl _)
    rw [← hd, Nat.sub_self] at h2
    rw [h2]
    simp only [feedN, if_pos, List.length_take]
    omega
/-- The lines of a text. -/
def lnP (t : List Nat) (i : Nat) : Nat × Nat := (lineS t i, lineE t i - lineS t i)
abbrev lnC (x : Nat × Nat) : List Value := [.int .i64 x.1, .int .i64 x.2]
def lnsC (l : List (Nat × Nat)) : List Value := l.flatMap lnC
def lnL (t : List Nat) (k : Nat) : List (Nat × Nat) := (List.range k).map (lnP t)
theorem lnL_length (t : List Nat) (k : Nat) : (lnL t k).length = k := by simp [lnL]
theorem lnL_succ (t : List Nat) (k : Nat) : lnL t (k + 1) = lnL t k ++ [lnP t k] := by simp [lnL, List.range_succ]
theorem lnsC_length : ∀ g : List (Nat × Nat), (lnsC g).length = g.length * 2
  | [] => rfl
  | x :: g => by
    have := lnsC_length g
    simp only [lnsC, List.flatMap_cons, List.length_append, List.length_cons, List.length_nil] at this ⊢
    omega
theorem lnsC_append (g h : List (Nat × Nat)) : lnsC g ++ lnsC h = lnsC (g ++ h) := by simp [lnsC]
theorem lnsC_cell : ∀ {g : List (Nat × Nat)} {i : Nat}, i < g.length → (lnsC g)[i * 2]? = some (.int .i64 (g.getD i (0, 0)).1) ∧ (lnsC g)[i * 2 + 1]? = some (.int .i64 (g.getD i (0, 0)).2)
  | x :: g, 0, _ => by simp [lnsC]
  | x :: g, i + 1, h => by
    have ih := lnsC_cell (g := g) (i := i) (by simpa using h)
    have e1 : lnsC (x :: g) = lnC x ++ lnsC g := by simp [lnsC]
    have e2 : (i + 1) * 2 = (lnC x).length + i * 2 := by simp; omega
    rw [e1, e2]
    refine ⟨?_, ?_⟩
    · rw [List.getElem?_append_right (by omega), Nat.add_sub_cancel_left]
      simpa using ih.1
    · rw [List.getElem?_append_right (by omega), show (lnC x).length + i * 2 + 1 - (lnC x).length = i * 2 + 1 by omega]
      simpa using ih.2
theorem lnL_getD {t : List Nat} {k i : Nat} (h : i < k) : (lnL t k).getD i (0, 0) = lnP t i := by
  simp [lnL, List.getD_eq_getElem?_getD, h]
theorem byC_at {t : List Nat} {i : Nat} (h : i < t.length) : (byC t)[i]? = some (.int .u8 (t.getD i 0 : Nat)) := by
  simp [byC, List.getD_eq_getElem?_getD, h]
theorem byC_sub (t : List Nat) (i n : Nat) : ((byC t).drop i).take n = byC (sub t i n) := by simp [byC, sub, List.map_drop, List.map_take]
/-- A range of a row, read. -/
theorem In.off {w0 : World} {fp0 : List Nat} {a : Option Addr} {xs : List Value} (h : In w0 fp0 a xs) {c i : Nat} (n : Nat) (hc : xs.length ≤ c) : In w0 fp0 (offA a c i 1) ((xs.drop i).take n) := by
  by_cases hi : i < xs.length
  · rcases h with rfl | ⟨b, off, rfl, h1, h2, h3⟩
    · simp at hi
    · refine .inr ⟨b, off + i, ?_, h1, h2, fun j v hv => ?_⟩
      · unfold offA
        rw [if_neg (by omega), Nat.mul_one]
        simp [Addr.add]
        try omega
      · rw [Nat.add_assoc]
        refine h3 _ v ?_
        rw [List.getElem?_take] at hv
        split at hv
        · simpa using hv
        · cases hv
  · exact .inl (by rw [List.drop_eq_nil_of_le (by omega)]; simp)

/-! ### Walks -/

theorem calls_r16Valid (f n : Int) (L : Nat) (hf : -9223372036854775808 ≤ f ∧ f ≤ 9223372036854775807) (hL : L ≤ LM) (w : World) : Calls Try.prog fn_evergreenref16_Valid #[.int .i64 f, .int .i64 n, .int .i64 L] w fun e w' => e = .returned (.bool (decide (0 ≤ f ∧ 0 ≤ n ∧ f ≤ L ∧ n ≤ L - f))) ∧ Ext w w' := by
  refine pure_call [.v (.int .i64 f), .v (.int .i64 n), .v (.int .i64 L)] w ok_evergreenref16_Valid (by simp) ?_
  unfold LM at hL
  (repeat' ((conv => whnf); first | (refine bcase_prop (fun h => ?_) (fun h => ?_) <;> try (exfalso; omega)) | (refine bcase_nprop (fun h => ?_) (fun h => ?_) <;> try (exfalso; omega)) | (refine bcase_intro (fun h => ?_) (fun h => ?_) <;> (try simp only [Bool.not_eq_true', Bool.not_eq_false', decide_eq_true_eq, decide_eq_false_iff_not, Bool.not_eq_true, Bool.not_eq_false, Decidable.not_not] at h)) | refine And.intro (by first | omega | exact rfl | assumption | exact ⟨rfl, rfl, rfl, rfl, rfl⟩ | exact ⟨rfl, rfl, rfl, rfl⟩ | exact ⟨rfl, by omega⟩ | exact oneAll_of rfl | exact ⟨rfl, oneAll_of rfl⟩ | exact Ref.refl _ | exact Thin.ref (.skip (Thin.refl _)) | exact Thin.ref (.skip (.skip (Thin.refl _))) | exact ⟨rfl, Nat.le_of_ble_eq_true rfl⟩ | ((try unfold maxLen); (try simp only [List.length_nil, List.length_cons, List.length_append]); omega) | (refine ⟨rfl, ?_⟩; (try simp only [List.length_nil, List.length_cons, List.length_append]); omega)) ?_ | intro _)); (all_goals (conv => whnf))
  all_goals (refine ⟨?_⟩; congr 1; first | (rw [decide_eq_decide]; omega) | (symm; rw [decide_eq_false_iff_not]; omega))
/-- The text, with its capacity. -/
theorem calls_TextN {E : List Entr} (hw : WF ⟨1000, E⟩) {a1 a2 : Option Addr} {c1 c2 : Nat} (most : Nat) (hm : most ≤ 65536) {n : Int} (h0 : 0 ≤ n) (hn : n ≤ E.length) (w : World) (hc : E.length ≤ c1) (hin : In w [] a1 (ruE E)) :
    Calls Try.prog fn_evergreenref12_Text #[stV E.length a1 c1 a2 c2, .int .i64 n, .int .i64 most] w fun e w' => ∃ v L1, e = .returned v ∧ R w [] L1 w' ∧
      ((((tm E n).txt.length ≤ most ∧ ∃ a c, (tm E n).txt.length ≤ c ∧ v = .tuple #[.slice a (tm E n).txt.length c, .bool true] ∧ L1 = [.own 807 a (tm E n).txt.length c ty_uint8 1 (byC (tm E n).txt)])) ∨
      (most < (tm E n).txt.length ∧ v = .tuple #[.slice none 0 0, .bool false] ∧ L1 = [])) :=
  (calls_Text hw most hm h0 hn w hc hin).mono fun e w' ⟨v, L1, he, hR', hq⟩ => by
    rcases hq with ⟨h1, a, c, hv, hL⟩ | ⟨h1, hv, hL⟩
    · subst hL
      exact ⟨v, _, he, hR', .inl ⟨h1, a, c, own_cap hR' (key := 807) rfl, hv, rfl⟩⟩
    · exact ⟨v, L1, he, hR', .inr ⟨h1, hv, hL⟩⟩
theorem inSub {w : World} {fp : List Nat} {a : Option Addr} {T : List Nat} {c i m : Nat} (h : In w fp a (byC T)) (hc : T.length ≤ c) : In w fp (offA a c i 1) (byC (sub T i m)) := by
  have h := In.off h (c := c) (i := i) m (by rw [byC_length]; exact hc)
  rw [byC_sub] at h
  exact h
end Go.Proofs.Ytohlphngnhcbfaa
/- The fixed example of chapter 16; lists and texts that are compared; the way to a letter, by the reference. -/
namespace Go.Proofs.Ytohlphngnhcbfaa
open Go.EG
attribute [local irreducible] CallK QCall Go.Calls
set_option linter.unusedSimpArgs false
set_option linter.unusedVariables false
set_option maxRecDepth 20000
set_option maxHeartbeats 4000000

/-- The cells of a row of one's own, read. -/
theorem rdsR {w0 : World} {fp0 : List Nat} {L : List Ent} (key : Nat) {a : Option Addr} {n c T sz m : Nat} {xs : List Value} (h : ownAt key L = some ⟨a, n, c, T, sz, xs⟩) (hm : m = xs.length) : RdS w0 fp0 L a m xs := by
  refine ⟨hm, ?_⟩
  by_cases hx : xs = []
  · exact .inl hx
  · refine .inr fun w hR => ?_
    obtain ⟨v0, hv0⟩ : ∃ v, xs[0]? = some v := ⟨xs[0]'(List.length_pos_iff.2 hx), by simp⟩
    obtain ⟨g, ha, _⟩ := cell_own hR h hv0
    refine ⟨g, 0, ha, fun j v hv => ?_⟩
    obtain ⟨g', ha', hc⟩ := cell_own hR h hv
    rw [ha] at ha'
    simp only [Option.some.injEq, Addr.mk.injEq, and_true] at ha'
    subst ha'
    rw [Nat.zero_add]; exact hc

theorem calls_IDs (P : List Int) (a a' : Option Addr) (c c' : Nat) (hl : P.length ≤ 2000000) (w : World) (h1 : In w [] a (ints .i64 P)) (h2 : In w [] a' (ints .i64 P)) :
    Calls Try.prog fn_evergreenbase_IDs #[.slice a P.length c, .slice a' P.length c'] w fun e w' => e = .returned (.bool true) ∧ Ext w w' := by
  refine pure_call [.v (.slice a P.length c), .v (.slice a' P.length c')] w ok_evergreenbase_IDs (by simp) ?_
  (repeat' ((conv => whnf); first | (refine bcase_prop (fun h => ?_) (fun h => ?_) <;> try (exfalso; omega)) | (refine bcase_nprop (fun h => ?_) (fun h => ?_) <;> try (exfalso; omega)) | (refine bcase_intro (fun h => ?_) (fun h => ?_) <;> (try simp only [Bool.not_eq_true', Bool.not_eq_false', decide_eq_true_eq, decide_eq_false_iff_not, Bool.not_eq_true, Bool.not_eq_false, Decidable.not_not] at h)) | refine And.intro (by first | omega | exact rfl | assumption | exact ⟨rfl, rfl, rfl, rfl, rfl⟩ | exact ⟨rfl, rfl, rfl, rfl⟩ | exact ⟨rfl, by omega⟩ | exact oneAll_of rfl | exact ⟨rfl, oneAll_of rfl⟩ | exact Ref.refl _ | exact Thin.ref (.skip (Thin.refl _)) | exact Thin.ref (.skip (.skip (Thin.refl _))) | exact ⟨rfl, Nat.le_of_ble_eq_true rfl⟩ | ((try unfold maxLen); (try simp only [List.length_nil, List.length_cons, List.length_append]); omega) | (refine ⟨rfl, ?_⟩; (try simp only [List.length_nil, List.length_cons, List.length_append]); omega)) ?_ | intro _)); (all_goals (conv => whnf))
  all_goals first | (exfalso; omega) | skip
  refine VC_loop Nat (fun i => [(0, .v (.slice a P.length c)), (1, .v (.slice a' P.length c')), (5, .v (.int .i64 i))]) (fun _ => []) (fun i => i ≤ P.length) (fun i => P.length - i) 0 (Nat.zero_le _) (by (repeat ((conv => whnf); refine And.intro (by first | exact rfl | exact vint_eq (by omega) | exact vint_eq (by (dsimp only; omega)) | exact vsl_eq (by omega) | exact vsl_eq (by first | (dsimp only; omega) | (simp; done) | (simp; omega))) ?_)); exact trivial) (Ref.refl _) ?_
  intro i hi
  by_cases hlt : i < P.length
  · have r1 := fun {L : List Ent} => rdI (L := L) h1 hlt
    have r2 := fun {L : List Ent} => rdI (L := L) h2 hlt
    have n1 : a ≠ none := neI h1 (by omega)
    have n2 : a' ≠ none := neI h2 (by omega)
    generalize P.getD i 0 = x at *
    (repeat' ((conv => whnf); first | rw [Int.toNat_natCast] | rw [Nat.mul_one] | refine ⟨_, r1, ?_⟩ | refine ⟨_, r2, ?_⟩ | (refine bcase_prop (fun h => ?_) (fun h => ?_) <;> try (exfalso; omega)) | (refine bcase_nprop (fun h => ?_) (fun h => ?_) <;> try (exfalso; omega)) | (refine bcase_intro (fun h => ?_) (fun h => ?_) <;> (try simp only [Bool.not_eq_true', Bool.not_eq_false', decide_eq_true_eq, decide_eq_false_iff_not, Bool.not_eq_true, Bool.not_eq_false, Decidable.not_not] at h)) | refine And.intro (by first | omega | exact rfl | assumption | exact ⟨rfl, rfl, rfl, rfl, rfl⟩ | exact ⟨rfl, rfl, rfl, rfl⟩ | exact ⟨rfl, by omega⟩ | exact oneAll_of rfl | exact ⟨rfl, oneAll_of rfl⟩ | exact Ref.refl _ | exact Thin.ref (.skip (Thin.refl _)) | exact Thin.ref (.skip (.skip (Thin.refl _))) | exact n1 | exact n2 | exact ⟨rfl, Nat.le_of_ble_eq_true rfl⟩ | ((try unfold maxLen); (try simp only [List.length_nil, List.length_cons, List.length_append]); omega) | (refine ⟨rfl, ?_⟩; (try simp only [List.length_nil, List.length_cons, List.length_append]); omega)) ?_ | intro _)); (all_goals (conv => whnf))
    all_goals first | (exfalso; omega) | skip
    exact loop_next (i + 1) hlt (by ((try dsimp only); omega)) (by (repeat ((conv => whnf); refine And.intro (by first | exact rfl | exact vint_eq (by omega) | exact vint_eq (by (dsimp only; omega)) | exact vsl_eq (by omega) | exact vsl_eq (by first | (dsimp only; omega) | (simp; done) | (simp; omega))) ?_)); exact trivial) (Ref.refl _)
  · (repeat' ((conv => whnf); first | (refine bcase_prop (fun h => ?_) (fun h => ?_) <;> try (exfalso; omega)) | (refine bcase_nprop (fun h => ?_) (fun h => ?_) <;> try (exfalso; omega)) | (refine bcase_intro (fun h => ?_) (fun h => ?_) <;> (try simp only [Bool.not_eq_true', Bool.not_eq_false', decide_eq_true_eq, decide_eq_false_iff_not, Bool.not_eq_true, Bool.not_eq_false, Decidable.not_not] at h)) | refine And.intro (by first | omega | exact rfl | assumption | exact ⟨rfl, rfl, rfl, rfl, rfl⟩ | exact ⟨rfl, rfl, rfl, rfl⟩ | exact ⟨rfl, by omega⟩ | exact oneAll_of rfl | exact ⟨rfl, oneAll_of rfl⟩ | exact Ref.refl _ | exact Thin.ref (.skip (Thin.refl _)) | exact Thin.ref (.skip (.skip (Thin.refl _))) | exact ⟨rfl, Nat.le_of_ble_eq_true rfl⟩ | ((try unfold maxLen); (try simp only [List.length_nil, List.length_cons, List.length_append]); omega) | (refine ⟨rfl, ?_⟩; (try simp only [List.length_nil, List.length_cons, List.length_append]); omega)) ?_ | intro _)); (all_goals (conv => whnf))
    all_goals first | (exfalso; omega) | exact ⟨rfl⟩

/-! ### The example -/

def gX : List Rul := [⟨1, 97, 0, 0, 0⟩, ⟨1, 98, 0, 0, 0⟩, ⟨2, 0, 1, 2, 0⟩, ⟨3, 0, 3, 0, 3⟩, ⟨2, 0, 4, 1, 0⟩]
def eX : List Entr := [⟨⟨1, 97, 0, 0, 0⟩, .lt 97⟩, ⟨⟨1, 98, 0, 0, 0⟩, .lt 98⟩, ⟨⟨2, 0, 1, 2, 0⟩, .pr (.lt 97) (.lt 98)⟩, ⟨⟨3, 0, 3, 0, 3⟩, .pw (.pr (.lt 97) (.lt 98)) 3⟩, ⟨⟨2, 0, 4, 1, 0⟩, .pr (.pw (.pr (.lt 97) (.lt 98)) 3) (.lt 97)⟩]
theorem gX_chk : chk 1 gX = 0 := by decide
theorem gX_rul : ∀ i, i < gX.length → okR (gX.getD i rul0) (i + 1) := fun i hi => by
  have := (chk_zero.1 gX_chk) i hi
  rwa [show (1 : Int) + (i : Int) = i + 1 by omega] at this
theorem gX_let : ∀ i, i < gX.length → 0 ≤ (gX.getD i rul0).l ∧ (gX.getD i rul0).l < 256 := by decide
theorem gX_gram : Gram gX := ⟨gX_rul, gX_let, by decide⟩
theorem gX_imp : stImp ⟨10, []⟩ [0] gX = some (⟨10, eX⟩, [0, 1, 2, 3, 4, 5]) := by rfl
theorem gX_wf : WF ⟨10, eX⟩ := by
  obtain ⟨S, to, h1, h2, _⟩ := stImp_ok (g := gX) (WF.new 10 (by decide)) (Rel.start _) (fun i hi => by
    have := gX_rul i hi
    rwa [show (([] : List Tm).length : Int) + 1 + (i : Int) = i + 1 by simp; omega]) gX_let (by decide) (by decide)
  rw [gX_imp] at h1
  simp only [Option.some.injEq, Prod.mk.injEq] at h1
  rw [h1.1]; exact h2
theorem gX_path : pathL eX 5 5 = [5, 4, 3, 2] := by
  rw [pathL, if_neg (by decide), if_neg (by decide), if_pos (by decide), dif_pos (by decide)]
  rw [pathL, if_neg (by decide), if_pos (by decide), dif_pos (by decide)]
  rw [pathL, if_neg (by decide), if_neg (by decide), if_neg (by decide), dif_pos (by decide)]
  rw [pathL, if_pos (by decide)]
  rfl
theorem gX_sub : sub (tm eX 5).txt 2 3 = [97, 98, 97] := by decide
theorem calls_awake16 (w : World) : Calls Try.prog fn_evergreenlaw16_awake #[] w fun e w' => e = .returned (.bool true) ∧ Ext w w' := by
  refine pure_call [] w ok_evergreenlaw16_awake (by simp) ?_
  have c1 := fun w => calls_New 10 77 w
  rw [show clipS 10 = 10 from rfl] at c1
  have c2 := fun b key fp w hR a c hin => calls_Import b ⟨10, []⟩ (WF.new 10 (by decide)) gX gX_gram ⟨10, eX⟩ _ gX_imp (by decide) a c key fp w hR hin
  have hl : gX.length = 5 := rfl
  rw [hl, show ([0, 1, 2, 3, 4, 5] : List Int).getD 5 0 = 5 from rfl] at c2
  have hk : known ⟨10, eX⟩ 5 := by decide
  have c3 := fun b key fp w h => calls_Extract b ⟨10, eX⟩ gX_wf 5 2 3 hk (by decide) (by decide) key fp w h
  have c4 := fun b key fp w h => calls_Path b ⟨10, eX⟩ gX_wf 5 5 hk (by decide) (by decide) key fp w h
  rw [gX_sub] at c3
  rw [show (5 : Int).toNat = 5 from rfl, gX_path] at c4
  have c5 := fun a a' c c' w h h' => calls_IDs [5, 4, 3, 2] a a' c c' (by decide) w h h'
  (repeat' ((conv => whnf); first | (refine CallK_new (fun w hR => c1 w) ?_; rintro _ _ ⟨bn, fpn, rfl, rfl⟩; refine ⟨.v _, rfl, ?_⟩) | (refine CallK_pack (key := 77) rfl (fun w hR h0 => c2 _ _ _ _ h0 _ _ (In.beside (key := 18) hR rfl)) ?_; rintro _ _ ⟨rfl, fp', rfl⟩; refine ⟨.v _, rfl, ?_⟩) | (refine CallK_pack (key := 77) rfl (fun w hR h0 => c3 _ _ _ _ h0) ?_; rintro _ _ ⟨a6, k6, fp', rfl, rfl⟩; refine ⟨.v _, rfl, ?_⟩) | (refine CallK_pack (key := 77) rfl (fun w hR h0 => c4 _ _ _ _ h0) ?_; rintro _ _ ⟨a5, k5, fp', rfl, rfl⟩; refine ⟨.v _, rfl, ?_⟩) | refine ⟨_, rdsR 806 rfl rfl, ?_⟩ | refine ⟨[97, 98, 97], rfl, ?_⟩ | (refine CallK_pure (.v _) (fun w' hR => c5 _ _ _ _ w' (In.ownR (key := 805) hR rfl) (In.ownR (key := 51) hR rfl)) ?_) | (refine bcase_prop (fun h => ?_) (fun h => ?_) <;> try (exfalso; omega)) | (refine bcase_nprop (fun h => ?_) (fun h => ?_) <;> try (exfalso; omega)) | (refine bcase_intro (fun h => ?_) (fun h => ?_) <;> (try simp only [Bool.not_eq_true', Bool.not_eq_false', decide_eq_true_eq, decide_eq_false_iff_not, Bool.not_eq_true, Bool.not_eq_false, Decidable.not_not] at h)) | refine And.intro (by first | omega | exact rfl | assumption | exact ⟨rfl, rfl, rfl, rfl, rfl⟩ | exact ⟨rfl, rfl, rfl, rfl⟩ | exact ⟨rfl, by omega⟩ | exact oneAll_of rfl | exact ⟨rfl, oneAll_of rfl⟩ | exact Ref.refl _ | exact Thin.ref (.skip (Thin.refl _)) | exact Thin.ref (.skip (.skip (Thin.refl _))) | exact ⟨rfl, Nat.le_of_ble_eq_true rfl⟩ | ((try unfold maxLen); (try simp only [List.length_nil, List.length_cons, List.length_append]); omega) | (refine ⟨rfl, ?_⟩; (try simp only [List.length_nil, List.length_cons, List.length_append]); omega)) ?_ | intro _)); (all_goals (conv => whnf))
  all_goals exact ⟨rfl⟩
end Go.Proofs.Ytohlphngnhcbfaa
/- The limits of chapter 16: the program. -/
namespace Go.Proofs.Ytohlphngnhcbfaa
open Go.EG
attribute [local irreducible] CallK QCall Go.Calls
set_option linter.unusedSimpArgs false
set_option linter.unusedVariables false
set_option maxRecDepth 20000
set_option maxHeartbeats 4000000

abbrev setV (s0 s1 s2 s3 : Int) : Value := .agg #[.int .u64 s0, .int .u64 s1, .int .u64 s2, .int .u64 s3]
theorem calls_AtNil (n i : Int) (w : World) : Calls Try.prog fn_access_At #[.pointer none, .int .i64 n, .int .i64 i] w fun e w' => e = .returned (.tuple #[.int .u8 0, errV 5]) ∧ Ext w w' := by
  refine pure_call [.v (.pointer none), .v (.int .i64 n), .v (.int .i64 i)] w ok_access_At (by simp) ?_
  have c0 := calls_SWeightNil n
  (repeat' ((conv => whnf); first | (first | refine CallK_pure (.v _) (fun w hR => c0 w) ?_ | refine QCall_pure (.v _) (fun w hR => c0 w) ?_) | (refine bcase_prop (fun h => ?_) (fun h => ?_) <;> try (exfalso; omega)) | (refine bcase_nprop (fun h => ?_) (fun h => ?_) <;> try (exfalso; omega)) | (refine bcase_intro (fun h => ?_) (fun h => ?_) <;> (try simp only [Bool.not_eq_true', Bool.not_eq_false', decide_eq_true_eq, decide_eq_false_iff_not, Bool.not_eq_true, Bool.not_eq_false, Decidable.not_not] at h)) | refine And.intro (by first | omega | exact rfl | assumption | exact ⟨rfl, rfl, rfl, rfl, rfl⟩ | exact ⟨rfl, rfl, rfl, rfl⟩ | exact ⟨rfl, by omega⟩ | exact oneAll_of rfl | exact ⟨rfl, oneAll_of rfl⟩ | exact Ref.refl _ | exact Thin.ref (.skip (Thin.refl _)) | exact Thin.ref (.skip (.skip (Thin.refl _))) | exact ⟨rfl, Nat.le_of_ble_eq_true rfl⟩ | ((try unfold maxLen); (try simp only [List.length_nil, List.length_cons, List.length_append]); omega) | (refine ⟨rfl, ?_⟩; (try simp only [List.length_nil, List.length_cons, List.length_append]); omega)) ?_ | intro _)); (all_goals (conv => whnf))
  exact ⟨rfl⟩
theorem calls_ExtractNil (n i m : Int) (w : World) : Calls Try.prog fn_access_Extract #[.pointer none, .int .i64 n, .int .i64 i, .int .i64 m] w fun e w' => e = .returned (.tuple #[.slice none 0 0, errV 5]) ∧ Ext w w' := by
  refine pure_call [.v (.pointer none), .v (.int .i64 n), .v (.int .i64 i), .v (.int .i64 m)] w ok_access_Extract (by simp) ?_
  have c0 := calls_SWeightNil n
  (repeat' ((conv => whnf); first | refine ⟨.v _, ⟨rfl, trivial⟩, ?_⟩ | (first | refine CallK_pure (.v _) (fun w hR => c0 w) ?_ | refine QCall_pure (.v _) (fun w hR => c0 w) ?_) | (refine bcase_prop (fun h => ?_) (fun h => ?_) <;> try (exfalso; omega)) | (refine bcase_nprop (fun h => ?_) (fun h => ?_) <;> try (exfalso; omega)) | (refine bcase_intro (fun h => ?_) (fun h => ?_) <;> (try simp only [Bool.not_eq_true', Bool.not_eq_false', decide_eq_true_eq, decide_eq_false_iff_not, Bool.not_eq_true, Bool.not_eq_false, Decidable.not_not] at h)) | refine And.intro (by first | omega | exact rfl | assumption | exact ⟨rfl, rfl, rfl, rfl, rfl⟩ | exact ⟨rfl, rfl, rfl, rfl⟩ | exact ⟨rfl, by omega⟩ | exact oneAll_of rfl | exact ⟨rfl, oneAll_of rfl⟩ | exact Ref.refl _ | exact Thin.ref (.skip (Thin.refl _)) | exact Thin.ref (.skip (.skip (Thin.refl _))) | exact ⟨rfl, Nat.le_of_ble_eq_true rfl⟩ | ((try unfold maxLen); (try simp only [List.length_nil, List.length_cons, List.length_append]); omega) | (refine ⟨rfl, ?_⟩; (try simp only [List.length_nil, List.length_cons, List.length_append]); omega)) ?_ | intro _)); (all_goals (conv => whnf))
  exact ⟨rfl⟩
theorem calls_PathNil (n i : Int) (w : World) : Calls Try.prog fn_access_Path #[.pointer none, .int .i64 n, .int .i64 i] w fun e w' => e = .returned (.tuple #[.slice none 0 0, errV 5]) ∧ Ext w w' := by
  refine pure_call [.v (.pointer none), .v (.int .i64 n), .v (.int .i64 i)] w ok_access_Path (by simp) ?_
  have c0 := calls_SWeightNil n
  (repeat' ((conv => whnf); first | (first | refine CallK_pure (.v _) (fun w hR => c0 w) ?_ | refine QCall_pure (.v _) (fun w hR => c0 w) ?_) | (refine bcase_prop (fun h => ?_) (fun h => ?_) <;> try (exfalso; omega)) | (refine bcase_nprop (fun h => ?_) (fun h => ?_) <;> try (exfalso; omega)) | (refine bcase_intro (fun h => ?_) (fun h => ?_) <;> (try simp only [Bool.not_eq_true', Bool.not_eq_false', decide_eq_true_eq, decide_eq_false_iff_not, Bool.not_eq_true, Bool.not_eq_false, Decidable.not_not] at h)) | refine And.intro (by first | omega | exact rfl | assumption | exact ⟨rfl, rfl, rfl, rfl, rfl⟩ | exact ⟨rfl, rfl, rfl, rfl⟩ | exact ⟨rfl, by omega⟩ | exact oneAll_of rfl | exact ⟨rfl, oneAll_of rfl⟩ | exact Ref.refl _ | exact Thin.ref (.skip (Thin.refl _)) | exact Thin.ref (.skip (.skip (Thin.refl _))) | exact ⟨rfl, Nat.le_of_ble_eq_true rfl⟩ | ((try unfold maxLen); (try simp only [List.length_nil, List.length_cons, List.length_append]); omega) | (refine ⟨rfl, ?_⟩; (try simp only [List.length_nil, List.length_cons, List.length_append]); omega)) ?_ | intro _)); (all_goals (conv => whnf))
  exact ⟨rfl⟩
theorem calls_FindNil (n l i : Int) (w : World) : Calls Try.prog fn_access_Find #[.pointer none, .int .i64 n, .int .u8 l, .int .i64 i] w fun e w' => e = .returned (.tuple #[.int .i64 0, errV 5]) ∧ Ext w w' := by
  refine pure_call [.v (.pointer none), .v (.int .i64 n), .v (.int .u8 l), .v (.int .i64 i)] w ok_access_Find (by simp) ?_
  have c0 := calls_SWeightNil n
  (repeat' ((conv => whnf); first | (first | refine CallK_pure (.v _) (fun w hR => c0 w) ?_ | refine QCall_pure (.v _) (fun w hR => c0 w) ?_) | (refine bcase_prop (fun h => ?_) (fun h => ?_) <;> try (exfalso; omega)) | (refine bcase_nprop (fun h => ?_) (fun h => ?_) <;> try (exfalso; omega)) | (refine bcase_intro (fun h => ?_) (fun h => ?_) <;> (try simp only [Bool.not_eq_true', Bool.not_eq_false', decide_eq_true_eq, decide_eq_false_iff_not, Bool.not_eq_true, Bool.not_eq_false, Decidable.not_not] at h)) | refine And.intro (by first | omega | exact rfl | assumption | exact ⟨rfl, rfl, rfl, rfl, rfl⟩ | exact ⟨rfl, rfl, rfl, rfl⟩ | exact ⟨rfl, by omega⟩ | exact oneAll_of rfl | exact ⟨rfl, oneAll_of rfl⟩ | exact Ref.refl _ | exact Thin.ref (.skip (Thin.refl _)) | exact Thin.ref (.skip (.skip (Thin.refl _))) | exact ⟨rfl, Nat.le_of_ble_eq_true rfl⟩ | ((try unfold maxLen); (try simp only [List.length_nil, List.length_cons, List.length_append]); omega) | (refine ⟨rfl, ?_⟩; (try simp only [List.length_nil, List.length_cons, List.length_append]); omega)) ?_ | intro _)); (all_goals (conv => whnf))
  exact ⟨rfl⟩
theorem calls_CountNil (n s0 s1 s2 s3 i m : Int) (w : World) : Calls Try.prog fn_access_Count #[.pointer none, .int .i64 n, setV s0 s1 s2 s3, .int .i64 i, .int .i64 m] w fun e w' => e = .returned (.tuple #[.int .i64 0, errV 5]) ∧ Ext w w' := by
  refine pure_call [.v (.pointer none), .v (.int .i64 n), .v (setV s0 s1 s2 s3), .v (.int .i64 i), .v (.int .i64 m)] w ok_access_Count (by simp) ?_
  have c0 := calls_SWeightNil n
  (repeat' ((conv => whnf); first | (first | refine CallK_pure (.v _) (fun w hR => c0 w) ?_ | refine QCall_pure (.v _) (fun w hR => c0 w) ?_) | (refine bcase_prop (fun h => ?_) (fun h => ?_) <;> try (exfalso; omega)) | (refine bcase_nprop (fun h => ?_) (fun h => ?_) <;> try (exfalso; omega)) | (refine bcase_intro (fun h => ?_) (fun h => ?_) <;> (try simp only [Bool.not_eq_true', Bool.not_eq_false', decide_eq_true_eq, decide_eq_false_iff_not, Bool.not_eq_true, Bool.not_eq_false, Decidable.not_not] at h)) | refine And.intro (by first | omega | exact rfl | assumption | exact ⟨rfl, rfl, rfl, rfl, rfl⟩ | exact ⟨rfl, rfl, rfl, rfl⟩ | exact ⟨rfl, by omega⟩ | exact oneAll_of rfl | exact ⟨rfl, oneAll_of rfl⟩ | exact Ref.refl _ | exact Thin.ref (.skip (Thin.refl _)) | exact Thin.ref (.skip (.skip (Thin.refl _))) | exact ⟨rfl, Nat.le_of_ble_eq_true rfl⟩ | ((try unfold maxLen); (try simp only [List.length_nil, List.length_cons, List.length_append]); omega) | (refine ⟨rfl, ?_⟩; (try simp only [List.length_nil, List.length_cons, List.length_append]); omega)) ?_ | intro _)); (all_goals (conv => whnf))
  exact ⟨rfl⟩
theorem wtRes_bad {S : Sto} {n : Int} (h : ¬ known S n) : wtRes S n = .tuple #[wt0, errV 1] := if_neg h
theorem calls_ExtractUnk (b : Nat) (S : Sto) (hw : WF S) (n i m : Int) (hk : ¬ known S n) : SC fn_access_Extract #[pS b, .int .i64 n, .int .i64 i, .int .i64 m] b S S (.tuple #[.slice none 0 0, errV 1]) := by
  intro key fp w hR
  refine part_call [.v (pS b), .v (.int .i64 n), .v (.int .i64 i), .v (.int .i64 m)] ok_access_Extract (by simp) (hR.key 77) ?_
  have c0 := calls_SWeight b S n hw.small
  rw [wtRes_bad hk] at c0
  (repeat' ((conv => whnf); first | refine ⟨.v _, ⟨rfl, trivial⟩, ?_⟩ | (refine CallK_pack (key := 77) rfl (fun w hR h0 => c0 _ _ _ h0) ?_; rintro _ _ ⟨rfl, fp', rfl⟩; refine ⟨.v _, rfl, ?_⟩) | (refine bcase_prop (fun h => ?_) (fun h => ?_) <;> try (exfalso; omega)) | (refine bcase_nprop (fun h => ?_) (fun h => ?_) <;> try (exfalso; omega)) | (refine bcase_intro (fun h => ?_) (fun h => ?_) <;> (try simp only [Bool.not_eq_true', Bool.not_eq_false', decide_eq_true_eq, decide_eq_false_iff_not, Bool.not_eq_true, Bool.not_eq_false, Decidable.not_not] at h)) | refine And.intro (by first | omega | exact rfl | assumption | exact ⟨rfl, rfl, rfl, rfl, rfl⟩ | exact ⟨rfl, rfl, rfl, rfl⟩ | exact ⟨rfl, by omega⟩ | exact oneAll_of rfl | exact ⟨rfl, oneAll_of rfl⟩ | exact Ref.refl _ | exact Thin.ref (.skip (Thin.refl _)) | exact Thin.ref (.skip (.skip (Thin.refl _))) | exact ⟨rfl, Nat.le_of_ble_eq_true rfl⟩ | ((try unfold maxLen); (try simp only [List.length_nil, List.length_cons, List.length_append]); omega) | (refine ⟨rfl, ?_⟩; (try simp only [List.length_nil, List.length_cons, List.length_append]); omega)) ?_ | intro _)); (all_goals (conv => whnf))
  exact ⟨endP (by (repeat (first | exact Thin.nil _ | exact Thin.refl _ | refine Thin.keep rfl (fun _ h => h) ?_ | refine Thin.skip ?_))) rfl⟩
theorem calls_ExtractLarge (b : Nat) (S : Sto) (hw : WF S) (n : Int) (i m : Nat) (hk : known S n) (hi : i + m ≤ (tm S.E n).len) (hm : 65536 < m) : SC fn_access_Extract #[pS b, .int .i64 n, .int .i64 i, .int .i64 m] b S S (.tuple #[.slice none 0 0, errV 9]) := by
  intro key fp w hR
  refine part_call [.v (pS b), .v (.int .i64 n), .v (.int .i64 i), .v (.int .i64 m)] ok_access_Extract (by simp) (hR.key 77) ?_
  have c0 := calls_SWeight b S n hw.small
  rw [wtRes_ok hk] at c0
  have c1 := calls_lRange i m (tm S.E n).txt.length (hw.le hk.2)
  unfold rangeRes at c1
  unfold Tm.len at hi
  rw [if_pos ⟨by omega, by omega, by omega, by omega⟩] at c1
  (repeat' ((conv => whnf); first | refine ⟨.v _, ⟨rfl, trivial⟩, ?_⟩ | (refine CallK_pack (key := 77) rfl (fun w hR h0 => c0 _ _ _ h0) ?_; rintro _ _ ⟨rfl, fp', rfl⟩; refine ⟨.v _, rfl, ?_⟩) | (first | refine CallK_pure (.v _) (fun w hR => c1 w) ?_ | refine QCall_pure (.v _) (fun w hR => c1 w) ?_) | (refine bcase_prop (fun h => ?_) (fun h => ?_) <;> try (exfalso; omega)) | (refine bcase_nprop (fun h => ?_) (fun h => ?_) <;> try (exfalso; omega)) | (refine bcase_intro (fun h => ?_) (fun h => ?_) <;> (try simp only [Bool.not_eq_true', Bool.not_eq_false', decide_eq_true_eq, decide_eq_false_iff_not, Bool.not_eq_true, Bool.not_eq_false, Decidable.not_not] at h)) | refine And.intro (by first | omega | exact rfl | assumption | exact ⟨rfl, rfl, rfl, rfl, rfl⟩ | exact ⟨rfl, rfl, rfl, rfl⟩ | exact ⟨rfl, by omega⟩ | exact oneAll_of rfl | exact ⟨rfl, oneAll_of rfl⟩ | exact Ref.refl _ | exact Thin.ref (.skip (Thin.refl _)) | exact Thin.ref (.skip (.skip (Thin.refl _))) | exact ⟨rfl, Nat.le_of_ble_eq_true rfl⟩ | ((try unfold maxLen); (try simp only [List.length_nil, List.length_cons, List.length_append]); omega) | (refine ⟨rfl, ?_⟩; (try simp only [List.length_nil, List.length_cons, List.length_append]); omega)) ?_ | intro _)); (all_goals (conv => whnf))
  all_goals first | (exfalso; omega) | exact ⟨endP (by (repeat (first | exact Thin.nil _ | exact Thin.refl _ | refine Thin.keep rfl (fun _ h => h) ?_ | refine Thin.skip ?_))) rfl⟩
theorem calls_PathUnk (b : Nat) (S : Sto) (hw : WF S) (n i : Int) (hk : ¬ known S n) : SC fn_access_Path #[pS b, .int .i64 n, .int .i64 i] b S S (.tuple #[.slice none 0 0, errV 1]) := by
  intro key fp w hR
  refine part_call [.v (pS b), .v (.int .i64 n), .v (.int .i64 i)] ok_access_Path (by simp) (hR.key 77) ?_
  have c0 := calls_SWeight b S n hw.small
  rw [wtRes_bad hk] at c0
  (repeat' ((conv => whnf); first | (refine CallK_pack (key := 77) rfl (fun w hR h0 => c0 _ _ _ h0) ?_; rintro _ _ ⟨rfl, fp', rfl⟩; refine ⟨.v _, rfl, ?_⟩) | (refine bcase_prop (fun h => ?_) (fun h => ?_) <;> try (exfalso; omega)) | (refine bcase_nprop (fun h => ?_) (fun h => ?_) <;> try (exfalso; omega)) | (refine bcase_intro (fun h => ?_) (fun h => ?_) <;> (try simp only [Bool.not_eq_true', Bool.not_eq_false', decide_eq_true_eq, decide_eq_false_iff_not, Bool.not_eq_true, Bool.not_eq_false, Decidable.not_not] at h)) | refine And.intro (by first | omega | exact rfl | assumption | exact ⟨rfl, rfl, rfl, rfl, rfl⟩ | exact ⟨rfl, rfl, rfl, rfl⟩ | exact ⟨rfl, by omega⟩ | exact oneAll_of rfl | exact ⟨rfl, oneAll_of rfl⟩ | exact Ref.refl _ | exact Thin.ref (.skip (Thin.refl _)) | exact Thin.ref (.skip (.skip (Thin.refl _))) | exact ⟨rfl, Nat.le_of_ble_eq_true rfl⟩ | ((try unfold maxLen); (try simp only [List.length_nil, List.length_cons, List.length_append]); omega) | (refine ⟨rfl, ?_⟩; (try simp only [List.length_nil, List.length_cons, List.length_append]); omega)) ?_ | intro _)); (all_goals (conv => whnf))
  exact ⟨endP (by (repeat (first | exact Thin.nil _ | exact Thin.refl _ | refine Thin.keep rfl (fun _ h => h) ?_ | refine Thin.skip ?_))) rfl⟩
theorem calls_FindUnk (b : Nat) (S : Sto) (hw : WF S) (n l i : Int) (hk : ¬ known S n) : SC fn_access_Find #[pS b, .int .i64 n, .int .u8 l, .int .i64 i] b S S (.tuple #[.int .i64 0, errV 1]) := by
  intro key fp w hR
  refine part_call [.v (pS b), .v (.int .i64 n), .v (.int .u8 l), .v (.int .i64 i)] ok_access_Find (by simp) (hR.key 77) ?_
  have c0 := calls_SWeight b S n hw.small
  rw [wtRes_bad hk] at c0
  (repeat' ((conv => whnf); first | (refine CallK_pack (key := 77) rfl (fun w hR h0 => c0 _ _ _ h0) ?_; rintro _ _ ⟨rfl, fp', rfl⟩; refine ⟨.v _, rfl, ?_⟩) | (refine bcase_prop (fun h => ?_) (fun h => ?_) <;> try (exfalso; omega)) | (refine bcase_nprop (fun h => ?_) (fun h => ?_) <;> try (exfalso; omega)) | (refine bcase_intro (fun h => ?_) (fun h => ?_) <;> (try simp only [Bool.not_eq_true', Bool.not_eq_false', decide_eq_true_eq, decide_eq_false_iff_not, Bool.not_eq_true, Bool.not_eq_false, Decidable.not_not] at h)) | refine And.intro (by first | omega | exact rfl | assumption | exact ⟨rfl, rfl, rfl, rfl, rfl⟩ | exact ⟨rfl, rfl, rfl, rfl⟩ | exact ⟨rfl, by omega⟩ | exact oneAll_of rfl | exact ⟨rfl, oneAll_of rfl⟩ | exact Ref.refl _ | exact Thin.ref (.skip (Thin.refl _)) | exact Thin.ref (.skip (.skip (Thin.refl _))) | exact ⟨rfl, Nat.le_of_ble_eq_true rfl⟩ | ((try unfold maxLen); (try simp only [List.length_nil, List.length_cons, List.length_append]); omega) | (refine ⟨rfl, ?_⟩; (try simp only [List.length_nil, List.length_cons, List.length_append]); omega)) ?_ | intro _)); (all_goals (conv => whnf))
  exact ⟨endP (by (repeat (first | exact Thin.nil _ | exact Thin.refl _ | refine Thin.keep rfl (fun _ h => h) ?_ | refine Thin.skip ?_))) rfl⟩
theorem calls_CountUnk (b : Nat) (S : Sto) (hw : WF S) (n s0 s1 s2 s3 i m : Int) (hk : ¬ known S n) : SC fn_access_Count #[pS b, .int .i64 n, setV s0 s1 s2 s3, .int .i64 i, .int .i64 m] b S S (.tuple #[.int .i64 0, errV 1]) := by
  intro key fp w hR
  refine part_call [.v (pS b), .v (.int .i64 n), .v (setV s0 s1 s2 s3), .v (.int .i64 i), .v (.int .i64 m)] ok_access_Count (by simp) (hR.key 77) ?_
  have c0 := calls_SWeight b S n hw.small
  rw [wtRes_bad hk] at c0
  (repeat' ((conv => whnf); first | (refine CallK_pack (key := 77) rfl (fun w hR h0 => c0 _ _ _ h0) ?_; rintro _ _ ⟨rfl, fp', rfl⟩; refine ⟨.v _, rfl, ?_⟩) | (refine bcase_prop (fun h => ?_) (fun h => ?_) <;> try (exfalso; omega)) | (refine bcase_nprop (fun h => ?_) (fun h => ?_) <;> try (exfalso; omega)) | (refine bcase_intro (fun h => ?_) (fun h => ?_) <;> (try simp only [Bool.not_eq_true', Bool.not_eq_false', decide_eq_true_eq, decide_eq_false_iff_not, Bool.not_eq_true, Bool.not_eq_false, Decidable.not_not] at h)) | refine And.intro (by first | omega | exact rfl | assumption | exact ⟨rfl, rfl, rfl, rfl, rfl⟩ | exact ⟨rfl, rfl, rfl, rfl⟩ | exact ⟨rfl, by omega⟩ | exact oneAll_of rfl | exact ⟨rfl, oneAll_of rfl⟩ | exact Ref.refl _ | exact Thin.ref (.skip (Thin.refl _)) | exact Thin.ref (.skip (.skip (Thin.refl _))) | exact ⟨rfl, Nat.le_of_ble_eq_true rfl⟩ | ((try unfold maxLen); (try simp only [List.length_nil, List.length_cons, List.length_append]); omega) | (refine ⟨rfl, ?_⟩; (try simp only [List.length_nil, List.length_cons, List.length_append]); omega)) ?_ | intro _)); (all_goals (conv => whnf))
  exact ⟨endP (by (repeat (first | exact Thin.nil _ | exact Thin.refl _ | refine Thin.keep rfl (fun _ h => h) ?_ | refine Thin.skip ?_))) rfl⟩

/-! ### A letter, as often as there may be letters -/

def sL1 : Sto := ⟨5, [⟨letR 97, .lt 97⟩]⟩
def sL2 : Sto := ⟨5, [⟨letR 97, .lt 97⟩, ⟨powR 1 1152921504606846976, .pw (.lt 97) 1152921504606846976⟩]⟩
theorem put1 : stPut ⟨5, []⟩ (letR 97) = (sL1, 1, 0) := by rfl
theorem wf1 : WF sL1 := by
  have := (stPut_spec (WF.new 5 (by decide)) (fit_let ⟨5, []⟩ (l := 97) (by decide))).1
  rw [put1] at this
  exact this
theorem len1 : (tm sL1.E 1).len = 1 := rfl
theorem put2 : stPut sL1 (powR 1 1152921504606846976) = (sL2, 2, 0) := by rfl
theorem pow2 : stPower sL1 1 1152921504606846976 = (sL2, 2, 0) := by
  unfold stPower
  rw [if_neg (by rintro (h | h); exact h ⟨by decide, by decide⟩; omega), if_neg (by omega), if_neg (by omega), len1, if_neg (by show ¬ LM < 1 * (1152921504606846976 : Int).toNat; unfold LM; omega), put2]
theorem wf2 : WF sL2 := by
  have := (stPut_spec wf1 (fit_pow (S := sL1) (i := 1) (k := 1152921504606846976) (by decide) (by decide) (by decide) (by rw [len1]; unfold LM; omega))).1
  rw [put2] at this
  exact this
theorem known2 : known sL2 2 := ⟨by decide, by decide⟩
theorem tm2 : tm sL2.E 2 = .pw (.lt 97) 1152921504606846976 := rfl
theorem rep_single (k : Nat) : rep k [97] = List.replicate k 97 := by
  induction k with
  | zero => rfl
  | succ k ih => rw [rep_succ, ih]; rfl
theorem len2 : (tm sL2.E 2).len = 1152921504606846976 := by rw [tm2, Tm.len_pw]; show _ * 1 = _; omega
theorem sub2 (i m : Nat) (h : i + m ≤ 1152921504606846976) : sub (tm sL2.E 2).txt i m = List.replicate m 97 := by
  rw [tm2]
  simp only [Tm.txt]
  rw [rep_single]
  unfold sub
  rw [List.drop_replicate, List.take_replicate]
  congr 1; omega
end Go.Proofs.Ytohlphngnhcbfaa
