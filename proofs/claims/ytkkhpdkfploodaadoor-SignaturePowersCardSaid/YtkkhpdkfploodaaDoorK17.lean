/- The level of a signature, and sequences around it: the program. -/
import Derived.Test.YtkkhpdkfploodaaDoorK15
import Derived.Test.YtkkhpdkfploodaaDoorK16
import Derived.Test.YtkkhpdkfploodaaDoorK5
namespace Go.Proofs.YtkkhpdkfploodaaDoor
open Go.EG
attribute [local irreducible] CallK QCall Go.Calls
set_option linter.unusedSimpArgs false
set_option linter.unusedVariables false
set_option maxRecDepth 20000
set_option maxHeartbeats 4000000

theorem levRes_sig {S : Sto} {x : Int} (h1 : 1 ≤ x) (h2 : x ≤ S.E.length) {L : Nat} (h : (tm S.E x).level = L) : levRes S x = .tuple #[.int .i64 L, .nilIface] := by
  unfold levRes
  rw [if_pos ⟨h1, h2⟩, if_neg (by omega), h]
end Go.Proofs.YtkkhpdkfploodaaDoor
/- Groups 246 levels on: the program. -/
namespace Go.Proofs.YtkkhpdkfploodaaDoor
open Go.EG
attribute [local irreducible] CallK QCall Go.Calls
set_option linter.unusedSimpArgs false
set_option linter.unusedVariables false
set_option maxRecDepth 20000
set_option maxHeartbeats 4000000

end Go.Proofs.YtkkhpdkfploodaaDoor
/- Rules that are there. Plain Lean: no program in sight. -/
namespace Go.Proofs.YtkkhpdkfploodaaDoor
open Go.EG
set_option linter.unusedSimpArgs false
set_option linter.unusedVariables false

end Go.Proofs.YtkkhpdkfploodaaDoor
/- One level after the other: the program. -/
namespace Go.Proofs.YtkkhpdkfploodaaDoor
open Go.EG
attribute [local irreducible] CallK QCall Go.Calls
set_option linter.unusedSimpArgs false
set_option linter.unusedVariables false
set_option maxRecDepth 20000
set_option maxHeartbeats 4000000

/-! ### A pair level -/

structure PdG where
  i : Nat
  at_ : Nat
  f1 : List Nat
  f2 : List Nat
end Go.Proofs.YtkkhpdkfploodaaDoor
/- Each sequence follows from the one below: the program. -/
namespace Go.Proofs.YtkkhpdkfploodaaDoor
open Go.EG
attribute [local irreducible] CallK QCall Go.Calls
set_option linter.unusedSimpArgs false
set_option linter.unusedVariables false
set_option maxRecDepth 20000
set_option maxHeartbeats 4000000

theorem gl_ones {S : Sto} {gl : List (Int × Int)} (hg : Gok S gl) {ts : List Tm} (h : gl.map (grT S) = ts.map fun m => (m, 1)) : gl = (gl.map (·.1)).map (fun x => (x, 1)) ∧ (gl.map (·.1)).map (tm S.E) = ts := by
  have h2 := congrArg (List.map Prod.fst) h
  rw [List.map_map, List.map_map] at h2
  refine ⟨?_, ?_⟩
  · rw [List.map_map]
    conv => lhs; rw [← List.map_id gl]
    refine List.map_congr_left fun g hgm => ?_
    have h3 : grT S g ∈ ts.map fun m => (m, 1) := by rw [← h]; exact List.mem_map.2 ⟨g, hgm, rfl⟩
    obtain ⟨m, _, hm⟩ := List.mem_map.1 h3
    have h4 := (hg.ok g hgm).2
    simp only [grT, Prod.mk.injEq] at hm
    obtain ⟨y, u⟩ := g
    simp only [id, Function.comp_apply, Prod.mk.injEq, true_and]
    simp only at hm h4
    omega
  · rw [List.map_map]
    have e : (Prod.fst ∘ fun m : Tm => (m, 1)) = id := rfl
    rw [e, List.map_id] at h2
    exact h2
structure StO where
  i : Nat
  a : Option Addr
  c : Nat
structure StK where
  k : Nat
  a : Option Addr
  c : Nat
end Go.Proofs.YtkkhpdkfploodaaDoor
/- A pair of letters, many times. Plain Lean: no program in sight. -/
namespace Go.Proofs.YtkkhpdkfploodaaDoor
open Go.EG
set_option linter.unusedSimpArgs false
set_option linter.unusedVariables false

def altT (a b : Tm) (k : Nat) : List Tm := (List.replicate k [a, b]).flatten
theorem altT_len (a b : Tm) (k : Nat) : (altT a b k).length = 2 * k := by
  unfold altT
  rw [List.length_flatten, List.map_replicate, List.sum_replicate_nat]
  simp only [List.length_cons, List.length_nil]
  omega
theorem altT_at (a b : Tm) : ∀ (k i : Nat), i < 2 * k → (altT a b k).getD i .nil = if i % 2 = 0 then a else b
  | 0, i, h => by omega
  | k + 1, i, h => by
    have e : altT a b (k + 1) = a :: b :: altT a b k := by simp [altT, List.replicate_succ]
    rw [e]
    match i with
    | 0 => rfl
    | 1 => rfl
    | i + 2 =>
      rw [List.getD_cons_succ, List.getD_cons_succ, altT_at a b k i (by omega)]
      have : (i + 2) % 2 = i % 2 := by omega
      rw [this]
theorem altT_runs {a b : Tm} (h : a ≠ b) (k : Nat) : runsT (altT a b k) = (altT a b k).map fun m => (m, 1) := by
  refine runsT_apart fun u c v e => ?_
  have hl := congrArg List.length e
  rw [altT_len, List.length_append, List.length_cons, List.length_cons] at hl
  have h1 := altT_at a b k u.length (by omega)
  have h2 := altT_at a b k (u.length + 1) (by omega)
  rw [e, List.getD_eq_getElem?_getD, List.getElem?_append_right (Nat.le_refl _), Nat.sub_self] at h1
  rw [e, List.getD_eq_getElem?_getD, List.getElem?_append_right (by omega), Nat.add_sub_cancel_left] at h2
  simp only [List.getElem?_cons_zero, List.getElem?_cons_succ, Option.getD_some] at h1 h2
  by_cases hp : u.length % 2 = 0
  · rw [if_pos hp] at h1
    rw [if_neg (by omega)] at h2
    exact h (h1.symm.trans h2)
  · rw [if_neg hp] at h1
    rw [if_pos (by omega)] at h2
    exact h (h2.symm.trans h1)
/-- The level of a pair of letters. -/
theorem pr_level {p q : Nat} (h : p ≠ q) : ∃ A : Int, (Tm.pr (.lt p) (.lt q)).level = A ∧ 2 ≤ A ∧ A % 2 = 0 ∧ A ≤ 246 := by
  have hne := after_found (low := ((0 : Nat) : Int)) (x := (Tm.lt p).key) (y := (Tm.lt q).key) (by omega) (Nat.lt_of_lt_of_le (Tm.lt p).key_lt (by decide)) (Nat.lt_of_lt_of_le (Tm.lt q).key_lt (by decide))
  have hok := after_ok 0 (Tm.lt p).key (Tm.lt q).key
  obtain ⟨f1, f2, f3⟩ : ((0 : Nat) : Int) < afterF ((0 : Nat) : Int) (Tm.lt p).key (Tm.lt q).key ∧ afterF ((0 : Nat) : Int) (Tm.lt p).key (Tm.lt q).key ≤ ((0 : Nat) : Int) + 246 ∧ fitsF (Tm.lt p).key (Tm.lt q).key (afterF ((0 : Nat) : Int) (Tm.lt p).key (Tm.lt q).key) = true := by
    have := hok.some (by omega)
    exact ⟨this.1, this.2.1, this.2.2.1⟩
  have hev : evenF (afterF ((0 : Nat) : Int) (Tm.lt p).key (Tm.lt q).key) = true := by
    unfold fitsF at f3
    exact (Bool.and_eq_true_iff.1 f3).1
  have hev2 : 2 ≤ afterF ((0 : Nat) : Int) (Tm.lt p).key (Tm.lt q).key ∧ afterF ((0 : Nat) : Int) (Tm.lt p).key (Tm.lt q).key % 2 = 0 := by unfold evenF at hev; simpa using hev
  refine ⟨afterF ((0 : Nat) : Int) (Tm.lt p).key (Tm.lt q).key, ?_, hev2.1, hev2.2, by omega⟩
  rw [Tm.level, if_pos ⟨fun e => h (by injection e), by simp [Tm.level], by simp [Tm.level]⟩]
  rfl
theorem pw_level {p q k : Nat} {A : Int} (h : (Tm.pr (.lt p) (.lt q)).level = A) (h1 : 2 ≤ A) (h2 : A % 2 = 0) : (Tm.pw (.pr (.lt p) (.lt q)) k).level = A + 1 := by
  rw [Tm.level, h, if_pos ⟨by omega, h2⟩]
theorem pw_exp1 {p q k : Nat} {A : Int} (h : (Tm.pr (.lt p) (.lt q)).level = A) (h1 : 2 ≤ A) (h2 : A % 2 = 0) : expT A (.pw (.pr (.lt p) (.lt q)) k) = List.replicate k (.pr (.lt p) (.lt q)) := by
  rw [expT, if_neg (by rw [pw_level h h1 h2]; omega), expT, if_pos (by rw [h]; omega), flatten_ones]
theorem pw_exp2 {p q k : Nat} {A : Int} (h : (Tm.pr (.lt p) (.lt q)).level = A) (h1 : 2 ≤ A) (h2 : A % 2 = 0) : expT (A - 1) (.pw (.pr (.lt p) (.lt q)) k) = altT (.lt p) (.lt q) k := by
  rw [expT, if_neg (by rw [pw_level h h1 h2]; omega), expT, if_neg (by rw [h]; omega), expT, expT]
  rfl
end Go.Proofs.YtkkhpdkfploodaaDoor
/- The sequences of a power of a pair of letters: the program. -/
namespace Go.Proofs.YtkkhpdkfploodaaDoor
open Go.EG
attribute [local irreducible] CallK QCall Go.Calls
set_option linter.unusedSimpArgs false
set_option linter.unusedVariables false
set_option maxRecDepth 20000
set_option maxHeartbeats 4000000

def sqN (key bp bt bs : Nat) (S : Sto) (level : Int) (id : Int) (v : Value) (L1 : List Ent) : Prop :=
  ∃ g1 g2, (∃ gl a c, Gok S gl ∧ gl.map (grT S) = runsT (expT level (tm S.E id)) ∧ gl.length ≤ 65536 ∧ (0 < gl.length → a ≠ none) ∧ v = .tuple #[.slice a gl.length c, .nilIface] ∧ L1 = fP bp bt bs S g1 g2 ++ [.own key a gl.length c ty_api_Group 2 (prs .i64 gl)]) ∨
    (65536 < (runsT (expT level (tm S.E id))).length ∧ v = .tuple #[.slice none 0 0, errV 9] ∧ L1 = fP bp bt bs S g1 g2)
theorem calls_SeqN (key bp bt bs : Nat) (S : Sto) (hw : WF S) (id level : Int) (h1 : 1 ≤ id) (h2 : id ≤ S.E.length) (hl : 0 ≤ level) (hf : Lvd (tm S.E id)) (f1 f2 fp : List Nat) (w : World) (hR : R w fp (fP bp bt bs S f1 f2) w) (hG : TabF w fp) :
    Calls Tryd.prog fn_P_signature_Parser_Sequence #[pS bp, .int .i64 id, .int .i64 level] w fun e w' => ∃ v L1, e = .returned v ∧ R w fp L1 w' ∧ sqN key bp bt bs S level id v L1 := by
  refine (calls_Seq bp bt bs S hw id level h1 h2 hl hf f1 f2 fp w hR hG).mono fun e w' ⟨v, L1, he, hR', g1, g2, h⟩ => ?_
  rcases h with ⟨gl, a, c, k1, k2, k3, hv, hL⟩ | ⟨k1, hv, hL⟩
  · subst hL
    have hne := fun h => own_ne hR' (key := 860) rfl h
    exact ⟨v, _, he, Ref.takes [78, 77, 3000, 860] rfl (.keep rfl (fun _ h => h) (.keep rfl (fun _ h => h) (.keep rfl (fun _ h => h) (.own rfl rfl (.nil _))))) w' hR', g1, g2, .inl ⟨gl, a, c, k1, k2, k3, hne, hv, rfl⟩⟩
  · subst hL
    exact ⟨v, _, he, hR', g1, g2, .inr ⟨k1, hv, rfl⟩⟩
theorem gl_pow {S : Sto} (hw : WF S) {gl : List (Int × Int)} (hg : Gok S gl) {x : Int} {K : Nat} {m : Tm} (h1 : 1 ≤ x) (h2 : x ≤ S.E.length) (hm : tm S.E x = m) (h : gl.map (grT S) = [(m, K)]) : gl = [(x, (K : Int))] := by
  subst hm
  obtain ⟨g, r, rfl, e1, e2⟩ := List.map_eq_cons_iff.1 h
  have hr := List.map_eq_nil_iff.1 e2
  subst hr
  obtain ⟨y, u⟩ := g
  have hy := hg.ok (y, u) (by simp)
  simp only [grT, Prod.mk.injEq] at e1 hy
  have := (hw.inj_iff hy.1.1 hy.1.2 h1 h2).1 e1.1
  have hu : u = (K : Int) := by omega
  rw [this, hu]
theorem andR_k (k0 : Int) : ∃ n : Nat, andR .i64 (k0 / ((2 ^ Int.toNat 3 : Nat) : Int)) 2305843009213693951 = (n : Int) ∧ n < 2305843009213693952 := by
  unfold andR
  have e : (BitVec.ofInt (IntKind.bits .i64) 2305843009213693951).toNat = 2305843009213693951 := by decide
  generalize hm : (BitVec.ofInt (IntKind.bits .i64) (k0 / ((2 ^ Int.toNat 3 : Nat) : Int)) &&& BitVec.ofInt (IntKind.bits .i64) 2305843009213693951).toNat = m
  have hlt : m < 2305843009213693952 := by
    rw [← hm, BitVec.toNat_and, e]
    exact Nat.and_lt_two_pow (n := 61) _ (by decide)
  refine ⟨m, ?_, hlt⟩
  exact wrap_fits (k := .i64) (by omega) (by simp only [hiK]; omega)
theorem law_SignaturePowers (w : World) (hG : TabF w []) (p q : Nat) (hp : p < 256) (hq : q < 256) (k0 : Int) (hk0 : -9223372036854775808 ≤ k0 ∧ k0 ≤ 9223372036854775807) :
    Calls Tryd.prog fn_evergreenlaw22_SignaturePowers #[.int .u8 p, .int .u8 q, .int .i64 k0] w fun e w' => e = .returned (.bool true) ∧ Ext w w' := by
  refine pure_call [.v (.int .u8 p), .v (.int .u8 q), .v (.int .i64 k0)] w ok_evergreenlaw22_SignaturePowers (by simp) ?_
  have c0 := fun w h => calls_awake22 w h
  by_cases hpq : p = q
  · (repeat' ((conv => whnf); first | (refine CallK_pure (.v _) (fun w hR => c0 w (hG.cast hR (by simp))) ?_) | (refine bcase_prop (fun h => ?_) (fun h => ?_) <;> try (exfalso; omega)) | (refine bcase_nprop (fun h => ?_) (fun h => ?_) <;> try (exfalso; omega)) | (refine bcase_intro (fun h => ?_) (fun h => ?_) <;> (try simp only [Bool.not_eq_true', Bool.not_eq_false', decide_eq_true_eq, decide_eq_false_iff_not, Bool.not_eq_true, Bool.not_eq_false, Decidable.not_not] at h)) | refine And.intro (by first | omega | exact rfl | assumption | exact ⟨rfl, rfl, rfl, rfl, rfl⟩ | exact ⟨rfl, rfl, rfl, rfl⟩ | exact ⟨rfl, by omega⟩ | exact oneAll_of rfl | exact ⟨rfl, oneAll_of rfl⟩ | exact Ref.refl _ | exact Thin.ref (.skip (Thin.refl _)) | exact Thin.ref (.skip (.skip (Thin.refl _))) | exact ⟨rfl, Nat.le_of_ble_eq_true rfl⟩ | ((try unfold maxLen); (try simp only [List.length_nil, List.length_cons, List.length_append]); omega) | (refine ⟨rfl, ?_⟩; (try simp only [List.length_nil, List.length_cons, List.length_append]); omega)) ?_ | intro _)); (all_goals (conv => whnf))
    all_goals first | (exfalso; omega) | skip
    all_goals exact ⟨rfl⟩
  have c1 := calls_New 9 77
  have hw0 : WF ⟨9, []⟩ := WF.new 9 (by decide)
  obtain ⟨S1, x, e1, hM1⟩ := letOk hw0 hp (by decide)
  have h1len := hM1.len
  have h1most := hM1.grow.most
  dsimp only [List.length_nil] at h1len h1most
  obtain ⟨S2, y, e2, hM2⟩ := letOk hM1.wf hq (by omega)
  have h2len := hM2.len
  have h2most := hM2.grow.most
  have hx2 : x ≤ S2.E.length := by have := hM2.grow.len; have := hM1.le; omega
  have htx2 : tm S2.E x = .lt p := by rw [hM2.grow.tm hM1.le]; exact hM1.tm
  obtain ⟨S3, z, e3, hM3⟩ := pairOk hM2.wf hM1.pos hx2 hM2.pos hM2.le (by rw [htx2, hM2.tm]; exact (by decide : 2 ≤ LM)) (by omega)
  rw [htx2, hM2.tm] at hM3
  have h3len := hM3.len
  have h3most := hM3.grow.most
  have cL1 := fun b => calls_Letter b ⟨9, []⟩ p hp (by decide)
  have cL2 := fun b => calls_Letter b S1 q hq hM1.wf.small
  have cP := fun b => calls_Pair b S2 hM2.wf x y
  simp only [e1] at cL1
  simp only [e2] at cL2
  simp only [e3] at cP
  obtain ⟨n0, hn0, hn1⟩ := andR_k k0
  obtain ⟨K, hK⟩ : ∃ K : Nat, K = 2 + n0 % 288230376151711744 := ⟨_, rfl⟩
  have hK1 : 2 ≤ K := by omega
  have hK2 : K ≤ 288230376151711745 := by
    have := Nat.mod_lt n0 (show 0 < 288230376151711744 by decide)
    omega
  have hKe : (2 : Int) + (n0 : Int) % 288230376151711744 = (K : Int) := by omega
  have hz2 : (tm S3.E z).len = 2 := by rw [hM3.tm]; rfl
  obtain ⟨S4, v, e4, hM4⟩ := powOk hM3.wf hM3.pos hM3.le (k := (K : Int)) (by omega) (by rw [hz2]; have : LM = 1152921504606846976 := rfl; omega) (by omega)
  have h4len := hM4.len
  have cW := fun b => calls_Power b S3 hM3.wf z (K : Int) (by omega)
  simp only [e4] at cW
  rw [hM3.tm, Int.toNat_natCast] at hM4
  have hz4 : tm S4.E z = .pr (.lt p) (.lt q) := by rw [hM4.grow.tm hM3.le]; exact hM3.tm
  have hzl : z ≤ S4.E.length := by have := hM4.grow.len; have := hM3.le; omega
  have hx3 : x ≤ S3.E.length := by have := hM3.grow.len; omega
  have hy3 : y ≤ S3.E.length := by have := hM3.grow.len; have := hM2.le; omega
  have hx4 : tm S4.E x = .lt p := by rw [hM4.grow.tm hx3, hM3.grow.tm hx2]; exact htx2
  have hy4 : tm S4.E y = .lt q := by rw [hM4.grow.tm hy3, hM3.grow.tm hM2.le]; exact hM2.tm
  have hxl : x ≤ S4.E.length := by have := hM4.grow.len; omega
  have hyl : y ≤ S4.E.length := by have := hM4.grow.len; omega
  obtain ⟨A, a1, a2, a3, a4⟩ := pr_level hpq
  obtain ⟨D, hD⟩ : ∃ D : Nat, A = (D : Int) := ⟨A.toNat, by omega⟩
  have hlv : (tm S4.E v).level = ((D + 1 : Nat) : Int) := by rw [hM4.tm, pw_level a1 a2 a3, hD]; rfl
  have cT := fun bp bt bs => calls_Top bp bt bs S4 hM4.wf v (by have := hM4.pos; omega)
  rw [levRes_sig hM4.pos hM4.le hlv] at cT
  have hlvd : Lvd (tm S4.E v) := by unfold Lvd; omega
  have cS := fun bp bt bs => calls_SeqN 861 bp bt bs S4 hM4.wf v (D : Int) hM4.pos hM4.le (by omega) hlvd
  have cS2 := fun bp bt bs => calls_SeqN 862 bp bt bs S4 hM4.wf v ((D : Int) - 1) hM4.pos hM4.le (by omega) hlvd
  unfold sqN at cS cS2
  rw [hM4.tm, ← hD, pw_exp1 a1 a2 a3] at cS
  rw [hM4.tm, ← hD, pw_exp2 a1 a2 a3] at cS2
  have hr1 : runsT (List.replicate K (Tm.pr (.lt p) (.lt q))) = [(.pr (.lt p) (.lt q), K)] := by
    obtain ⟨j, rfl⟩ : ∃ j, K = j + 1 := ⟨K - 1, by omega⟩
    exact runsT_rep _ j
  rw [hr1] at cS
  have hal := altT_len (.lt p) (.lt q) K
  have har := altT_runs (a := .lt p) (b := .lt q) (fun e => hpq (by injection e)) K
  rw [har, List.length_map, hal] at cS2
  rw [hD] at cS cS2
  have m1 : ((D + 1 : Nat) : Int) - 1 = (D : Int) := by omega
  have m2 : ((D + 1 : Nat) : Int) - 2 = (D : Int) - 1 := by omega
  have i9 := calls_Is 9 9 (by decide)
  (repeat' ((conv => whnf); first | rw [hn0] | rw [hKe] | (refine CallK_new (fun w hR => c1 w) ?_; rintro _ _ ⟨bn, fpn, rfl, rfl⟩; refine ⟨.v _, rfl, ?_⟩) | (refine CallK_new (fun w hR => calls_newP _ ⟨9, []⟩ w) ?_; rintro _ _ ⟨bp, bt, f1, rfl, rfl⟩; refine ⟨.v _, rfl, ?_⟩) | (refine CallK_pure (.v _) (fun w hR => c0 w (hG.cast hR (by simp))) ?_) | (refine CallK_pack (key := 77) rfl (fun w hR h0 => cL1 _ _ _ _ h0) ?_; rintro _ _ ⟨rfl, fp', rfl⟩; refine ⟨.v _, rfl, ?_⟩) | (refine CallK_pack (key := 77) rfl (fun w hR h0 => cL2 _ _ _ _ h0) ?_; rintro _ _ ⟨rfl, fp', rfl⟩; refine ⟨.v _, rfl, ?_⟩) | (refine CallK_pack (key := 77) rfl (fun w hR h0 => cP _ _ _ _ h0) ?_; rintro _ _ ⟨rfl, fp', rfl⟩; refine ⟨.v _, rfl, ?_⟩) | (refine CallK_pack (key := 77) rfl (fun w hR h0 => cW _ _ _ _ h0) ?_; rintro _ _ ⟨rfl, fp', rfl⟩; refine ⟨.v _, rfl, ?_⟩) | (refine bcase_prop (fun h => ?_) (fun h => ?_) <;> try (exfalso; omega)) | (refine bcase_nprop (fun h => ?_) (fun h => ?_) <;> try (exfalso; omega)) | (refine bcase_intro (fun h => ?_) (fun h => ?_) <;> (try simp only [Bool.not_eq_true', Bool.not_eq_false', decide_eq_true_eq, decide_eq_false_iff_not, Bool.not_eq_true, Bool.not_eq_false, Decidable.not_not] at h)) | refine And.intro (by first | omega | exact rfl | assumption | exact ⟨rfl, rfl, rfl, rfl, rfl⟩ | exact ⟨rfl, rfl, rfl, rfl⟩ | exact ⟨rfl, by omega⟩ | exact oneAll_of rfl | exact ⟨rfl, oneAll_of rfl⟩ | exact Ref.refl _ | exact Thin.ref (.skip (Thin.refl _)) | exact Thin.ref (.skip (.skip (Thin.refl _))) | decide | exact ⟨rfl, Nat.le_of_ble_eq_true rfl⟩ | ((try unfold maxLen); (try simp only [List.length_nil, List.length_cons, List.length_append]); omega) | (refine ⟨rfl, ?_⟩; (try simp only [List.length_nil, List.length_cons, List.length_append]); omega)) ?_ | intro _)); (all_goals (conv => whnf))
  all_goals first | (exfalso; omega) | skip
  have hgA := ((hM1.grow.trans hM2.grow).trans hM3.grow).trans hM4.grow
  refine CallK_growT (S := ⟨9, []⟩) (S' := S4) rfl hgA ?_
  refine CallK_sub [78, 77, 3000] rfl (fun w hR h0 => cT bp bt bn _ _ _ w h0 (hG.castL hR)) ?_
  rintro _ _ ⟨rfl, g1, g2, rfl⟩
  refine ⟨.v _, rfl, ?_⟩
  (repeat' ((conv => whnf); first | rw [m1] | rw [m2] | (refine bcase_prop (fun h => ?_) (fun h => ?_) <;> try (exfalso; omega)) | (refine bcase_nprop (fun h => ?_) (fun h => ?_) <;> try (exfalso; omega)) | (refine bcase_intro (fun h => ?_) (fun h => ?_) <;> (try simp only [Bool.not_eq_true', Bool.not_eq_false', decide_eq_true_eq, decide_eq_false_iff_not, Bool.not_eq_true, Bool.not_eq_false, Decidable.not_not] at h)) | refine And.intro (by first | omega | exact rfl | assumption | exact ⟨rfl, rfl, rfl, rfl, rfl⟩ | exact ⟨rfl, rfl, rfl, rfl⟩ | exact ⟨rfl, by omega⟩ | exact oneAll_of rfl | exact ⟨rfl, oneAll_of rfl⟩ | exact Ref.refl _ | exact Thin.ref (.skip (Thin.refl _)) | exact Thin.ref (.skip (.skip (Thin.refl _))) | exact ⟨rfl, Nat.le_of_ble_eq_true rfl⟩ | ((try unfold maxLen); (try simp only [List.length_nil, List.length_cons, List.length_append]); omega) | (refine ⟨rfl, ?_⟩; (try simp only [List.length_nil, List.length_cons, List.length_append]); omega)) ?_ | intro _)); (all_goals (conv => whnf))
  all_goals first | (exfalso; omega) | skip
  refine CallK_sub [78, 77, 3000] rfl (fun w hR h0 => cS bp bt bn _ _ _ w h0 (hG.castL hR)) ?_
  rintro _ _ ⟨g3, g4, ⟨gl, al, cl, q1, q2, q3, q4, rfl, rfl⟩ | ⟨q1, rfl, rfl⟩⟩
  case inr => simp at q1
  have q5 := gl_pow hM4.wf q1 hM3.pos hzl hz4 q2
  subst q5
  have q6 := q4 (by simp)
  refine ⟨.v _, rfl, ?_⟩
  (repeat' ((conv => whnf); first | rw [m1] | rw [m2] | refine ⟨[.int .i64 z, .int .i64 K], rfl, Rd.own (key := 861) rfl (Nat.succ_pos _) rfl, ?_⟩ | (refine bcase_prop (fun h => ?_) (fun h => ?_) <;> try (exfalso; omega)) | (refine bcase_nprop (fun h => ?_) (fun h => ?_) <;> try (exfalso; omega)) | (refine bcase_intro (fun h => ?_) (fun h => ?_) <;> (try simp only [Bool.not_eq_true', Bool.not_eq_false', decide_eq_true_eq, decide_eq_false_iff_not, Bool.not_eq_true, Bool.not_eq_false, Decidable.not_not] at h)) | refine And.intro (by first | omega | exact rfl | assumption | exact ⟨rfl, rfl, rfl, rfl, rfl⟩ | exact ⟨rfl, rfl, rfl, rfl⟩ | exact ⟨rfl, by omega⟩ | exact oneAll_of rfl | exact ⟨rfl, oneAll_of rfl⟩ | exact Ref.refl _ | exact Thin.ref (.skip (Thin.refl _)) | exact Thin.ref (.skip (.skip (Thin.refl _))) | exact q6 | exact ⟨rfl, Nat.le_of_ble_eq_true rfl⟩ | ((try unfold maxLen); (try simp only [List.length_nil, List.length_cons, List.length_append]); omega) | (refine ⟨rfl, ?_⟩; (try simp only [List.length_nil, List.length_cons, List.length_append]); omega)) ?_ | intro _)); (all_goals (conv => whnf))
  all_goals first | (exfalso; omega) | skip
  refine CallK_sub [78, 77, 3000] rfl (fun w hR h0 => cS2 bp bt bn _ _ _ w h0 (hG.castL hR)) ?_
  rintro _ _ ⟨g5, g6, ⟨gm, am, cm, p1, p2, p3, p4, rfl, rfl⟩ | ⟨p1, rfl, rfl⟩⟩
  · refine ⟨.v _, rfl, ?_⟩
    have hlen := congrArg List.length p2
    rw [List.length_map, List.length_map, hal] at hlen
    obtain ⟨z1, z2⟩ := gl_ones p1 p2
    generalize hxs : gm.map (·.1) = xs at *
    have hxl2 : xs.length = gm.length := by rw [← hxs, List.length_map]
    have hxat : ∀ i, i < gm.length → gm.getD i (0, 0) = (if i % 2 = 0 then x else y, 1) := fun i hi => by
      rw [z1, getD_map (d := (0 : Int)) (by omega)]
      congr 1
      have h1 := altT_at (.lt p) (.lt q) K i (by omega)
      rw [← z2, getD_map (d := (0 : Int)) (by omega)] at h1
      have hmem : xs.getD i 0 ∈ xs := getD_mem (by omega)
      rw [← hxs] at hmem
      obtain ⟨g, hg, hge⟩ := List.mem_map.1 hmem
      have hgk := (p1.ok g hg).1
      rw [hge, hxs] at hgk
      by_cases hev : i % 2 = 0
      · rw [if_pos hev] at h1 ⊢
        exact (hM4.wf.inj_iff hgk.1 hgk.2 hM1.pos hxl).1 (h1.trans hx4.symm)
      · rw [if_neg hev] at h1 ⊢
        exact (hM4.wf.inj_iff hgk.1 hgk.2 hM2.pos hyl).1 (h1.trans hy4.symm)
    (repeat' ((conv => whnf); first | (refine bcase_prop (fun h => ?_) (fun h => ?_) <;> try (exfalso; omega)) | (refine bcase_nprop (fun h => ?_) (fun h => ?_) <;> try (exfalso; omega)) | (refine bcase_intro (fun h => ?_) (fun h => ?_) <;> (try simp only [Bool.not_eq_true', Bool.not_eq_false', decide_eq_true_eq, decide_eq_false_iff_not, Bool.not_eq_true, Bool.not_eq_false, Decidable.not_not] at h)) | refine And.intro (by first | omega | exact rfl | assumption | exact ⟨rfl, rfl, rfl, rfl, rfl⟩ | exact ⟨rfl, rfl, rfl, rfl⟩ | exact ⟨rfl, by omega⟩ | exact oneAll_of rfl | exact ⟨rfl, oneAll_of rfl⟩ | exact Ref.refl _ | exact Thin.ref (.skip (Thin.refl _)) | exact Thin.ref (.skip (.skip (Thin.refl _))) | exact ⟨rfl, Nat.le_of_ble_eq_true rfl⟩ | ((try unfold maxLen); (try simp only [List.length_nil, List.length_cons, List.length_append]); omega) | (refine ⟨rfl, ?_⟩; (try simp only [List.length_nil, List.length_cons, List.length_append]); omega)) ?_ | intro _)); (all_goals (conv => whnf))
    all_goals first | (exfalso; omega) | skip
    refine VC_loop Nat (fun i => [(9, .v (.int .i64 x)), (11, .v (.int .i64 y)), (19, .v (.slice am gm.length cm)), (21, .v (.int .i64 i))]) (fun _ => [.own 862 am gm.length cm ty_api_Group 2 (prs .i64 gm)]) (fun i => i ≤ gm.length) (fun i => gm.length - i) 0 (Nat.zero_le _) (by (repeat ((conv => whnf); refine And.intro (by first | exact rfl | exact vint_eq (by omega) | exact vint_eq (by (dsimp only; omega)) | exact vsl_eq (by omega) | exact vsl_eq (by first | (dsimp only; omega) | (simp; done) | (simp; omega))) ?_)); exact trivial) (Ref.takes [862] rfl (Thin.refl _)) ?_
    intro i hi
    by_cases hlt : i < gm.length
    · obtain ⟨y1, y2⟩ := prs_get (k := .i64) hlt
      rw [hxat i hlt] at y1 y2
      have hne2 := p4 (by omega)
      by_cases hev : i % 2 = 0
      · rw [if_pos hev] at y1 y2
        have hev2 : (i : Int) % 2 = 0 := by omega
        (repeat' ((conv => whnf); first | rw [Int.toNat_natCast] | refine ⟨_, rdO 862 rfl y1, ?_⟩ | refine ⟨_, rdO 862 rfl y2, ?_⟩ | (refine bcase_prop (fun h => ?_) (fun h => ?_) <;> try (exfalso; omega)) | (refine bcase_nprop (fun h => ?_) (fun h => ?_) <;> try (exfalso; omega)) | (refine bcase_intro (fun h => ?_) (fun h => ?_) <;> (try simp only [Bool.not_eq_true', Bool.not_eq_false', decide_eq_true_eq, decide_eq_false_iff_not, Bool.not_eq_true, Bool.not_eq_false, Decidable.not_not] at h)) | refine And.intro (by first | omega | exact rfl | assumption | exact ⟨rfl, rfl, rfl, rfl, rfl⟩ | exact ⟨rfl, rfl, rfl, rfl⟩ | exact ⟨rfl, by omega⟩ | exact oneAll_of rfl | exact ⟨rfl, oneAll_of rfl⟩ | exact Ref.refl _ | exact Thin.ref (.skip (Thin.refl _)) | exact Thin.ref (.skip (.skip (Thin.refl _))) | exact hne2 | exact ⟨rfl, Nat.le_of_ble_eq_true rfl⟩ | ((try unfold maxLen); (try simp only [List.length_nil, List.length_cons, List.length_append]); omega) | (refine ⟨rfl, ?_⟩; (try simp only [List.length_nil, List.length_cons, List.length_append]); omega)) ?_ | intro _)); (all_goals (conv => whnf))
        all_goals first | (exfalso; omega) | skip
        all_goals exact loop_next (i + 1) (by ((try dsimp only); omega)) (by ((try dsimp only); omega)) (by (repeat ((conv => whnf); refine And.intro (by first | exact rfl | exact vint_eq (by omega) | exact vint_eq (by (dsimp only; omega)) | exact vsl_eq (by omega) | exact vsl_eq (by first | (dsimp only; omega) | (simp; done) | (simp; omega))) ?_)); exact trivial) (Ref.takes [862] rfl (Thin.refl _))
      · rw [if_neg hev] at y1 y2
        have hev2 : (i : Int) % 2 = 1 := by omega
        (repeat' ((conv => whnf); first | rw [Int.toNat_natCast] | refine ⟨_, rdO 862 rfl y1, ?_⟩ | refine ⟨_, rdO 862 rfl y2, ?_⟩ | (refine bcase_prop (fun h => ?_) (fun h => ?_) <;> try (exfalso; omega)) | (refine bcase_nprop (fun h => ?_) (fun h => ?_) <;> try (exfalso; omega)) | (refine bcase_intro (fun h => ?_) (fun h => ?_) <;> (try simp only [Bool.not_eq_true', Bool.not_eq_false', decide_eq_true_eq, decide_eq_false_iff_not, Bool.not_eq_true, Bool.not_eq_false, Decidable.not_not] at h)) | refine And.intro (by first | omega | exact rfl | assumption | exact ⟨rfl, rfl, rfl, rfl, rfl⟩ | exact ⟨rfl, rfl, rfl, rfl⟩ | exact ⟨rfl, by omega⟩ | exact oneAll_of rfl | exact ⟨rfl, oneAll_of rfl⟩ | exact Ref.refl _ | exact Thin.ref (.skip (Thin.refl _)) | exact Thin.ref (.skip (.skip (Thin.refl _))) | exact hne2 | exact ⟨rfl, Nat.le_of_ble_eq_true rfl⟩ | ((try unfold maxLen); (try simp only [List.length_nil, List.length_cons, List.length_append]); omega) | (refine ⟨rfl, ?_⟩; (try simp only [List.length_nil, List.length_cons, List.length_append]); omega)) ?_ | intro _)); (all_goals (conv => whnf))
        all_goals first | (exfalso; omega) | skip
        all_goals exact loop_next (i + 1) (by ((try dsimp only); omega)) (by ((try dsimp only); omega)) (by (repeat ((conv => whnf); refine And.intro (by first | exact rfl | exact vint_eq (by omega) | exact vint_eq (by (dsimp only; omega)) | exact vsl_eq (by omega) | exact vsl_eq (by first | (dsimp only; omega) | (simp; done) | (simp; omega))) ?_)); exact trivial) (Ref.takes [862] rfl (Thin.refl _))
    · (repeat' ((conv => whnf); first | (refine bcase_prop (fun h => ?_) (fun h => ?_) <;> try (exfalso; omega)) | (refine bcase_nprop (fun h => ?_) (fun h => ?_) <;> try (exfalso; omega)) | (refine bcase_intro (fun h => ?_) (fun h => ?_) <;> (try simp only [Bool.not_eq_true', Bool.not_eq_false', decide_eq_true_eq, decide_eq_false_iff_not, Bool.not_eq_true, Bool.not_eq_false, Decidable.not_not] at h)) | refine And.intro (by first | omega | exact rfl | assumption | exact ⟨rfl, rfl, rfl, rfl, rfl⟩ | exact ⟨rfl, rfl, rfl, rfl⟩ | exact ⟨rfl, by omega⟩ | exact oneAll_of rfl | exact ⟨rfl, oneAll_of rfl⟩ | exact Ref.refl _ | exact Thin.ref (.skip (Thin.refl _)) | exact Thin.ref (.skip (.skip (Thin.refl _))) | exact ⟨rfl, Nat.le_of_ble_eq_true rfl⟩ | ((try unfold maxLen); (try simp only [List.length_nil, List.length_cons, List.length_append]); omega) | (refine ⟨rfl, ?_⟩; (try simp only [List.length_nil, List.length_cons, List.length_append]); omega)) ?_ | intro _)); (all_goals (conv => whnf))
      all_goals first | (exfalso; omega) | skip
      all_goals exact ⟨rfl⟩
  · refine ⟨.v _, rfl, ?_⟩
    (repeat' ((conv => whnf); first | (first | refine CallK_pure (.v _) (fun w hR => i9 w) ?_ | refine QCall_pure (.v _) (fun w hR => i9 w) ?_) | (refine bcase_prop (fun h => ?_) (fun h => ?_) <;> try (exfalso; omega)) | (refine bcase_nprop (fun h => ?_) (fun h => ?_) <;> try (exfalso; omega)) | (refine bcase_intro (fun h => ?_) (fun h => ?_) <;> (try simp only [Bool.not_eq_true', Bool.not_eq_false', decide_eq_true_eq, decide_eq_false_iff_not, Bool.not_eq_true, Bool.not_eq_false, Decidable.not_not] at h)) | refine And.intro (by first | omega | exact rfl | assumption | exact ⟨rfl, rfl, rfl, rfl, rfl⟩ | exact ⟨rfl, rfl, rfl, rfl⟩ | exact ⟨rfl, by omega⟩ | exact oneAll_of rfl | exact ⟨rfl, oneAll_of rfl⟩ | exact Ref.refl _ | exact Thin.ref (.skip (Thin.refl _)) | exact Thin.ref (.skip (.skip (Thin.refl _))) | exact ⟨rfl, Nat.le_of_ble_eq_true rfl⟩ | ((try unfold maxLen); (try simp only [List.length_nil, List.length_cons, List.length_append]); omega) | (refine ⟨rfl, ?_⟩; (try simp only [List.length_nil, List.length_cons, List.length_append]); omega)) ?_ | intro _)); (all_goals (conv => whnf))
    all_goals first | (exfalso; omega) | skip
    all_goals exact ⟨rfl⟩
theorem law_SignaturePowersI (w : World) (hG : TabF w []) (p q k0 : Int) (hp : 0 ≤ p ∧ p ≤ 255) (hq : 0 ≤ q ∧ q ≤ 255) (hk0 : -9223372036854775808 ≤ k0 ∧ k0 ≤ 9223372036854775807) :
    Calls Tryd.prog fn_evergreenlaw22_SignaturePowers #[.int .u8 p, .int .u8 q, .int .i64 k0] w fun e w' => e = .returned (.bool true) ∧ Ext w w' := by
  have := law_SignaturePowers w hG p.toNat q.toNat (by omega) (by omega) k0 hk0
  rwa [show ((p.toNat : Nat) : Int) = p by omega, show ((q.toNat : Nat) : Int) = q by omega] at this
end Go.Proofs.YtkkhpdkfploodaaDoor
