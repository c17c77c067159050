/- The level of a signature, and sequences around it: the program. -/
import Derived.Test.YtkkhpdkfploodaaDoorK15
import Derived.Test.YtkkhpdkfploodaaDoorK16
import Derived.Test.YtkkhpdkfploodaaDoorK5
namespace Go.Proofs.YtkkhpdkfploodaaDoor
open Go.EG
attribute [local irreducible] CallK QCall Go.Calls
set_option linter.unusedSimpArgs false
set_option linter.unusedVariables false
set_option maxRecDepth 20000
set_option maxHeartbeats 4000000

theorem wf_u8 {n : Int} (h : (Lit.int .u8 n).wf = true) : 0 ≤ n ∧ n ≤ 255 := by
  simp only [Lit.wf, Bool.and_eq_true, decide_eq_true_eq] at h
  exact h
theorem wf_u16 {n : Int} (h : (Lit.int .u16 n).wf = true) : 0 ≤ n ∧ n ≤ 65535 := by
  simp only [Lit.wf, Bool.and_eq_true, decide_eq_true_eq] at h
  exact h
theorem gl_one {S : Sto} (hw : WF S) {gl : List (Int × Int)} (hg : Gok S gl) {x : Int} (h1 : 1 ≤ x) (h2 : x ≤ S.E.length) (h : gl.map (grT S) = [(tm S.E x, 1)]) : gl = [(x, 1)] := by
  obtain ⟨g, r, rfl, e1, e2⟩ := List.map_eq_cons_iff.1 h
  have hr := List.map_eq_nil_iff.1 e2
  subst hr
  obtain ⟨y, u⟩ := g
  have hy := hg.ok (y, u) (by simp)
  simp only [grT, Prod.mk.injEq] at e1 hy
  have := (hw.inj_iff hy.1.1 hy.1.2 h1 h2).1 e1.1
  have hu : u = 1 := by omega
  rw [this, hu]
/-- Below its level a signature is two symbols or more. -/
theorem gl_more {S : Sto} {gl : List (Int × Int)} (hg : Gok S gl) {t : List Nat} {n : Nat} (hl : 1 < (seqT t n).length) (h : gl.map (grT S) = runsT (seqT t n)) : 1 < gl.length ∨ ∃ y u, gl = [(y, u)] ∧ 1 < u := by
  match gl, hg, h with
  | [], _, h =>
    have e := runsT_exp (seqT t n)
    rw [← h] at e
    have := congrArg List.length e
    simp at this
    omega
  | [(y, u)], hg, h =>
    have hy := hg.ok (y, u) (by simp)
    refine .inr ⟨y, u, rfl, ?_⟩
    have e := runsT_one (ts := seqT t n) (m := tm S.E y) (c := u.toNat) (by rw [← h]; rfl)
    have := congrArg List.length e
    rw [List.length_replicate] at this
    omega
  | _ :: _ :: _, _, _ => exact .inl (by simp)
theorem levRes_sig {S : Sto} {x : Int} (h1 : 1 ≤ x) (h2 : x ≤ S.E.length) {L : Nat} (h : (tm S.E x).level = L) : levRes S x = .tuple #[.int .i64 L, .nilIface] := by
  unfold levRes
  rw [if_pos ⟨h1, h2⟩, if_neg (by omega), h]
theorem law_SignatureTop (w : World) (hG : TabF w []) (t : List Nat) (hbt : ∀ x ∈ t, x < 256) (htl : t.length ≤ 4611686018427387904) (a : Option Addr) (c : Nat) (hia : In w [] a (bytesV t)) (more : Int) (hm : 0 ≤ more ∧ more ≤ 255) :
    Calls Tryd.prog fn_evergreenlaw22_SignatureTop #[.slice a t.length c, .int .u8 more] w fun e w' => e = .returned (.bool true) ∧ Ext w w' := by
  refine pure_call [.v (.slice a t.length c), .v (.int .u8 more)] w ok_evergreenlaw22_SignatureTop (by simp) ?_
  by_cases hs1 : t.length ≤ 500
  case neg =>
    (repeat' ((conv => whnf); first | (refine bcase_prop (fun h => ?_) (fun h => ?_) <;> try (exfalso; omega)) | (refine bcase_nprop (fun h => ?_) (fun h => ?_) <;> try (exfalso; omega)) | (refine bcase_intro (fun h => ?_) (fun h => ?_) <;> (try simp only [Bool.not_eq_true', Bool.not_eq_false', decide_eq_true_eq, decide_eq_false_iff_not, Bool.not_eq_true, Bool.not_eq_false, Decidable.not_not] at h)) | refine And.intro (by first | omega | exact rfl | assumption | exact ⟨rfl, rfl, rfl, rfl, rfl⟩ | exact ⟨rfl, rfl, rfl, rfl⟩ | exact ⟨rfl, by omega⟩ | exact oneAll_of rfl | exact ⟨rfl, oneAll_of rfl⟩ | exact Ref.refl _ | exact Thin.ref (.skip (Thin.refl _)) | exact Thin.ref (.skip (.skip (Thin.refl _))) | exact ⟨rfl, Nat.le_of_ble_eq_true rfl⟩ | ((try unfold maxLen); (try simp only [List.length_nil, List.length_cons, List.length_append]); omega) | (refine ⟨rfl, ?_⟩; (try simp only [List.length_nil, List.length_cons, List.length_append]); omega)) ?_ | intro _)); (all_goals (conv => whnf))
    all_goals first | (exfalso; omega) | exact ⟨rfl⟩
  have c0 := fun w h => calls_awake22 w h
  have c1 := calls_New 10000 77
  have hw0 : WF ⟨10000, []⟩ := WF.new 10000 (by decide)
  have cT := fun w h => calls_copied t (by omega) a c w h
  (repeat' ((conv => whnf); first | (refine CallK_new (fun w hR => c1 w) ?_; rintro _ _ ⟨bn, fpn, rfl, rfl⟩; refine ⟨.v _, rfl, ?_⟩) | (refine CallK_new (fun w hR => calls_newP _ ⟨10000, []⟩ w) ?_; rintro _ _ ⟨bp, bt, f1, rfl, rfl⟩; refine ⟨.v _, rfl, ?_⟩) | refine CallK_slice 901 (fun w' hR => cT w' (hia.cast hR (by simp))) ?_ | (refine CallK_sub [78, 77, 3000] rfl (fun w hR h0 => calls_OfG bp bt bn ⟨10000, []⟩ hw0 t hbt (by omega) (by dsimp only [List.length_nil]; omega) _ _ _ _ _ w h0 (hG.castL hR) (In.besideL (key := 901) hR rfl)) ?_; rintro _ _ ⟨S, x, g1, g2, hw1, hg1, hx, hx0, hx1, hln, hout, rfl, rfl⟩; refine ⟨.v _, rfl, ?_⟩) | (refine bcase_prop (fun h => ?_) (fun h => ?_) <;> try (exfalso; omega)) | (refine bcase_nprop (fun h => ?_) (fun h => ?_) <;> try (exfalso; omega)) | (refine bcase_intro (fun h => ?_) (fun h => ?_) <;> (try simp only [Bool.not_eq_true', Bool.not_eq_false', decide_eq_true_eq, decide_eq_false_iff_not, Bool.not_eq_true, Bool.not_eq_false, Decidable.not_not] at h)) | refine And.intro (by first | omega | exact rfl | assumption | exact ⟨rfl, rfl, rfl, rfl, rfl⟩ | exact ⟨rfl, rfl, rfl, rfl⟩ | exact ⟨rfl, by omega⟩ | exact oneAll_of rfl | exact ⟨rfl, oneAll_of rfl⟩ | exact Ref.refl _ | exact Thin.ref (.skip (Thin.refl _)) | exact Thin.ref (.skip (.skip (Thin.refl _))) | exact ⟨rfl, Nat.le_of_ble_eq_true rfl⟩ | ((try unfold maxLen); (try simp only [List.length_nil, List.length_cons, List.length_append]); omega) | (refine ⟨rfl, ?_⟩; (try simp only [List.length_nil, List.length_cons, List.length_append]); omega)) ?_ | intro _)); (all_goals (conv => whnf))
  have hsm1 := hw1.small
  by_cases ht : t = []
  · have hx00 := hx0 ht
    subst hx00
    subst ht
    simp only [List.length_nil] at *
    have cA := calls_Top0 bp bt bn S
    have cB := calls_Seq0 bp bt bn S hw1 more hm.1
    (repeat' ((conv => whnf); first | (refine CallK_pure (.v _) (fun w hR => c0 w (hG.cast hR (by simp))) ?_) | (refine CallK_sub [78, 77, 3000] rfl (fun w hR h0 => cA _ _ _ w h0 (hG.castL hR)) ?_; rintro _ _ ⟨rfl, k1, k2, rfl⟩; refine ⟨.v _, rfl, ?_⟩) | (refine CallK_sub [78, 77, 3000] rfl (fun w hR h0 => cB _ _ _ w h0 (hG.castL hR)) ?_; rintro _ _ ⟨rfl, k3, k4, rfl⟩; refine ⟨.v _, rfl, ?_⟩) | (refine bcase_prop (fun h => ?_) (fun h => ?_) <;> try (exfalso; omega)) | (refine bcase_nprop (fun h => ?_) (fun h => ?_) <;> try (exfalso; omega)) | (refine bcase_intro (fun h => ?_) (fun h => ?_) <;> (try simp only [Bool.not_eq_true', Bool.not_eq_false', decide_eq_true_eq, decide_eq_false_iff_not, Bool.not_eq_true, Bool.not_eq_false, Decidable.not_not] at h)) | refine And.intro (by first | omega | exact rfl | assumption | exact ⟨rfl, rfl, rfl, rfl, rfl⟩ | exact ⟨rfl, rfl, rfl, rfl⟩ | exact ⟨rfl, by omega⟩ | exact oneAll_of rfl | exact ⟨rfl, oneAll_of rfl⟩ | exact Ref.refl _ | exact Thin.ref (.skip (Thin.refl _)) | exact Thin.ref (.skip (.skip (Thin.refl _))) | exact ⟨rfl, Nat.le_of_ble_eq_true rfl⟩ | ((try unfold maxLen); (try simp only [List.length_nil, List.length_cons, List.length_append]); omega) | (refine ⟨rfl, ?_⟩; (try simp only [List.length_nil, List.length_cons, List.length_append]); omega)) ?_ | intro _)); (all_goals (conv => whnf))
    all_goals first | (exfalso; omega) | skip
    all_goals exact ⟨rfl⟩
  · obtain ⟨x1, hsg⟩ := hx1 ht
    have hpos : 0 < t.length := List.length_pos_iff.2 ht
    obtain ⟨L, l1, l2, l3⟩ := hsg.level
    have hlv := hw1.lev' (n := x) (by omega) hx.2
    have cA := calls_Top bp bt bn S hw1 x (by omega)
    rw [levRes_sig x1 hx.2 l1] at cA
    have cB := fun f1 f2 fp w h h' => calls_SeqT 861 bp bt bn S hw1 x (L + more.toNat) t (by omega) x1 hx.2 hsg f1 f2 fp w h h'
    have cC := fun f1 f2 fp w h h' => calls_SeqT 862 bp bt bn S hw1 x (L - 1) t (by omega) x1 hx.2 hsg f1 f2 fp w h h'
    have e1 : (((L + more.toNat : Nat) : Nat) : Int) = (L : Int) + more := by omega
    rw [e1] at cB
    unfold stQ at cB
    rw [seqT_stay l2 (L + more.toNat) (by omega)] at cB
    (repeat' ((conv => whnf); first | (refine CallK_pure (.v _) (fun w hR => c0 w (hG.cast hR (by simp))) ?_) | (refine CallK_sub [78, 77, 3000] rfl (fun w hR h0 => cA _ _ _ w h0 (hG.castL hR)) ?_; rintro _ _ ⟨rfl, k1, k2, rfl⟩; refine ⟨.v _, rfl, ?_⟩) | (refine CallK_sub [78, 77, 3000] rfl (fun w hR h0 => cB _ _ _ w h0 (hG.castL hR)) ?_; rintro _ _ ⟨k3, k4, gl, a1, d1, q1, q2, q3, q4, rfl, rfl⟩; have q5 := gl_one hw1 q1 x1 hx.2 q2; subst q5; have q6 := q4 (by simp); refine ⟨.v _, rfl, ?_⟩) | refine ⟨[.int .i64 x, .int .i64 1], rfl, Rd.own (key := 861) rfl (Nat.succ_pos _) rfl, ?_⟩ | (refine bcase_prop (fun h => ?_) (fun h => ?_) <;> try (exfalso; omega)) | (refine bcase_nprop (fun h => ?_) (fun h => ?_) <;> try (exfalso; omega)) | (refine bcase_intro (fun h => ?_) (fun h => ?_) <;> (try simp only [Bool.not_eq_true', Bool.not_eq_false', decide_eq_true_eq, decide_eq_false_iff_not, Bool.not_eq_true, Bool.not_eq_false, Decidable.not_not] at h)) | refine And.intro (by first | omega | exact rfl | assumption | exact ⟨rfl, rfl, rfl, rfl, rfl⟩ | exact ⟨rfl, rfl, rfl, rfl⟩ | exact ⟨rfl, by omega⟩ | exact oneAll_of rfl | exact ⟨rfl, oneAll_of rfl⟩ | exact Ref.refl _ | exact Thin.ref (.skip (Thin.refl _)) | exact Thin.ref (.skip (.skip (Thin.refl _))) | exact q6 | exact ⟨rfl, Nat.le_of_ble_eq_true rfl⟩ | ((try unfold maxLen); (try simp only [List.length_nil, List.length_cons, List.length_append]); omega) | (refine ⟨rfl, ?_⟩; (try simp only [List.length_nil, List.length_cons, List.length_append]); omega)) ?_ | intro _)); (all_goals (conv => whnf))
    all_goals first | (exfalso; omega) | skip
    · have hL0 : L = 0 := by omega
      subst hL0
      have := congrArg List.length l2
      rw [seqT, List.length_map] at this
      simp only [List.length_singleton] at this
      refine ⟨?_⟩
      show Value.bool (decide _) = Value.bool true
      rw [decide_eq_true (by omega)]
    · have hL1 : 1 ≤ L := by omega
      rw [show ((L - 1 : Nat) : Int) = (L : Int) - 1 by omega] at cC
      refine CallK_sub [78, 77, 3000] rfl (fun w hR h0 => cC _ _ _ w h0 (hG.castL hR)) ?_
      rintro _ _ ⟨k5, k6, gm, a2, d2, p1, p2, p3, p4, rfl, rfl⟩
      refine ⟨.v _, rfl, ?_⟩
      rcases gl_more p1 (l3 (L - 1) (by omega)) p2 with p5 | ⟨y, u, rfl, p5⟩
      · (repeat' ((conv => whnf); first | (refine bcase_prop (fun h => ?_) (fun h => ?_) <;> try (exfalso; omega)) | (refine bcase_nprop (fun h => ?_) (fun h => ?_) <;> try (exfalso; omega)) | (refine bcase_intro (fun h => ?_) (fun h => ?_) <;> (try simp only [Bool.not_eq_true', Bool.not_eq_false', decide_eq_true_eq, decide_eq_false_iff_not, Bool.not_eq_true, Bool.not_eq_false, Decidable.not_not] at h)) | refine And.intro (by first | omega | exact rfl | assumption | exact ⟨rfl, rfl, rfl, rfl, rfl⟩ | exact ⟨rfl, rfl, rfl, rfl⟩ | exact ⟨rfl, by omega⟩ | exact oneAll_of rfl | exact ⟨rfl, oneAll_of rfl⟩ | exact Ref.refl _ | exact Thin.ref (.skip (Thin.refl _)) | exact Thin.ref (.skip (.skip (Thin.refl _))) | exact ⟨rfl, Nat.le_of_ble_eq_true rfl⟩ | ((try unfold maxLen); (try simp only [List.length_nil, List.length_cons, List.length_append]); omega) | (refine ⟨rfl, ?_⟩; (try simp only [List.length_nil, List.length_cons, List.length_append]); omega)) ?_ | intro _)); (all_goals (conv => whnf))
        all_goals first | (exfalso; omega) | skip
        exact ⟨rfl⟩
      · have p6 := p4 (by simp)
        (repeat' ((conv => whnf); first | refine ⟨_, rdO 862 (i := 1) rfl rfl, ?_⟩ | (refine bcase_prop (fun h => ?_) (fun h => ?_) <;> try (exfalso; omega)) | (refine bcase_nprop (fun h => ?_) (fun h => ?_) <;> try (exfalso; omega)) | (refine bcase_intro (fun h => ?_) (fun h => ?_) <;> (try simp only [Bool.not_eq_true', Bool.not_eq_false', decide_eq_true_eq, decide_eq_false_iff_not, Bool.not_eq_true, Bool.not_eq_false, Decidable.not_not] at h)) | refine And.intro (by first | omega | exact rfl | assumption | exact ⟨rfl, rfl, rfl, rfl, rfl⟩ | exact ⟨rfl, rfl, rfl, rfl⟩ | exact ⟨rfl, by omega⟩ | exact oneAll_of rfl | exact ⟨rfl, oneAll_of rfl⟩ | exact Ref.refl _ | exact Thin.ref (.skip (Thin.refl _)) | exact Thin.ref (.skip (.skip (Thin.refl _))) | exact p6 | exact ⟨rfl, Nat.le_of_ble_eq_true rfl⟩ | ((try unfold maxLen); (try simp only [List.length_nil, List.length_cons, List.length_append]); omega) | (refine ⟨rfl, ?_⟩; (try simp only [List.length_nil, List.length_cons, List.length_append]); omega)) ?_ | intro _)); (all_goals (conv => whnf))
        all_goals first | (exfalso; omega) | skip
        refine ⟨?_⟩
        show Value.bool (decide _) = Value.bool true
        rw [decide_eq_true p5]
theorem law_SignatureTopI (w : World) (hG : TabF w []) (xs : List Int) (hx : ∀ n ∈ xs, (Lit.int .u8 n).wf = true) (hxl : xs.length ≤ 140737488351232) (a : Option Addr) (c : Nat) (hia : In w [] a (ints .u8 xs)) (more : Int) (hm : 0 ≤ more ∧ more ≤ 255) :
    Calls Tryd.prog fn_evergreenlaw22_SignatureTop #[.slice a xs.length c, .int .u8 more] w fun e w' => e = .returned (.bool true) ∧ Ext w w' := by
  obtain ⟨e1, b1⟩ := bytes_ints hx
  rw [e1] at hia
  have := law_SignatureTop w hG (xs.map Int.toNat) b1 (by simp; omega) a c hia more hm
  rwa [List.length_map] at this
end Go.Proofs.YtkkhpdkfploodaaDoor
/- Groups 246 levels on: the program. -/
namespace Go.Proofs.YtkkhpdkfploodaaDoor
open Go.EG
attribute [local irreducible] CallK QCall Go.Calls
set_option linter.unusedSimpArgs false
set_option linter.unusedVariables false
set_option maxRecDepth 20000
set_option maxHeartbeats 4000000

theorem law_SignatureShrinks (w : World) (hG : TabF w []) (t : List Nat) (hbt : ∀ x ∈ t, x < 256) (htl : t.length ≤ 4611686018427387904) (a : Option Addr) (c : Nat) (hia : In w [] a (bytesV t)) (lev : Int) (hm : 0 ≤ lev ∧ lev ≤ 65535) :
    Calls Tryd.prog fn_evergreenlaw22_SignatureShrinks #[.slice a t.length c, .int .u16 lev] w fun e w' => e = .returned (.bool true) ∧ Ext w w' := by
  refine pure_call [.v (.slice a t.length c), .v (.int .u16 lev)] w ok_evergreenlaw22_SignatureShrinks (by simp) ?_
  by_cases hs1 : t.length ≤ 1000
  case neg =>
    (repeat' ((conv => whnf); first | (refine bcase_prop (fun h => ?_) (fun h => ?_) <;> try (exfalso; omega)) | (refine bcase_nprop (fun h => ?_) (fun h => ?_) <;> try (exfalso; omega)) | (refine bcase_intro (fun h => ?_) (fun h => ?_) <;> (try simp only [Bool.not_eq_true', Bool.not_eq_false', decide_eq_true_eq, decide_eq_false_iff_not, Bool.not_eq_true, Bool.not_eq_false, Decidable.not_not] at h)) | refine And.intro (by first | omega | exact rfl | assumption | exact ⟨rfl, rfl, rfl, rfl, rfl⟩ | exact ⟨rfl, rfl, rfl, rfl⟩ | exact ⟨rfl, by omega⟩ | exact oneAll_of rfl | exact ⟨rfl, oneAll_of rfl⟩ | exact Ref.refl _ | exact Thin.ref (.skip (Thin.refl _)) | exact Thin.ref (.skip (.skip (Thin.refl _))) | exact ⟨rfl, Nat.le_of_ble_eq_true rfl⟩ | ((try unfold maxLen); (try simp only [List.length_nil, List.length_cons, List.length_append]); omega) | (refine ⟨rfl, ?_⟩; (try simp only [List.length_nil, List.length_cons, List.length_append]); omega)) ?_ | intro _)); (all_goals (conv => whnf))
    all_goals first | (exfalso; omega) | exact ⟨rfl⟩
  have c0 := fun w h => calls_awake22 w h
  have c1 := calls_New 20000 77
  have hw0 : WF ⟨20000, []⟩ := WF.new 20000 (by decide)
  have cT := fun w h => calls_copied t (by omega) a c w h
  (repeat' ((conv => whnf); first | (refine CallK_new (fun w hR => c1 w) ?_; rintro _ _ ⟨bn, fpn, rfl, rfl⟩; refine ⟨.v _, rfl, ?_⟩) | (refine CallK_new (fun w hR => calls_newP _ ⟨20000, []⟩ w) ?_; rintro _ _ ⟨bp, bt, f1, rfl, rfl⟩; refine ⟨.v _, rfl, ?_⟩) | refine CallK_slice 901 (fun w' hR => cT w' (hia.cast hR (by simp))) ?_ | (refine CallK_sub [78, 77, 3000] rfl (fun w hR h0 => calls_OfG bp bt bn ⟨20000, []⟩ hw0 t hbt (by omega) (by dsimp only [List.length_nil]; omega) _ _ _ _ _ w h0 (hG.castL hR) (In.besideL (key := 901) hR rfl)) ?_; rintro _ _ ⟨S, x, g1, g2, hw1, hg1, hx, hx0, hx1, hln, hout, rfl, rfl⟩; refine ⟨.v _, rfl, ?_⟩) | (refine bcase_prop (fun h => ?_) (fun h => ?_) <;> try (exfalso; omega)) | (refine bcase_nprop (fun h => ?_) (fun h => ?_) <;> try (exfalso; omega)) | (refine bcase_intro (fun h => ?_) (fun h => ?_) <;> (try simp only [Bool.not_eq_true', Bool.not_eq_false', decide_eq_true_eq, decide_eq_false_iff_not, Bool.not_eq_true, Bool.not_eq_false, Decidable.not_not] at h)) | refine And.intro (by first | omega | exact rfl | assumption | exact ⟨rfl, rfl, rfl, rfl, rfl⟩ | exact ⟨rfl, rfl, rfl, rfl⟩ | exact ⟨rfl, by omega⟩ | exact oneAll_of rfl | exact ⟨rfl, oneAll_of rfl⟩ | exact Ref.refl _ | exact Thin.ref (.skip (Thin.refl _)) | exact Thin.ref (.skip (.skip (Thin.refl _))) | exact ⟨rfl, Nat.le_of_ble_eq_true rfl⟩ | ((try unfold maxLen); (try simp only [List.length_nil, List.length_cons, List.length_append]); omega) | (refine ⟨rfl, ?_⟩; (try simp only [List.length_nil, List.length_cons, List.length_append]); omega)) ?_ | intro _)); (all_goals (conv => whnf))
  have hsm1 := hw1.small
  by_cases ht : t = []
  · have hx00 := hx0 ht
    subst hx00
    subst ht
    simp only [List.length_nil] at *
    have cA := calls_Top0 bp bt bn S
    have hq : lev % (0 + 1) / 2 * 2 = 0 := by rw [show (0 : Int) + 1 = 1 from rfl, Int.emod_one]; rfl
    have cB := calls_Seq0 bp bt bn S hw1 0 (Int.le_refl _)
    have cC := calls_Seq0 bp bt bn S hw1 246 (by decide)
    (repeat' ((conv => whnf); first | rw [hq] | (refine CallK_pure (.v _) (fun w hR => c0 w (hG.cast hR (by simp))) ?_) | (refine CallK_sub [78, 77, 3000] rfl (fun w hR h0 => cA _ _ _ w h0 (hG.castL hR)) ?_; rintro _ _ ⟨rfl, k1, k2, rfl⟩; refine ⟨.v _, rfl, ?_⟩) | (refine CallK_sub [78, 77, 3000] rfl (fun w hR h0 => cB _ _ _ w h0 (hG.castL hR)) ?_; rintro _ _ ⟨rfl, k3, k4, rfl⟩; refine ⟨.v _, rfl, ?_⟩) | (refine CallK_sub [78, 77, 3000] rfl (fun w hR h0 => cC _ _ _ w h0 (hG.castL hR)) ?_; rintro _ _ ⟨rfl, k5, k6, rfl⟩; refine ⟨.v _, rfl, ?_⟩) | (refine bcase_prop (fun h => ?_) (fun h => ?_) <;> try (exfalso; omega)) | (refine bcase_nprop (fun h => ?_) (fun h => ?_) <;> try (exfalso; omega)) | (refine bcase_intro (fun h => ?_) (fun h => ?_) <;> (try simp only [Bool.not_eq_true', Bool.not_eq_false', decide_eq_true_eq, decide_eq_false_iff_not, Bool.not_eq_true, Bool.not_eq_false, Decidable.not_not] at h)) | refine And.intro (by first | omega | exact rfl | assumption | exact ⟨rfl, rfl, rfl, rfl, rfl⟩ | exact ⟨rfl, rfl, rfl, rfl⟩ | exact ⟨rfl, by omega⟩ | exact oneAll_of rfl | exact ⟨rfl, oneAll_of rfl⟩ | exact Ref.refl _ | exact Thin.ref (.skip (Thin.refl _)) | exact Thin.ref (.skip (.skip (Thin.refl _))) | exact ⟨rfl, Nat.le_of_ble_eq_true rfl⟩ | ((try unfold maxLen); (try simp only [List.length_nil, List.length_cons, List.length_append]); omega) | (refine ⟨rfl, ?_⟩; (try simp only [List.length_nil, List.length_cons, List.length_append]); omega)) ?_ | intro _)); (all_goals (conv => whnf))
    all_goals first | (exfalso; omega) | skip
    all_goals exact ⟨rfl⟩
  · obtain ⟨x1, hsg⟩ := hx1 ht
    obtain ⟨L, l1, l2, l3⟩ := hsg.level
    have hlv := hw1.lev' (n := x) (by omega) hx.2
    have cA := calls_Top bp bt bn S hw1 x (by omega)
    rw [levRes_sig x1 hx.2 l1] at cA
    obtain ⟨n, hn⟩ : ∃ n : Nat, n = lev.toNat % (L + 1) / 2 * 2 := ⟨_, rfl⟩
    have hn2 : n % 2 = 0 := by rw [hn]; exact Nat.mul_mod_left _ _
    have hnL : n ≤ lev.toNat := by
      rw [hn]
      exact Nat.le_trans (Nat.div_mul_le_self _ _) (Nat.mod_le _ _)
    have hq : lev % ((L : Int) + 1) / 2 * 2 = (n : Int) := by
      rw [hn]
      have : lev = (lev.toNat : Int) := by omega
      conv => lhs; rw [this]
      push_cast
      rfl
    have cB := fun f1 f2 fp w h h' => calls_SeqT 861 bp bt bn S hw1 x n t (by omega) x1 hx.2 hsg f1 f2 fp w h h'
    have cC := fun f1 f2 fp w h h' => calls_SeqT 862 bp bt bn S hw1 x (n + 246) t (by omega) x1 hx.2 hsg f1 f2 fp w h h'
    have e2 : ((n + 246 : Nat) : Int) = (n : Int) + 246 := by omega
    rw [e2] at cC
    have hsh := shrinks t hn2 (k := n + 246) rfl
    (repeat' ((conv => whnf); first | rw [hq] | (refine CallK_pure (.v _) (fun w hR => c0 w (hG.cast hR (by simp))) ?_) | (refine CallK_sub [78, 77, 3000] rfl (fun w hR h0 => cA _ _ _ w h0 (hG.castL hR)) ?_; rintro _ _ ⟨rfl, k1, k2, rfl⟩; refine ⟨.v _, rfl, ?_⟩) | (refine CallK_sub [78, 77, 3000] rfl (fun w hR h0 => cB _ _ _ w h0 (hG.castL hR)) ?_; rintro _ _ ⟨k3, k4, gl, a1, d1, q1, q2, q3, q4, rfl, rfl⟩; refine ⟨.v _, rfl, ?_⟩) | (refine CallK_sub [78, 77, 3000] rfl (fun w hR h0 => cC _ _ _ w h0 (hG.castL hR)) ?_; rintro _ _ ⟨k5, k6, gm, a2, d2, p1, p2, p3, p4, rfl, rfl⟩; refine ⟨.v _, rfl, ?_⟩) | (refine bcase_prop (fun h => ?_) (fun h => ?_) <;> try (exfalso; omega)) | (refine bcase_nprop (fun h => ?_) (fun h => ?_) <;> try (exfalso; omega)) | (refine bcase_intro (fun h => ?_) (fun h => ?_) <;> (try simp only [Bool.not_eq_true', Bool.not_eq_false', decide_eq_true_eq, decide_eq_false_iff_not, Bool.not_eq_true, Bool.not_eq_false, Decidable.not_not] at h)) | refine And.intro (by first | omega | exact rfl | assumption | exact ⟨rfl, rfl, rfl, rfl, rfl⟩ | exact ⟨rfl, rfl, rfl, rfl⟩ | exact ⟨rfl, by omega⟩ | exact oneAll_of rfl | exact ⟨rfl, oneAll_of rfl⟩ | exact Ref.refl _ | exact Thin.ref (.skip (Thin.refl _)) | exact Thin.ref (.skip (.skip (Thin.refl _))) | exact ⟨rfl, Nat.le_of_ble_eq_true rfl⟩ | ((try unfold maxLen); (try simp only [List.length_nil, List.length_cons, List.length_append]); omega) | (refine ⟨rfl, ?_⟩; (try simp only [List.length_nil, List.length_cons, List.length_append]); omega)) ?_ | intro _)); (all_goals (conv => whnf))
    all_goals first | (exfalso; omega) | skip
    have n1 := congrArg List.length q2
    have n2 := congrArg List.length p2
    rw [List.length_map] at n1 n2
    refine ⟨?_⟩
    show Value.bool (decide _) = Value.bool true
    rw [decide_eq_true (by omega)]
theorem law_SignatureShrinksI (w : World) (hG : TabF w []) (xs : List Int) (hx : ∀ n ∈ xs, (Lit.int .u8 n).wf = true) (hxl : xs.length ≤ 140737488351232) (a : Option Addr) (c : Nat) (hia : In w [] a (ints .u8 xs)) (lev : Int) (hm : 0 ≤ lev ∧ lev ≤ 65535) :
    Calls Tryd.prog fn_evergreenlaw22_SignatureShrinks #[.slice a xs.length c, .int .u16 lev] w fun e w' => e = .returned (.bool true) ∧ Ext w w' := by
  obtain ⟨e1, b1⟩ := bytes_ints hx
  rw [e1] at hia
  have := law_SignatureShrinks w hG (xs.map Int.toNat) b1 (by simp; omega) a c hia lev hm
  rwa [List.length_map] at this
end Go.Proofs.YtkkhpdkfploodaaDoor
/- Rules that are there. Plain Lean: no program in sight. -/
namespace Go.Proofs.YtkkhpdkfploodaaDoor
open Go.EG
set_option linter.unusedSimpArgs false
set_option linter.unusedVariables false

theorem find_pair {S : Sto} (hw : WF S) {l x y : Int} (h1 : 1 ≤ l) (h2 : l ≤ S.E.length) (hx : 1 ≤ x ∧ x ≤ S.E.length) (hy : 1 ≤ y ∧ y ≤ S.E.length) (h : tm S.E l = .pr (tm S.E x) (tm S.E y)) : idOf (pairR x y) S.E = l.toNat := by
  obtain ⟨hr, hl, ht, _, hid⟩ := hw.at_ h1 h2
  rw [h] at ht
  unfold mkT at ht
  rcases hr with ⟨k1, _⟩ | ⟨k1, k2, k3, k4, k5, k6, k7⟩ | ⟨k1, _⟩
  · rw [if_pos k1] at ht; cases ht
  · rw [if_neg (by omega), if_pos k1] at ht
    injection ht with ha hb
    have ea := (hw.inj_iff hx.1 hx.2 k4 (by omega)).1 ha
    have eb := (hw.inj_iff hy.1 hy.2 k6 (by omega)).1 hb
    rw [← hid]
    congr 1
    generalize (atE S.E l).r = r at *
    obtain ⟨_, _, _, _, _⟩ := r
    simp only at *
    subst k1 k2 k3 ea eb
    rfl
  · rw [if_neg (by omega), if_neg (by omega)] at ht; cases ht
theorem find_pow {S : Sto} (hw : WF S) {l x t : Int} (h1 : 1 ≤ l) (h2 : l ≤ S.E.length) (hx : 1 ≤ x ∧ x ≤ S.E.length) (ht0 : 0 ≤ t) (h : tm S.E l = .pw (tm S.E x) t.toNat) : idOf (powR x t) S.E = l.toNat := by
  obtain ⟨hr, hl, ht, _, hid⟩ := hw.at_ h1 h2
  rw [h] at ht
  unfold mkT at ht
  rcases hr with ⟨k1, _⟩ | ⟨k1, _⟩ | ⟨k1, k2, k3, k4, k5, k6⟩
  · rw [if_pos k1] at ht; cases ht
  · rw [if_neg (by omega), if_pos k1] at ht; cases ht
  · rw [if_neg (by omega), if_neg (by omega)] at ht
    injection ht with ha hb
    have ea := (hw.inj_iff hx.1 hx.2 k5 (by omega)).1 ha
    rw [← hid]
    congr 1
    generalize (atE S.E l).r = r at *
    obtain ⟨_, _, _, _, _⟩ := r
    simp only at *
    have : t = ‹Int› := by omega
    subst k1 k2 k3 ea this
    rfl
/-- A list of groups, written out. -/
def outG (gl : List (Int × Int)) : List Int := gl.flatMap fun g => List.replicate g.2.toNat g.1
theorem outG_snoc (gl : List (Int × Int)) (g : Int × Int) : outG (gl ++ [g]) = outG gl ++ List.replicate g.2.toNat g.1 := by simp [outG]
theorem outG_tms {S : Sto} {gl : List (Int × Int)} {ts : List Tm} (h : gl.map (grT S) = runsT ts) : (outG gl).map (tm S.E) = ts := by
  have e := runsT_exp ts
  rw [← h] at e
  rw [← e]
  unfold outG
  rw [List.map_flatMap, List.flatMap_map]
  congr 1
  funext g
  simp [grT]
theorem outG_mem {S : Sto} {gl : List (Int × Int)} (h : Gok S gl) : ∀ x ∈ outG gl, 1 ≤ x ∧ x ≤ S.E.length := fun x hx => by
  obtain ⟨g, hg, hx⟩ := List.mem_flatMap.1 hx
  rw [(List.mem_replicate.1 hx).2]
  exact (h.ok g hg).1
theorem outG_take_le (gl : List (Int × Int)) (i : Nat) : (outG (gl.take i)).length ≤ (outG gl).length := by
  conv => rhs; rw [← List.take_append_drop i gl]
  unfold outG
  rw [List.flatMap_append, List.length_append]
  omega
/-- What the run level's check asks. -/
theorem ran_ok {S : Sto} (hw : WF S) {ol : List (Int × Int)} (hg : Gok S ol) {ls : List Int} (hl : ∀ x ∈ ls, 1 ≤ x ∧ x ≤ S.E.length) {ts : List Tm} (h1 : ol.map (grT S) = runsT ts) (h2 : ls.map (tm S.E) = runT ts) : ls.length = ol.length ∧ ∀ i, i < ol.length → (1 < (ol.getD i (0, 0)).2 → idOf (powR (ol.getD i (0, 0)).1 (ol.getD i (0, 0)).2) S.E = (ls.getD i 0).toNat ∧ 1 ≤ ls.getD i 0) ∧ (¬ 1 < (ol.getD i (0, 0)).2 → ls.getD i 0 = (ol.getD i (0, 0)).1) := by
  have hlen : ls.length = ol.length := by
    have e1 := congrArg List.length h1
    have e2 := congrArg List.length h2
    rw [runT_len] at e2
    simp only [List.length_map] at e1 e2
    omega
  refine ⟨hlen, fun i hi => ?_⟩
  have hmg : ol.getD i (0, 0) ∈ ol := by
    rw [List.getD_eq_getElem?_getD, List.getElem?_eq_getElem hi]; exact List.getElem_mem _
  have hml : ls.getD i 0 ∈ ls := getD_mem (by omega)
  obtain ⟨g1, g2⟩ := hg.ok _ hmg
  obtain ⟨l1, l2⟩ := hl _ hml
  have e : tm S.E (ls.getD i 0) = powT (grT S (ol.getD i (0, 0))) := by
    have e1 : (ls.map (tm S.E)).getD i .nil = (ol.map fun g => powT (grT S g)).getD i .nil := by
      rw [h2, runT, ← h1, List.map_map]; rfl
    rwa [getD_map (d := 0) (by omega), getD_map (d := (0, 0)) hi] at e1
  unfold powT grT at e
  simp only at e
  refine ⟨fun h => ?_, fun h => ?_⟩
  · rw [if_neg (by omega)] at e
    exact ⟨find_pow hw l1 l2 g1 (by omega) e, l1⟩
  · rw [if_pos (by omega)] at e
    exact (hw.inj_iff l1 l2 g1.1 g1.2).1 e
end Go.Proofs.YtkkhpdkfploodaaDoor
/- One level after the other: the program. -/
namespace Go.Proofs.YtkkhpdkfploodaaDoor
open Go.EG
attribute [local irreducible] CallK QCall Go.Calls
set_option linter.unusedSimpArgs false
set_option linter.unusedVariables false
set_option maxRecDepth 20000
set_option maxHeartbeats 4000000

theorem calls_FindT (b : Nat) (S : Sto) (r : Rul) (h0 : idOf r S.E ≠ 0) : SC fn_P_intern_Store_Find #[pS b, ruV r] b S S (.tuple #[.int .i64 (idOf r S.E), .bool true]) := by
  intro key fp w hR
  refine pack_call [.ptr 1000 b 0, .v (ruV r)] ok_P_intern_Store_Find (by simp) hR ?_
  rintro ⟨a, c, mb⟩ hfp hR'
  rw [fS_eq] at hR' ⊢
  have hm := mget_map r S.E 0
  have hk := keyOk_ru r
  rw [if_neg h0] at hm
  (repeat' ((conv => whnf); first | refine lk_some hm ?_ | refine ⟨.mp 1002 _, ⟨rfl, rfl⟩, ?_⟩ | refine ⟨_, ⟨rfl, trivial⟩, ?_⟩ | (refine bcase_prop (fun h => ?_) (fun h => ?_) <;> try (exfalso; omega)) | (refine bcase_nprop (fun h => ?_) (fun h => ?_) <;> try (exfalso; omega)) | (refine bcase_intro (fun h => ?_) (fun h => ?_) <;> (try simp only [Bool.not_eq_true', Bool.not_eq_false', decide_eq_true_eq, decide_eq_false_iff_not, Bool.not_eq_true, Bool.not_eq_false, Decidable.not_not] at h)) | refine And.intro (by first | omega | exact rfl | assumption | exact ⟨rfl, rfl, rfl, rfl, rfl⟩ | exact ⟨rfl, rfl, rfl, rfl⟩ | exact ⟨rfl, by omega⟩ | exact oneAll_of rfl | exact ⟨rfl, oneAll_of rfl⟩ | exact Ref.refl _ | exact Thin.ref (.skip (Thin.refl _)) | exact Thin.ref (.skip (.skip (Thin.refl _))) | exact ⟨rfl, rfl, hk⟩ | exact ⟨rfl, Nat.le_of_ble_eq_true rfl⟩ | ((try unfold maxLen); (try simp only [List.length_nil, List.length_cons, List.length_append]); omega) | (refine ⟨rfl, ?_⟩; (try simp only [List.length_nil, List.length_cons, List.length_append]); omega)) ?_ | intro _)); (all_goals (conv => whnf))
  exact ⟨endR a c mb (.skip (Thin.refl _)) rfl⟩
theorem calls_ran (b : Nat) (S : Sto) (ol : List (Int × Int)) (ls : List Int) (hlen : ls.length = ol.length) (hol : ol.length ≤ 1000)
    (hh : ∀ i, i < ol.length → (1 < (ol.getD i (0, 0)).2 → idOf (powR (ol.getD i (0, 0)).1 (ol.getD i (0, 0)).2) S.E = (ls.getD i 0).toNat ∧ 1 ≤ ls.getD i 0) ∧ (¬ 1 < (ol.getD i (0, 0)).2 → ls.getD i 0 = (ol.getD i (0, 0)).1))
    (a a' : Option Addr) (c c' : Nat) (f : List Nat) (fp : List Nat) (w : World) (hR : R w fp [packE 77 f (fS b S)] w) (h1 : In w fp a (prs .i64 ol)) (h2 : In w fp a' (ints .i64 ls)) :
    Calls Tryd.prog fn_evergreenlaw22_ran #[pS b, .slice a ol.length c, .slice a' ls.length c'] w fun e w' => ∃ v L1, e = .returned v ∧ R w fp L1 w' ∧ (v = .bool true ∧ ∃ f', L1 = [packE 77 f' (fS b S)]) := by
  refine part_call [.v (pS b), .v (.slice a ol.length c), .v (.slice a' ls.length c')] ok_evergreenlaw22_ran (by simp) hR ?_
  (repeat' ((conv => whnf); first | (refine bcase_prop (fun h => ?_) (fun h => ?_) <;> try (exfalso; omega)) | (refine bcase_nprop (fun h => ?_) (fun h => ?_) <;> try (exfalso; omega)) | (refine bcase_intro (fun h => ?_) (fun h => ?_) <;> (try simp only [Bool.not_eq_true', Bool.not_eq_false', decide_eq_true_eq, decide_eq_false_iff_not, Bool.not_eq_true, Bool.not_eq_false, Decidable.not_not] at h)) | refine And.intro (by first | omega | exact rfl | assumption | exact ⟨rfl, rfl, rfl, rfl, rfl⟩ | exact ⟨rfl, rfl, rfl, rfl⟩ | exact ⟨rfl, by omega⟩ | exact oneAll_of rfl | exact ⟨rfl, oneAll_of rfl⟩ | exact Ref.refl _ | exact Thin.ref (.skip (Thin.refl _)) | exact Thin.ref (.skip (.skip (Thin.refl _))) | exact ⟨rfl, Nat.le_of_ble_eq_true rfl⟩ | ((try unfold maxLen); (try simp only [List.length_nil, List.length_cons, List.length_append]); omega) | (refine ⟨rfl, ?_⟩; (try simp only [List.length_nil, List.length_cons, List.length_append]); omega)) ?_ | intro _)); (all_goals (conv => whnf))
  all_goals first | (exfalso; omega) | skip
  refine VC_loop (Nat × List Nat) (fun y => [(0, .v (pS b)), (1, .v (.slice a ol.length c)), (2, .v (.slice a' ls.length c')), (7, .v (.int .i64 y.1))]) (fun y => [packE 77 y.2 (fS b S)]) (fun y => y.1 ≤ ol.length) (fun y => ol.length - y.1) (0, _) (Nat.zero_le _) (by (repeat ((conv => whnf); refine And.intro (by first | exact rfl | exact vint_eq (by omega) | exact vint_eq (by (dsimp only; omega)) | exact vsl_eq (by omega) | exact vsl_eq (by first | (dsimp only; omega) | (simp; done) | (simp; omega))) ?_)); exact trivial) (Ref.refl _) ?_
  rintro ⟨i, f⟩ hi
  dsimp only at hi ⊢
  by_cases hlt : i < ol.length
  · obtain ⟨k1, k2⟩ := hh i hlt
    obtain ⟨p1, p2⟩ := prs_get (k := .i64) hlt
    have hne := h1.ne' (k := i * 2) (by rw [prs_len]; omega)
    have hne' := h2.ne' (k := i) (by rw [ints_length]; omega)
    have r1 := fun {L : List Ent} => h1.rd (L := L) p1
    have r2 := fun {L : List Ent} => h1.rd (L := L) p2
    have r3 := fun {L : List Ent} => h2.rd (L := L) (ints_getD (show i < ls.length by omega))
    generalize ol.getD i (0, 0) = g at *
    generalize ls.getD i 0 = l at *
    by_cases hg : 1 < g.2
    · obtain ⟨q1, q2⟩ := k1 hg
      have c1 := calls_FindT b S (powR g.1 g.2) (by omega)
      rw [q1, show ((l.toNat : Nat) : Int) = l by omega] at c1
      unfold powR at c1
      (repeat' ((conv => whnf); first | (refine CallK_pack (key := 77) rfl (fun w hR h0 => c1 _ _ _ h0) ?_; rintro _ _ ⟨rfl, fp', rfl⟩; refine ⟨.v _, rfl, ?_⟩) | rw [Int.toNat_natCast] | refine ⟨_, r1, ?_⟩ | refine ⟨_, r2, ?_⟩ | rw [Nat.mul_one] | refine ⟨_, r3, ?_⟩ | (refine bcase_prop (fun h => ?_) (fun h => ?_) <;> try (exfalso; omega)) | (refine bcase_nprop (fun h => ?_) (fun h => ?_) <;> try (exfalso; omega)) | (refine bcase_intro (fun h => ?_) (fun h => ?_) <;> (try simp only [Bool.not_eq_true', Bool.not_eq_false', decide_eq_true_eq, decide_eq_false_iff_not, Bool.not_eq_true, Bool.not_eq_false, Decidable.not_not] at h)) | refine And.intro (by first | omega | exact rfl | assumption | exact ⟨rfl, rfl, rfl, rfl, rfl⟩ | exact ⟨rfl, rfl, rfl, rfl⟩ | exact ⟨rfl, by omega⟩ | exact oneAll_of rfl | exact ⟨rfl, oneAll_of rfl⟩ | exact Ref.refl _ | exact Thin.ref (.skip (Thin.refl _)) | exact Thin.ref (.skip (.skip (Thin.refl _))) | exact hne | exact hne' | exact ⟨rfl, Nat.le_of_ble_eq_true rfl⟩ | ((try unfold maxLen); (try simp only [List.length_nil, List.length_cons, List.length_append]); omega) | (refine ⟨rfl, ?_⟩; (try simp only [List.length_nil, List.length_cons, List.length_append]); omega)) ?_ | intro _)); (all_goals (conv => whnf))
      all_goals first | (exfalso; omega) | skip
      exact loop_next (i + 1, _) (by ((try dsimp only); omega)) (by ((try dsimp only); omega)) (by (repeat ((conv => whnf); refine And.intro (by first | exact rfl | exact vint_eq (by omega) | exact vint_eq (by (dsimp only; omega)) | exact vsl_eq (by omega) | exact vsl_eq (by first | (dsimp only; omega) | (simp; done) | (simp; omega))) ?_)); exact trivial) (Ref.takes [77] rfl (Thin.refl _))
    · have q := k2 hg
      (repeat' ((conv => whnf); first | rw [Int.toNat_natCast] | refine ⟨_, r1, ?_⟩ | refine ⟨_, r2, ?_⟩ | rw [Nat.mul_one] | refine ⟨_, r3, ?_⟩ | (refine bcase_prop (fun h => ?_) (fun h => ?_) <;> try (exfalso; omega)) | (refine bcase_nprop (fun h => ?_) (fun h => ?_) <;> try (exfalso; omega)) | (refine bcase_intro (fun h => ?_) (fun h => ?_) <;> (try simp only [Bool.not_eq_true', Bool.not_eq_false', decide_eq_true_eq, decide_eq_false_iff_not, Bool.not_eq_true, Bool.not_eq_false, Decidable.not_not] at h)) | refine And.intro (by first | omega | exact rfl | assumption | exact ⟨rfl, rfl, rfl, rfl, rfl⟩ | exact ⟨rfl, rfl, rfl, rfl⟩ | exact ⟨rfl, by omega⟩ | exact oneAll_of rfl | exact ⟨rfl, oneAll_of rfl⟩ | exact Ref.refl _ | exact Thin.ref (.skip (Thin.refl _)) | exact Thin.ref (.skip (.skip (Thin.refl _))) | exact hne | exact hne' | exact ⟨rfl, Nat.le_of_ble_eq_true rfl⟩ | ((try unfold maxLen); (try simp only [List.length_nil, List.length_cons, List.length_append]); omega) | (refine ⟨rfl, ?_⟩; (try simp only [List.length_nil, List.length_cons, List.length_append]); omega)) ?_ | intro _)); (all_goals (conv => whnf))
      all_goals first | (exfalso; omega) | skip
      exact loop_next (i + 1, _) (by ((try dsimp only); omega)) (by ((try dsimp only); omega)) (by (repeat ((conv => whnf); refine And.intro (by first | exact rfl | exact vint_eq (by omega) | exact vint_eq (by (dsimp only; omega)) | exact vsl_eq (by omega) | exact vsl_eq (by first | (dsimp only; omega) | (simp; done) | (simp; omega))) ?_)); exact trivial) (Ref.takes [77] rfl (Thin.refl _))
  · (repeat' ((conv => whnf); first | (refine bcase_prop (fun h => ?_) (fun h => ?_) <;> try (exfalso; omega)) | (refine bcase_nprop (fun h => ?_) (fun h => ?_) <;> try (exfalso; omega)) | (refine bcase_intro (fun h => ?_) (fun h => ?_) <;> (try simp only [Bool.not_eq_true', Bool.not_eq_false', decide_eq_true_eq, decide_eq_false_iff_not, Bool.not_eq_true, Bool.not_eq_false, Decidable.not_not] at h)) | refine And.intro (by first | omega | exact rfl | assumption | exact ⟨rfl, rfl, rfl, rfl, rfl⟩ | exact ⟨rfl, rfl, rfl, rfl⟩ | exact ⟨rfl, by omega⟩ | exact oneAll_of rfl | exact ⟨rfl, oneAll_of rfl⟩ | exact Ref.refl _ | exact Thin.ref (.skip (Thin.refl _)) | exact Thin.ref (.skip (.skip (Thin.refl _))) | exact ⟨rfl, Nat.le_of_ble_eq_true rfl⟩ | ((try unfold maxLen); (try simp only [List.length_nil, List.length_cons, List.length_append]); omega) | (refine ⟨rfl, ?_⟩; (try simp only [List.length_nil, List.length_cons, List.length_append]); omega)) ?_ | intro _)); (all_goals (conv => whnf))
    all_goals first | (exfalso; omega) | skip
    all_goals exact ⟨⟨_, Ref.takes [77] rfl (Thin.refl _), rfl, _, rfl⟩⟩

/-! ### A pair level -/

structure PdG where
  i : Nat
  at_ : Nat
  f1 : List Nat
  f2 : List Nat
theorem calls_paired (bp bt bs : Nat) (S : Sto) (hw : WF S) (xs ls : List Int) (hx : ∀ x ∈ xs, 1 ≤ x ∧ x ≤ S.E.length) (hl : ∀ x ∈ ls, 1 ≤ x ∧ x ≤ S.E.length) (hxl : xs.length ≤ 1000) (n : Nat) (hn : n ≤ 1000000000) (hp : ls.map (tm S.E) = pairT (xs.map (tm S.E)) n)
    (a a' : Option Addr) (c c' : Nat) (f1 f2 fp : List Nat) (w : World) (hR : R w fp (fP bp bt bs S f1 f2) w) (hG : TabF w fp) (h1 : In w fp a (prs .i64 (xs.map fun x => (x, 1)))) (h2 : In w fp a' (ints .i64 ls)) :
    Calls Tryd.prog fn_evergreenlaw22_paired #[pS bp, .slice a xs.length c, .slice a' ls.length c', .int .i64 n] w fun e w' => ∃ v L1, e = .returned v ∧ R w fp L1 w' ∧ (v = .bool true ∧ ∃ g1 g2, L1 = fP bp bt bs S g1 g2) := by
  refine part_call [.ptr 3000 bp 0, .v (.slice a xs.length c), .v (.slice a' ls.length c'), .v (.int .i64 n)] ok_evergreenlaw22_paired (by simp) hR ?_
  have hll : ls.length ≤ xs.length := by
    have := congrArg List.length hp
    have h3 := pairT_len (xs.map (tm S.E)) n
    simp only [List.length_map] at this h3
    omega
  (repeat' ((conv => whnf); first | (refine bcase_prop (fun h => ?_) (fun h => ?_) <;> try (exfalso; omega)) | (refine bcase_nprop (fun h => ?_) (fun h => ?_) <;> try (exfalso; omega)) | (refine bcase_intro (fun h => ?_) (fun h => ?_) <;> (try simp only [Bool.not_eq_true', Bool.not_eq_false', decide_eq_true_eq, decide_eq_false_iff_not, Bool.not_eq_true, Bool.not_eq_false, Decidable.not_not] at h)) | refine And.intro (by first | omega | exact rfl | assumption | exact ⟨rfl, rfl, rfl, rfl, rfl⟩ | exact ⟨rfl, rfl, rfl, rfl⟩ | exact ⟨rfl, by omega⟩ | exact oneAll_of rfl | exact ⟨rfl, oneAll_of rfl⟩ | exact Ref.refl _ | exact Thin.ref (.skip (Thin.refl _)) | exact Thin.ref (.skip (.skip (Thin.refl _))) | exact ⟨rfl, Nat.le_of_ble_eq_true rfl⟩ | ((try unfold maxLen); (try simp only [List.length_nil, List.length_cons, List.length_append]); omega) | (refine ⟨rfl, ?_⟩; (try simp only [List.length_nil, List.length_cons, List.length_append]); omega)) ?_ | intro _)); (all_goals (conv => whnf))
  all_goals first | (exfalso; omega) | skip
  refine VC_loop PdG (fun y => [(0, .ptr 3000 bp 0), (1, .v (.slice a xs.length c)), (2, .v (.slice a' ls.length c')), (3, .v (.int .i64 n)), (9, .v (.int .i64 y.at_)), (10, .v (.int .i64 y.i))]) (fun y => fP bp bt bs S y.f1 y.f2)
    (fun y => y.i ≤ xs.length ∧ y.at_ ≤ ls.length ∧ (ls.drop y.at_).map (tm S.E) = pairT ((xs.drop y.i).map (tm S.E)) n) (fun y => xs.length - y.i) ⟨0, 0, _, _⟩ ⟨Nat.zero_le _, Nat.zero_le _, hp⟩ (by (repeat ((conv => whnf); refine And.intro (by first | exact rfl | exact vint_eq (by omega) | exact vint_eq (by (dsimp only; omega)) | exact vsl_eq (by omega) | exact vsl_eq (by first | (dsimp only; omega) | (simp; done) | (simp; omega))) ?_)); exact trivial) (Ref.takes [78, 77, 3000] rfl (Thin.refl _)) ?_
  clear hp
  rintro ⟨i, at_, g1, g2⟩ ⟨hi, hat, hp⟩
  dsimp only at hi hat hp ⊢
  by_cases hlt : i < xs.length
  · have hxi := hx (xs.getD i 0) (getD_mem hlt)
    have hpl : 0 < (ls.drop at_).length := by
      have := congrArg List.length hp
      rw [List.length_map] at this
      rw [this]
      exact pairT_pos (by rw [List.length_map, List.length_drop]; omega)
    rw [List.length_drop] at hpl
    have hatl : at_ < ls.length := by omega
    have hli := hl (ls.getD at_ 0) (getD_mem hatl)
    have hlen1 : (xs.map fun x => (x, (1 : Int))).length = xs.length := by simp
    have gx : ∀ j, j < xs.length → (xs.map fun x => (x, (1 : Int))).getD j (0, 0) = (xs.getD j 0, 1) := fun j hj => getD_map (d := 0) hj
    obtain ⟨p1, p2⟩ := prs_get (k := .i64) (l := xs.map fun x => (x, (1 : Int))) (i := i) (by rw [hlen1]; exact hlt)
    rw [gx i hlt] at p1 p2
    have hne := h1.ne' (k := i * 2) (by rw [prs_len, hlen1]; omega)
    have hne' := h2.ne' (k := at_) (by rw [ints_length]; omega)
    have r1 := fun {L : List Ent} => h1.rd (L := L) p1
    have r2 := fun {L : List Ent} => h1.rd (L := L) p2
    have r3 := fun {L : List Ent} => h2.rd (L := L) (ints_getD hatl)
    rw [List.drop_eq_getElem_cons hlt, List.drop_eq_getElem_cons hatl, List.map_cons, List.map_cons, show xs[i] = xs.getD i 0 by rw [List.getD_eq_getElem?_getD, List.getElem?_eq_getElem hlt]; rfl, show ls[at_] = ls.getD at_ 0 by rw [List.getD_eq_getElem?_getD, List.getElem?_eq_getElem hatl]; rfl] at hp
    have cK := calls_Key bt bs S hw (xs.getD i 0)
    rw [keyRes_ok hxi] at cK
    by_cases hlast : i + 1 < xs.length
    · have hyi := hx (xs.getD (i + 1) 0) (getD_mem hlast)
      obtain ⟨p4, p5⟩ := prs_get (k := .i64) (l := xs.map fun x => (x, (1 : Int))) (i := i + 1) (by rw [hlen1]; exact hlast)
      rw [gx (i + 1) hlast] at p4
      have r4 := fun {L : List Ent} => h1.rd (L := L) p4
      have hdr : xs.drop (i + 1) = xs.getD (i + 1) 0 :: xs.drop (i + 1 + 1) := by
        rw [List.drop_eq_getElem_cons hlast, show xs[i + 1] = xs.getD (i + 1) 0 by rw [List.getD_eq_getElem?_getD, List.getElem?_eq_getElem hlast]; rfl]
      rw [hdr, List.map_cons] at hp
      have cK2 := calls_Key bt bs S hw (xs.getD (i + 1) 0)
      rw [keyRes_ok hyi] at cK2
      have cF := calls_rFits (tm S.E (xs.getD i 0)).key (tm S.E (xs.getD (i + 1) 0)).key n
      have b1 := (tm S.E (xs.getD i 0)).key_lt'
      have b2 := (tm S.E (xs.getD (i + 1) 0)).key_lt'
      have e4 : ((i : Int) + 1).toNat = i + 1 := by omega
      generalize xs.getD i 0 = x at *
      generalize xs.getD (i + 1) 0 = y at *
      generalize hlv : ls.getD at_ 0 = l at *
      cases hf : fitsF (tm S.E x).key (tm S.E y).key n with
      | true =>
        rw [pairT_take hf] at hp
        simp only [List.cons.injEq] at hp
        have hfp := find_pair hw hli.1 hli.2 hxi hyi hp.1
        have cP := calls_FindT bs S (pairR x y) (by omega)
        rw [hfp, show ((l.toNat : Nat) : Int) = l by omega] at cP
        unfold pairR at cP
        rw [hf] at cF
        (repeat' ((conv => whnf); first | rw [e4] | rw [Int.toNat_natCast] | refine ⟨_, r1, ?_⟩ | refine ⟨_, r2, ?_⟩ | refine ⟨_, r4, ?_⟩ | rw [Nat.mul_one] | refine ⟨_, r3, ?_⟩ | (refine CallK_pack2 (key1 := 78) (key2 := 77) rfl rfl (fun w hR h0 => cK _ _ _ _ _ h0 (hG.cast2 hR)) ?_; rintro _ _ ⟨rfl, fp1', fp2', rfl⟩; refine ⟨.v _, rfl, ?_⟩) | (refine CallK_pack2 (key1 := 78) (key2 := 77) rfl rfl (fun w hR h0 => cK2 _ _ _ _ _ h0 (hG.cast2 hR)) ?_; rintro _ _ ⟨rfl, fp1', fp2', rfl⟩; refine ⟨.v _, rfl, ?_⟩) | (refine CallK_pure (.v _) (fun w hR => cF w (by omega) (by omega) (by omega)) ?_) | (refine CallK_sub [3000] rfl (fun w hR h0 => calls_pKeys bp bt bs _ w h0) ?_; rintro _ _ ⟨rfl, rfl⟩; refine ⟨.v _, rfl, ?_⟩) | (refine CallK_sub [3000] rfl (fun w hR h0 => calls_pStore bp bt bs _ w h0) ?_; rintro _ _ ⟨rfl, rfl⟩; refine ⟨.v _, rfl, ?_⟩) | (refine CallK_pack (key := 77) rfl (fun w hR h0 => cP _ _ _ h0) ?_; rintro _ _ ⟨rfl, fp', rfl⟩; refine ⟨.v _, rfl, ?_⟩) | refine stop_and ?_ ?_ | (refine bcase_prop (fun h => ?_) (fun h => ?_) <;> try (exfalso; omega)) | (refine bcase_nprop (fun h => ?_) (fun h => ?_) <;> try (exfalso; omega)) | (refine bcase_intro (fun h => ?_) (fun h => ?_) <;> (try simp only [Bool.not_eq_true', Bool.not_eq_false', decide_eq_true_eq, decide_eq_false_iff_not, Bool.not_eq_true, Bool.not_eq_false, Decidable.not_not] at h)) | refine And.intro (by first | omega | exact rfl | assumption | exact ⟨rfl, rfl, rfl, rfl, rfl⟩ | exact ⟨rfl, rfl, rfl, rfl⟩ | exact ⟨rfl, by omega⟩ | exact oneAll_of rfl | exact ⟨rfl, oneAll_of rfl⟩ | exact Ref.refl _ | exact Thin.ref (.skip (Thin.refl _)) | exact Thin.ref (.skip (.skip (Thin.refl _))) | exact hne | exact hne' | exact fun h => Bool.noConfusion h | exact fun _ => Ref.refl _ | exact Ref.takes [78, 77, 3000] rfl (Thin.refl _) | exact fun _ => Ref.takes [78, 77, 3000] rfl (Thin.refl _) | exact ⟨rfl, Nat.le_of_ble_eq_true rfl⟩ | ((try unfold maxLen); (try simp only [List.length_nil, List.length_cons, List.length_append]); omega) | (refine ⟨rfl, ?_⟩; (try simp only [List.length_nil, List.length_cons, List.length_append]); omega)) ?_ | intro _)); (all_goals (conv => whnf))
        all_goals first | (exfalso; omega) | skip
        exact loop_next ⟨i + 2, at_ + 1, _, _⟩ ⟨by ((try dsimp only); omega), by ((try dsimp only); omega), hp.2⟩ (by ((try dsimp only); omega)) (by (repeat ((conv => whnf); refine And.intro (by first | exact rfl | exact vint_eq (by omega) | exact vint_eq (by (dsimp only; omega)) | exact vsl_eq (by omega) | exact vsl_eq (by first | (dsimp only; omega) | (simp; done) | (simp; omega))) ?_)); exact trivial) (Ref.takes [78, 77, 3000] rfl (Thin.refl _))
      | false =>
        rw [pairT_skip hf] at hp
        simp only [List.cons.injEq] at hp
        have hxl2 := (hw.inj_iff hli.1 hli.2 hxi.1 hxi.2).1 hp.1
        rw [hf] at cF
        (repeat' ((conv => whnf); first | rw [e4] | rw [Int.toNat_natCast] | refine ⟨_, r1, ?_⟩ | refine ⟨_, r2, ?_⟩ | refine ⟨_, r4, ?_⟩ | rw [Nat.mul_one] | refine ⟨_, r3, ?_⟩ | (refine CallK_pack2 (key1 := 78) (key2 := 77) rfl rfl (fun w hR h0 => cK _ _ _ _ _ h0 (hG.cast2 hR)) ?_; rintro _ _ ⟨rfl, fp1', fp2', rfl⟩; refine ⟨.v _, rfl, ?_⟩) | (refine CallK_pack2 (key1 := 78) (key2 := 77) rfl rfl (fun w hR h0 => cK2 _ _ _ _ _ h0 (hG.cast2 hR)) ?_; rintro _ _ ⟨rfl, fp1', fp2', rfl⟩; refine ⟨.v _, rfl, ?_⟩) | (refine CallK_pure (.v _) (fun w hR => cF w (by omega) (by omega) (by omega)) ?_) | (refine CallK_sub [3000] rfl (fun w hR h0 => calls_pKeys bp bt bs _ w h0) ?_; rintro _ _ ⟨rfl, rfl⟩; refine ⟨.v _, rfl, ?_⟩) | (refine CallK_sub [3000] rfl (fun w hR h0 => calls_pStore bp bt bs _ w h0) ?_; rintro _ _ ⟨rfl, rfl⟩; refine ⟨.v _, rfl, ?_⟩) | refine stop_and ?_ ?_ | (refine bcase_prop (fun h => ?_) (fun h => ?_) <;> try (exfalso; omega)) | (refine bcase_nprop (fun h => ?_) (fun h => ?_) <;> try (exfalso; omega)) | (refine bcase_intro (fun h => ?_) (fun h => ?_) <;> (try simp only [Bool.not_eq_true', Bool.not_eq_false', decide_eq_true_eq, decide_eq_false_iff_not, Bool.not_eq_true, Bool.not_eq_false, Decidable.not_not] at h)) | refine And.intro (by first | omega | exact rfl | assumption | exact ⟨rfl, rfl, rfl, rfl, rfl⟩ | exact ⟨rfl, rfl, rfl, rfl⟩ | exact ⟨rfl, by omega⟩ | exact oneAll_of rfl | exact ⟨rfl, oneAll_of rfl⟩ | exact Ref.refl _ | exact Thin.ref (.skip (Thin.refl _)) | exact Thin.ref (.skip (.skip (Thin.refl _))) | exact hne | exact hne' | exact fun h => Bool.noConfusion h | exact fun _ => Ref.refl _ | exact Ref.takes [78, 77, 3000] rfl (Thin.refl _) | exact fun _ => Ref.takes [78, 77, 3000] rfl (Thin.refl _) | exact ⟨rfl, Nat.le_of_ble_eq_true rfl⟩ | ((try unfold maxLen); (try simp only [List.length_nil, List.length_cons, List.length_append]); omega) | (refine ⟨rfl, ?_⟩; (try simp only [List.length_nil, List.length_cons, List.length_append]); omega)) ?_ | intro _)); (all_goals (conv => whnf))
        all_goals first | (exfalso; omega) | skip
        refine loop_next ⟨i + 1, at_ + 1, _, _⟩ ⟨by ((try dsimp only); omega), by ((try dsimp only); omega), ?_⟩ (by ((try dsimp only); omega)) (by (repeat ((conv => whnf); refine And.intro (by first | exact rfl | exact vint_eq (by omega) | exact vint_eq (by (dsimp only; omega)) | exact vsl_eq (by omega) | exact vsl_eq (by first | (dsimp only; omega) | (simp; done) | (simp; omega))) ?_)); exact trivial) (Ref.takes [78, 77, 3000] rfl (Thin.refl _))
        dsimp only
        rw [hdr, List.map_cons]
        exact hp.2
    · have hil : i + 1 = xs.length := by omega
      have hd : xs.drop (i + 1) = [] := List.drop_of_length_le (by omega)
      rw [hd, List.map_nil, pairT_one] at hp
      simp only [List.cons.injEq, List.map_eq_nil_iff] at hp
      have hxl2 := (hw.inj_iff hli.1 hli.2 hxi.1 hxi.2).1 hp.1
      have hd2 := congrArg List.length hp.2
      simp only [List.length_drop, List.length_nil] at hd2
      (repeat' ((conv => whnf); first | rw [Int.toNat_natCast] | refine ⟨_, r1, ?_⟩ | refine ⟨_, r2, ?_⟩ | rw [Nat.mul_one] | refine ⟨_, r3, ?_⟩ | (refine bcase_prop (fun h => ?_) (fun h => ?_) <;> try (exfalso; omega)) | (refine bcase_nprop (fun h => ?_) (fun h => ?_) <;> try (exfalso; omega)) | (refine bcase_intro (fun h => ?_) (fun h => ?_) <;> (try simp only [Bool.not_eq_true', Bool.not_eq_false', decide_eq_true_eq, decide_eq_false_iff_not, Bool.not_eq_true, Bool.not_eq_false, Decidable.not_not] at h)) | refine And.intro (by first | omega | exact rfl | assumption | exact ⟨rfl, rfl, rfl, rfl, rfl⟩ | exact ⟨rfl, rfl, rfl, rfl⟩ | exact ⟨rfl, by omega⟩ | exact oneAll_of rfl | exact ⟨rfl, oneAll_of rfl⟩ | exact Ref.refl _ | exact Thin.ref (.skip (Thin.refl _)) | exact Thin.ref (.skip (.skip (Thin.refl _))) | exact hne | exact hne' | exact ⟨rfl, Nat.le_of_ble_eq_true rfl⟩ | ((try unfold maxLen); (try simp only [List.length_nil, List.length_cons, List.length_append]); omega) | (refine ⟨rfl, ?_⟩; (try simp only [List.length_nil, List.length_cons, List.length_append]); omega)) ?_ | intro _)); (all_goals (conv => whnf))
      all_goals first | (exfalso; omega) | skip
      refine loop_next ⟨i + 1, at_ + 1, _, _⟩ ⟨by ((try dsimp only); omega), by ((try dsimp only); omega), ?_⟩ (by ((try dsimp only); omega)) (by (repeat ((conv => whnf); refine And.intro (by first | exact rfl | exact vint_eq (by omega) | exact vint_eq (by (dsimp only; omega)) | exact vsl_eq (by omega) | exact vsl_eq (by first | (dsimp only; omega) | (simp; done) | (simp; omega))) ?_)); exact trivial) (Ref.takes [78, 77, 3000] rfl (Thin.refl _))
      dsimp only
      rw [hd, hp.2, List.map_nil, pairT_nil]
  · have hil : i = xs.length := by omega
    have hd : xs.drop i = [] := List.drop_of_length_le (by omega)
    rw [hd, List.map_nil, pairT_nil, List.map_eq_nil_iff] at hp
    have hd2 := congrArg List.length hp
    simp only [List.length_drop, List.length_nil] at hd2
    (repeat' ((conv => whnf); first | (refine bcase_prop (fun h => ?_) (fun h => ?_) <;> try (exfalso; omega)) | (refine bcase_nprop (fun h => ?_) (fun h => ?_) <;> try (exfalso; omega)) | (refine bcase_intro (fun h => ?_) (fun h => ?_) <;> (try simp only [Bool.not_eq_true', Bool.not_eq_false', decide_eq_true_eq, decide_eq_false_iff_not, Bool.not_eq_true, Bool.not_eq_false, Decidable.not_not] at h)) | refine And.intro (by first | omega | exact rfl | assumption | exact ⟨rfl, rfl, rfl, rfl, rfl⟩ | exact ⟨rfl, rfl, rfl, rfl⟩ | exact ⟨rfl, by omega⟩ | exact oneAll_of rfl | exact ⟨rfl, oneAll_of rfl⟩ | exact Ref.refl _ | exact Thin.ref (.skip (Thin.refl _)) | exact Thin.ref (.skip (.skip (Thin.refl _))) | exact ⟨rfl, Nat.le_of_ble_eq_true rfl⟩ | ((try unfold maxLen); (try simp only [List.length_nil, List.length_cons, List.length_append]); omega) | (refine ⟨rfl, ?_⟩; (try simp only [List.length_nil, List.length_cons, List.length_append]); omega)) ?_ | intro _)); (all_goals (conv => whnf))
    all_goals first | (exfalso; omega) | skip
    refine ⟨⟨_, Ref.takes [78, 77, 3000] rfl (Thin.refl _), ?_, _, _, rfl⟩⟩
    rw [decide_eq_true (by omega)]
end Go.Proofs.YtkkhpdkfploodaaDoor
/- Each sequence follows from the one below: the program. -/
namespace Go.Proofs.YtkkhpdkfploodaaDoor
open Go.EG
attribute [local irreducible] CallK QCall Go.Calls
set_option linter.unusedSimpArgs false
set_option linter.unusedVariables false
set_option maxRecDepth 20000
set_option maxHeartbeats 4000000

theorem gl_ones {S : Sto} {gl : List (Int × Int)} (hg : Gok S gl) {ts : List Tm} (h : gl.map (grT S) = ts.map fun m => (m, 1)) : gl = (gl.map (·.1)).map (fun x => (x, 1)) ∧ (gl.map (·.1)).map (tm S.E) = ts := by
  have h2 := congrArg (List.map Prod.fst) h
  rw [List.map_map, List.map_map] at h2
  refine ⟨?_, ?_⟩
  · rw [List.map_map]
    conv => lhs; rw [← List.map_id gl]
    refine List.map_congr_left fun g hgm => ?_
    have h3 : grT S g ∈ ts.map fun m => (m, 1) := by rw [← h]; exact List.mem_map.2 ⟨g, hgm, rfl⟩
    obtain ⟨m, _, hm⟩ := List.mem_map.1 h3
    have h4 := (hg.ok g hgm).2
    simp only [grT, Prod.mk.injEq] at hm
    obtain ⟨y, u⟩ := g
    simp only [id, Function.comp_apply, Prod.mk.injEq, true_and]
    simp only at hm h4
    omega
  · rw [List.map_map]
    have e : (Prod.fst ∘ fun m : Tm => (m, 1)) = id := rfl
    rw [e, List.map_id] at h2
    exact h2
structure StO where
  i : Nat
  a : Option Addr
  c : Nat
structure StK where
  k : Nat
  a : Option Addr
  c : Nat
theorem seqT_succ (t : List Nat) {n : Nat} (h : 1 ≤ n) : seqT t n = stepT n (seqT t (n - 1)) := by
  obtain ⟨m, rfl⟩ : ∃ m, n = m + 1 := ⟨n - 1, by omega⟩
  rfl
theorem law_SignatureSteps (w : World) (hG : TabF w []) (t : List Nat) (hbt : ∀ x ∈ t, x < 256) (htl : t.length ≤ 4611686018427387904) (a : Option Addr) (c : Nat) (hia : In w [] a (bytesV t)) (lev : Int) (hm : 0 ≤ lev ∧ lev ≤ 65535) :
    Calls Tryd.prog fn_evergreenlaw22_SignatureSteps #[.slice a t.length c, .int .u16 lev] w fun e w' => e = .returned (.bool true) ∧ Ext w w' := by
  refine pure_call [.v (.slice a t.length c), .v (.int .u16 lev)] w ok_evergreenlaw22_SignatureSteps (by simp) ?_
  by_cases hs1 : t.length ≤ 300
  case neg =>
    (repeat' ((conv => whnf); first | (refine bcase_prop (fun h => ?_) (fun h => ?_) <;> try (exfalso; omega)) | (refine bcase_nprop (fun h => ?_) (fun h => ?_) <;> try (exfalso; omega)) | (refine bcase_intro (fun h => ?_) (fun h => ?_) <;> (try simp only [Bool.not_eq_true', Bool.not_eq_false', decide_eq_true_eq, decide_eq_false_iff_not, Bool.not_eq_true, Bool.not_eq_false, Decidable.not_not] at h)) | refine And.intro (by first | omega | exact rfl | assumption | exact ⟨rfl, rfl, rfl, rfl, rfl⟩ | exact ⟨rfl, rfl, rfl, rfl⟩ | exact ⟨rfl, by omega⟩ | exact oneAll_of rfl | exact ⟨rfl, oneAll_of rfl⟩ | exact Ref.refl _ | exact Thin.ref (.skip (Thin.refl _)) | exact Thin.ref (.skip (.skip (Thin.refl _))) | exact ⟨rfl, Nat.le_of_ble_eq_true rfl⟩ | ((try unfold maxLen); (try simp only [List.length_nil, List.length_cons, List.length_append]); omega) | (refine ⟨rfl, ?_⟩; (try simp only [List.length_nil, List.length_cons, List.length_append]); omega)) ?_ | intro _)); (all_goals (conv => whnf))
    all_goals first | (exfalso; omega) | exact ⟨rfl⟩
  have c0 := fun w h => calls_awake22 w h
  have c1 := calls_New 10000 77
  have hw0 : WF ⟨10000, []⟩ := WF.new 10000 (by decide)
  have cT := fun w h => calls_copied t (by omega) a c w h
  (repeat' ((conv => whnf); first | (refine CallK_new (fun w hR => c1 w) ?_; rintro _ _ ⟨bn, fpn, rfl, rfl⟩; refine ⟨.v _, rfl, ?_⟩) | (refine CallK_new (fun w hR => calls_newP _ ⟨10000, []⟩ w) ?_; rintro _ _ ⟨bp, bt, f1, rfl, rfl⟩; refine ⟨.v _, rfl, ?_⟩) | refine CallK_slice 901 (fun w' hR => cT w' (hia.cast hR (by simp))) ?_ | (refine CallK_sub [78, 77, 3000] rfl (fun w hR h0 => calls_OfG bp bt bn ⟨10000, []⟩ hw0 t hbt (by omega) (by dsimp only [List.length_nil]; omega) _ _ _ _ _ w h0 (hG.castL hR) (In.besideL (key := 901) hR rfl)) ?_; rintro _ _ ⟨S, x, g1, g2, hw1, hg1, hx, hx0, hx1, hln, hout, rfl, rfl⟩; refine ⟨.v _, rfl, ?_⟩) | (refine bcase_prop (fun h => ?_) (fun h => ?_) <;> try (exfalso; omega)) | (refine bcase_nprop (fun h => ?_) (fun h => ?_) <;> try (exfalso; omega)) | (refine bcase_intro (fun h => ?_) (fun h => ?_) <;> (try simp only [Bool.not_eq_true', Bool.not_eq_false', decide_eq_true_eq, decide_eq_false_iff_not, Bool.not_eq_true, Bool.not_eq_false, Decidable.not_not] at h)) | refine And.intro (by first | omega | exact rfl | assumption | exact ⟨rfl, rfl, rfl, rfl, rfl⟩ | exact ⟨rfl, rfl, rfl, rfl⟩ | exact ⟨rfl, by omega⟩ | exact oneAll_of rfl | exact ⟨rfl, oneAll_of rfl⟩ | exact Ref.refl _ | exact Thin.ref (.skip (Thin.refl _)) | exact Thin.ref (.skip (.skip (Thin.refl _))) | exact ⟨rfl, Nat.le_of_ble_eq_true rfl⟩ | ((try unfold maxLen); (try simp only [List.length_nil, List.length_cons, List.length_append]); omega) | (refine ⟨rfl, ?_⟩; (try simp only [List.length_nil, List.length_cons, List.length_append]); omega)) ?_ | intro _)); (all_goals (conv => whnf))
  have hsm1 := hw1.small
  by_cases ht : t = []
  · have hx00 := hx0 ht
    subst hx00
    subst ht
    simp only [List.length_nil] at *
    have cA := calls_Top0 bp bt bn S
    obtain ⟨n, hn⟩ : ∃ n : Nat, n = 1 + lev.toNat % 3 := ⟨_, rfl⟩
    have hq : 1 + lev % (0 + 3) = (n : Int) := by
      rw [hn, show (0 : Int) + 3 = 3 from rfl]
      omega
    have cB := calls_Seq0 bp bt bn S hw1 ((n : Int) - 1) (by omega)
    have cC := calls_Seq0 bp bt bn S hw1 (n : Int) (by omega)
    (repeat' ((conv => whnf); first | rw [hq] | (refine CallK_pure (.v _) (fun w hR => c0 w (hG.cast hR (by simp))) ?_) | (refine CallK_sub [78, 77, 3000] rfl (fun w hR h0 => cA _ _ _ w h0 (hG.castL hR)) ?_; rintro _ _ ⟨rfl, k1, k2, rfl⟩; refine ⟨.v _, rfl, ?_⟩) | (refine CallK_sub [78, 77, 3000] rfl (fun w hR h0 => cB _ _ _ w h0 (hG.castL hR)) ?_; rintro _ _ ⟨rfl, k3, k4, rfl⟩; refine ⟨.v _, rfl, ?_⟩) | (refine CallK_sub [78, 77, 3000] rfl (fun w hR h0 => cC _ _ _ w h0 (hG.castL hR)) ?_; rintro _ _ ⟨rfl, k5, k6, rfl⟩; refine ⟨.v _, rfl, ?_⟩) | (refine bcase_prop (fun h => ?_) (fun h => ?_) <;> try (exfalso; omega)) | (refine bcase_nprop (fun h => ?_) (fun h => ?_) <;> try (exfalso; omega)) | (refine bcase_intro (fun h => ?_) (fun h => ?_) <;> (try simp only [Bool.not_eq_true', Bool.not_eq_false', decide_eq_true_eq, decide_eq_false_iff_not, Bool.not_eq_true, Bool.not_eq_false, Decidable.not_not] at h)) | refine And.intro (by first | omega | exact rfl | assumption | exact ⟨rfl, rfl, rfl, rfl, rfl⟩ | exact ⟨rfl, rfl, rfl, rfl⟩ | exact ⟨rfl, by omega⟩ | exact oneAll_of rfl | exact ⟨rfl, oneAll_of rfl⟩ | exact Ref.refl _ | exact Thin.ref (.skip (Thin.refl _)) | exact Thin.ref (.skip (.skip (Thin.refl _))) | exact ⟨rfl, Nat.le_of_ble_eq_true rfl⟩ | ((try unfold maxLen); (try simp only [List.length_nil, List.length_cons, List.length_append]); omega) | (refine ⟨rfl, ?_⟩; (try simp only [List.length_nil, List.length_cons, List.length_append]); omega)) ?_ | intro _)); (all_goals (conv => whnf))
    all_goals first | (exfalso; omega) | skip
    refine VC_loop Unit (fun _ => [(5, .v (pS bn)), (6, .v (pS bp)), (11, .v (.int .i64 n)), (12, .v (.slice none 0 0)), (14, .v (.slice none 0 0)), (16, .v (.slice none 0 0)), (17, .v (.int .i64 0))]) (fun _ => fP bp bt bn S k5 k6) (fun _ => True) (fun _ => 0) () trivial (by (repeat ((conv => whnf); refine And.intro (by first | exact rfl | exact vint_eq (by omega) | exact vint_eq (by (dsimp only; omega)) | exact vsl_eq (by omega) | exact vsl_eq (by first | (dsimp only; omega) | (simp; done) | (simp; omega))) ?_)); exact trivial) (Ref.takes [78, 77, 3000] rfl (Thin.refl _)) ?_
    rintro ⟨⟩ _
    have cR := fun f fp w hR => calls_ran bn S [] [] rfl (by simp) (fun i hi => absurd hi (Nat.not_lt_zero i)) none none 0 0 f fp w hR (.inl rfl) (.inl rfl)
    have cP := fun f1 f2 fp w hR hG => calls_paired bp bt bn S hw1 [] [] (by simp) (by simp) (by simp) n (by omega) (by rw [List.map_nil, pairT_nil]) none none 0 0 f1 f2 fp w hR hG (.inl rfl) (.inl rfl)
    simp only [List.length_nil] at cR cP
    (repeat' ((conv => whnf); first | (refine CallK_sub [77] rfl (fun w hR h0 => cR _ _ w h0) ?_; rintro _ _ ⟨rfl, fp', rfl⟩; refine ⟨.v _, rfl, ?_⟩) | (refine CallK_sub [78, 77, 3000] rfl (fun w hR h0 => cP _ _ _ w h0 (hG.castL hR)) ?_; rintro _ _ ⟨rfl, k7, k8, rfl⟩; refine ⟨.v _, rfl, ?_⟩) | (refine bcase_prop (fun h => ?_) (fun h => ?_) <;> try (exfalso; omega)) | (refine bcase_nprop (fun h => ?_) (fun h => ?_) <;> try (exfalso; omega)) | (refine bcase_intro (fun h => ?_) (fun h => ?_) <;> (try simp only [Bool.not_eq_true', Bool.not_eq_false', decide_eq_true_eq, decide_eq_false_iff_not, Bool.not_eq_true, Bool.not_eq_false, Decidable.not_not] at h)) | refine And.intro (by first | omega | exact rfl | assumption | exact ⟨rfl, rfl, rfl, rfl, rfl⟩ | exact ⟨rfl, rfl, rfl, rfl⟩ | exact ⟨rfl, by omega⟩ | exact oneAll_of rfl | exact ⟨rfl, oneAll_of rfl⟩ | exact Ref.refl _ | exact Thin.ref (.skip (Thin.refl _)) | exact Thin.ref (.skip (.skip (Thin.refl _))) | exact ⟨rfl, Nat.le_of_ble_eq_true rfl⟩ | ((try unfold maxLen); (try simp only [List.length_nil, List.length_cons, List.length_append]); omega) | (refine ⟨rfl, ?_⟩; (try simp only [List.length_nil, List.length_cons, List.length_append]); omega)) ?_ | intro _)); (all_goals (conv => whnf))
    all_goals first | (exfalso; omega) | skip
    all_goals exact ⟨rfl⟩
  · obtain ⟨x1, hsg⟩ := hx1 ht
    obtain ⟨L, l1, l2, l3⟩ := hsg.level
    have hlv := hw1.lev' (n := x) (by omega) hx.2
    have cA := calls_Top bp bt bn S hw1 x (by omega)
    rw [levRes_sig x1 hx.2 l1] at cA
    obtain ⟨n, hn⟩ : ∃ n : Nat, n = 1 + lev.toNat % (L + 3) := ⟨_, rfl⟩
    have hn1 : 1 ≤ n := by omega
    have hn2 : n ≤ 65536 := by
      have := Nat.mod_le lev.toNat (L + 3)
      omega
    have hq : 1 + lev % ((L : Int) + 3) = (n : Int) := by
      rw [hn]
      have : lev = (lev.toNat : Int) := by omega
      conv => lhs; rw [this]
      push_cast
      rfl
    have cB := fun f1 f2 fp w h h' => calls_SeqT 861 bp bt bn S hw1 x (n - 1) t (by omega) x1 hx.2 hsg f1 f2 fp w h h'
    have cC := fun f1 f2 fp w h h' => calls_SeqT 862 bp bt bn S hw1 x n t (by omega) x1 hx.2 hsg f1 f2 fp w h h'
    have e2 : ((n - 1 : Nat) : Int) = (n : Int) - 1 := by omega
    rw [e2] at cB
    have hsl := seqT_len t n
    (repeat' ((conv => whnf); first | rw [hq] | (refine CallK_pure (.v _) (fun w hR => c0 w (hG.cast hR (by simp))) ?_) | (refine CallK_sub [78, 77, 3000] rfl (fun w hR h0 => cA _ _ _ w h0 (hG.castL hR)) ?_; rintro _ _ ⟨rfl, k1, k2, rfl⟩; refine ⟨.v _, rfl, ?_⟩) | (refine CallK_sub [78, 77, 3000] rfl (fun w hR h0 => cB _ _ _ w h0 (hG.castL hR)) ?_; rintro _ _ ⟨k3, k4, gl, a1, d1, q1, q2, q3, q4, rfl, rfl⟩; refine ⟨.v _, rfl, ?_⟩) | (refine CallK_sub [78, 77, 3000] rfl (fun w hR h0 => cC _ _ _ w h0 (hG.castL hR)) ?_; rintro _ _ ⟨k5, k6, gm, a2, d2, p1, p2, p3, p4, rfl, rfl⟩; refine ⟨.v _, rfl, ?_⟩) | (refine bcase_prop (fun h => ?_) (fun h => ?_) <;> try (exfalso; omega)) | (refine bcase_nprop (fun h => ?_) (fun h => ?_) <;> try (exfalso; omega)) | (refine bcase_intro (fun h => ?_) (fun h => ?_) <;> (try simp only [Bool.not_eq_true', Bool.not_eq_false', decide_eq_true_eq, decide_eq_false_iff_not, Bool.not_eq_true, Bool.not_eq_false, Decidable.not_not] at h)) | refine And.intro (by first | omega | exact rfl | assumption | exact ⟨rfl, rfl, rfl, rfl, rfl⟩ | exact ⟨rfl, rfl, rfl, rfl⟩ | exact ⟨rfl, by omega⟩ | exact oneAll_of rfl | exact ⟨rfl, oneAll_of rfl⟩ | exact Ref.refl _ | exact Thin.ref (.skip (Thin.refl _)) | exact Thin.ref (.skip (.skip (Thin.refl _))) | exact ⟨rfl, Nat.le_of_ble_eq_true rfl⟩ | ((try unfold maxLen); (try simp only [List.length_nil, List.length_cons, List.length_append]); omega) | (refine ⟨rfl, ?_⟩; (try simp only [List.length_nil, List.length_cons, List.length_append]); omega)) ?_ | intro _)); (all_goals (conv => whnf))
    all_goals first | (exfalso; omega) | skip
    have hom := outG_tms p2
    have hol : (outG gm).length ≤ t.length := by
      have := congrArg List.length hom
      rw [List.length_map] at this
      omega
    refine VC_loop StO (fun y => [(0, .v (.slice a t.length c)), (5, .v (pS bn)), (6, .v (pS bp)), (11, .v (.int .i64 n)), (12, .v (.slice a1 gl.length d1)), (14, .v (.slice a2 gm.length d2)), (16, .sl 870 y.a (outG (gm.take y.i)).length y.c), (17, .v (.int .i64 y.i))])
      (fun y => fP bp bt bn S k5 k6 ++ [.own 861 a1 gl.length d1 ty_api_Group 2 (prs .i64 gl), .own 862 a2 gm.length d2 ty_api_Group 2 (prs .i64 gm), .own 870 y.a (outG (gm.take y.i)).length y.c ty_api_ID 1 (ints .i64 (outG (gm.take y.i)))])
      (fun y => y.i ≤ gm.length) (fun y => gm.length - y.i) ⟨0, none, 0⟩ (Nat.zero_le _) (by (repeat ((conv => whnf); refine And.intro (by first | exact rfl | exact vint_eq (by omega) | exact vint_eq (by (dsimp only; omega)) | exact vsl_eq (by omega) | exact vsl_eq (by first | (dsimp only; omega) | (simp; done) | (simp; omega))) ?_)); exact trivial) ((Ref.ownNil 870 ty_api_ID 1).trans (Ref.takes [78, 77, 3000, 861, 862, 870] rfl (Thin.refl _))) ?_
    rintro ⟨i, a3, d3⟩ hi
    dsimp only at hi ⊢
    by_cases hlt : i < gm.length
    · have hgi : gm.getD i (0, 0) ∈ gm := by
        rw [List.getD_eq_getElem?_getD, List.getElem?_eq_getElem hlt]; exact List.getElem_mem _
      obtain ⟨u1, u2⟩ := p1.ok _ hgi
      obtain ⟨y1, y2⟩ := prs_get (k := .i64) hlt
      have htk : gm.take (i + 1) = gm.take i ++ [gm.getD i (0, 0)] := take_nextD hlt
      have hle := outG_take_le gm (i + 1)
      rw [htk, outG_snoc] at hle
      rw [List.length_append, List.length_replicate] at hle
      have hnx := outG_snoc (gm.take i) (gm.getD i (0, 0))
      rw [← htk] at hnx
      have hne2 := p4 (by omega)
      generalize gm.getD i (0, 0) = g at *
      (repeat' ((conv => whnf); first | (refine bcase_prop (fun h => ?_) (fun h => ?_) <;> try (exfalso; omega)) | (refine bcase_nprop (fun h => ?_) (fun h => ?_) <;> try (exfalso; omega)) | (refine bcase_intro (fun h => ?_) (fun h => ?_) <;> (try simp only [Bool.not_eq_true', Bool.not_eq_false', decide_eq_true_eq, decide_eq_false_iff_not, Bool.not_eq_true, Bool.not_eq_false, Decidable.not_not] at h)) | refine And.intro (by first | omega | exact rfl | assumption | exact ⟨rfl, rfl, rfl, rfl, rfl⟩ | exact ⟨rfl, rfl, rfl, rfl⟩ | exact ⟨rfl, by omega⟩ | exact oneAll_of rfl | exact ⟨rfl, oneAll_of rfl⟩ | exact Ref.refl _ | exact Thin.ref (.skip (Thin.refl _)) | exact Thin.ref (.skip (.skip (Thin.refl _))) | exact ⟨rfl, Nat.le_of_ble_eq_true rfl⟩ | ((try unfold maxLen); (try simp only [List.length_nil, List.length_cons, List.length_append]); omega) | (refine ⟨rfl, ?_⟩; (try simp only [List.length_nil, List.length_cons, List.length_append]); omega)) ?_ | intro _)); (all_goals (conv => whnf))
      refine VC_loop StK (fun y => [(0, .v (.slice a t.length c)), (5, .v (pS bn)), (6, .v (pS bp)), (11, .v (.int .i64 n)), (12, .v (.slice a1 gl.length d1)), (14, .v (.slice a2 gm.length d2)), (16, .sl 870 y.a ((outG (gm.take i)).length + y.k) y.c), (17, .v (.int .i64 i)), (18, .v (.int .i64 y.k))])
        (fun y => fP bp bt bn S k5 k6 ++ [.own 861 a1 gl.length d1 ty_api_Group 2 (prs .i64 gl), .own 862 a2 gm.length d2 ty_api_Group 2 (prs .i64 gm), .own 870 y.a ((outG (gm.take i)).length + y.k) y.c ty_api_ID 1 (ints .i64 (outG (gm.take i) ++ List.replicate y.k g.1))])
        (fun y => (y.k : Int) ≤ g.2) (fun y => g.2.toNat - y.k) ⟨0, a3, d3⟩ (by dsimp only; omega) (by (repeat ((conv => whnf); refine And.intro (by first | exact rfl | exact vint_eq (by omega) | exact vint_eq (by (dsimp only; omega)) | exact vsl_eq (by omega) | exact vsl_eq (by first | (dsimp only; omega) | (simp; done) | (simp; omega))) ?_)); exact trivial) (Ref.takes [78, 77, 3000, 861, 862, 870] rfl (.keep rfl (fun _ h => h) (.keep rfl (fun _ h => h) (.keep rfl (fun _ h => h) (.keep rfl (fun _ h => h) (.keep rfl (fun _ h => h) (.own rfl (by simp) (.nil _)))))))) ?_
      rintro ⟨k, a4, d4⟩ hk
      dsimp only at hk ⊢
      by_cases hkt : (k : Int) < g.2
      · (repeat' ((conv => whnf); first | rw [Int.toNat_natCast] | refine ⟨_, rdO 862 rfl y1, ?_⟩ | refine ⟨_, rdO 862 rfl y2, ?_⟩ | (refine bcase_prop (fun h => ?_) (fun h => ?_) <;> try (exfalso; omega)) | (refine bcase_nprop (fun h => ?_) (fun h => ?_) <;> try (exfalso; omega)) | (refine bcase_intro (fun h => ?_) (fun h => ?_) <;> (try simp only [Bool.not_eq_true', Bool.not_eq_false', decide_eq_true_eq, decide_eq_false_iff_not, Bool.not_eq_true, Bool.not_eq_false, Decidable.not_not] at h)) | refine And.intro (by first | omega | exact rfl | assumption | exact ⟨rfl, rfl, rfl, rfl, rfl⟩ | exact ⟨rfl, rfl, rfl, rfl⟩ | exact ⟨rfl, by omega⟩ | exact oneAll_of rfl | exact ⟨rfl, oneAll_of rfl⟩ | exact Ref.refl _ | exact Thin.ref (.skip (Thin.refl _)) | exact Thin.ref (.skip (.skip (Thin.refl _))) | exact hne2 | exact ⟨rfl, Nat.le_of_ble_eq_true rfl⟩ | ((try unfold maxLen); (try simp only [List.length_nil, List.length_cons, List.length_append]); omega) | (refine ⟨rfl, ?_⟩; (try simp only [List.length_nil, List.length_cons, List.length_append]); omega)) ?_ | intro _)); (all_goals (conv => whnf))
        all_goals first | (exfalso; omega) | skip
        exact loop_next ⟨k + 1, _, _⟩ (by ((try dsimp only); omega)) (by ((try dsimp only); omega)) (by (repeat ((conv => whnf); refine And.intro (by first | exact rfl | exact vint_eq (by omega) | exact vint_eq (by (dsimp only; omega)) | exact vsl_eq (by omega) | exact vsl_eq (by first | (dsimp only; omega) | (simp; done) | (simp; omega))) ?_)); exact trivial) (Ref.takes [78, 77, 3000, 861, 862, 870] rfl (.keep rfl (fun _ h => h) (.keep rfl (fun _ h => h) (.keep rfl (fun _ h => h) (.keep rfl (fun _ h => h) (.keep rfl (fun _ h => h) (.own rfl (by rw [Go.EG.ints_snoc, List.append_assoc, ← List.replicate_succ']) (.nil _))))))))
      · (repeat' ((conv => whnf); first | rw [Int.toNat_natCast] | refine ⟨_, rdO 862 rfl y1, ?_⟩ | refine ⟨_, rdO 862 rfl y2, ?_⟩ | (refine bcase_prop (fun h => ?_) (fun h => ?_) <;> try (exfalso; omega)) | (refine bcase_nprop (fun h => ?_) (fun h => ?_) <;> try (exfalso; omega)) | (refine bcase_intro (fun h => ?_) (fun h => ?_) <;> (try simp only [Bool.not_eq_true', Bool.not_eq_false', decide_eq_true_eq, decide_eq_false_iff_not, Bool.not_eq_true, Bool.not_eq_false, Decidable.not_not] at h)) | refine And.intro (by first | omega | exact rfl | assumption | exact ⟨rfl, rfl, rfl, rfl, rfl⟩ | exact ⟨rfl, rfl, rfl, rfl⟩ | exact ⟨rfl, by omega⟩ | exact oneAll_of rfl | exact ⟨rfl, oneAll_of rfl⟩ | exact Ref.refl _ | exact Thin.ref (.skip (Thin.refl _)) | exact Thin.ref (.skip (.skip (Thin.refl _))) | exact hne2 | exact ⟨rfl, Nat.le_of_ble_eq_true rfl⟩ | ((try unfold maxLen); (try simp only [List.length_nil, List.length_cons, List.length_append]); omega) | (refine ⟨rfl, ?_⟩; (try simp only [List.length_nil, List.length_cons, List.length_append]); omega)) ?_ | intro _)); (all_goals (conv => whnf))
        all_goals first | (exfalso; omega) | skip
        have hkg : k = g.2.toNat := by omega
        have hlx : (outG (gm.take (i + 1))).length = (outG (gm.take i)).length + k := by rw [hnx, List.length_append, List.length_replicate, hkg]
        refine loop_next ⟨i + 1, a4, d4⟩ (by ((try dsimp only); omega)) (by ((try dsimp only); omega)) ?_ (Ref.takes [78, 77, 3000, 861, 862, 870] rfl (.keep rfl (fun _ h => h) (.keep rfl (fun _ h => h) (.keep rfl (fun _ h => h) (.keep rfl (fun _ h => h) (.keep rfl (fun _ h => h) (.own hlx.symm (by rw [hnx, hkg]) (.nil _))))))))
        dsimp only
        rw [hlx]
        (repeat ((conv => whnf); refine And.intro (by first | exact rfl | exact vint_eq (by omega) | exact vint_eq (by (dsimp only; omega)) | exact vsl_eq (by omega) | exact vsl_eq (by first | (dsimp only; omega) | (simp; done) | (simp; omega))) ?_)); exact trivial
    · have hil : i = gm.length := by omega
      have htk : gm.take i = gm := by rw [hil, List.take_length]
      rw [htk]
      have hmm := outG_mem p1
      have hst := seqT_succ t hn1
      by_cases hod : n % 2 = 1
      · rw [hst, stepT_odd hod] at hom
        obtain ⟨z1, z2⟩ := ran_ok hw1 q1 hmm q2 hom
        (repeat' ((conv => whnf); first | (refine CallK_sub [77] rfl (fun w hR h0 => calls_ran bn S gl (outG gm) z1 (by omega) z2 _ _ _ _ _ _ w h0 (In.besideL (key := 861) hR rfl) (In.besideL (key := 870) hR rfl)) ?_; rintro _ _ ⟨rfl, fp', rfl⟩; refine ⟨.v _, rfl, ?_⟩) | (refine bcase_prop (fun h => ?_) (fun h => ?_) <;> try (exfalso; omega)) | (refine bcase_nprop (fun h => ?_) (fun h => ?_) <;> try (exfalso; omega)) | (refine bcase_intro (fun h => ?_) (fun h => ?_) <;> (try simp only [Bool.not_eq_true', Bool.not_eq_false', decide_eq_true_eq, decide_eq_false_iff_not, Bool.not_eq_true, Bool.not_eq_false, Decidable.not_not] at h)) | refine And.intro (by first | omega | exact rfl | assumption | exact ⟨rfl, rfl, rfl, rfl, rfl⟩ | exact ⟨rfl, rfl, rfl, rfl⟩ | exact ⟨rfl, by omega⟩ | exact oneAll_of rfl | exact ⟨rfl, oneAll_of rfl⟩ | exact Ref.refl _ | exact Thin.ref (.skip (Thin.refl _)) | exact Thin.ref (.skip (.skip (Thin.refl _))) | exact ⟨rfl, Nat.le_of_ble_eq_true rfl⟩ | ((try unfold maxLen); (try simp only [List.length_nil, List.length_cons, List.length_append]); omega) | (refine ⟨rfl, ?_⟩; (try simp only [List.length_nil, List.length_cons, List.length_append]); omega)) ?_ | intro _)); (all_goals (conv => whnf))
        all_goals first | (exfalso; omega) | skip
        all_goals exact ⟨rfl⟩
      · rw [hst, stepT_even (by omega)] at hom
        rw [odd_runs (by omega)] at q2
        obtain ⟨z1, z2⟩ := gl_ones q1 q2
        rw [← z2] at hom
        have z3 : ∀ y : Int, y ∈ gl.map (·.1) → 1 ≤ y ∧ y ≤ S.E.length := fun y hy => by
          obtain ⟨g, hg, rfl⟩ := List.mem_map.1 hy
          exact (q1.ok g hg).1
        have z4 : (gl.map (·.1)).length = gl.length := List.length_map _
        have cP := fun f1 f2 fp w hR hG h1 h2 => calls_paired bp bt bn S hw1 (gl.map (·.1)) (outG gm) z3 hmm (by omega) n (by omega) hom a1 a3 d1 d3 f1 f2 fp w hR hG h1 h2
        rw [← z1, z4] at cP
        (repeat' ((conv => whnf); first | (refine CallK_sub [78, 77, 3000] rfl (fun w hR h0 => cP _ _ _ w h0 (hG.castL hR) (In.besideL (key := 861) hR rfl) (In.besideL (key := 870) hR rfl)) ?_; rintro _ _ ⟨rfl, k7, k8, rfl⟩; refine ⟨.v _, rfl, ?_⟩) | (refine bcase_prop (fun h => ?_) (fun h => ?_) <;> try (exfalso; omega)) | (refine bcase_nprop (fun h => ?_) (fun h => ?_) <;> try (exfalso; omega)) | (refine bcase_intro (fun h => ?_) (fun h => ?_) <;> (try simp only [Bool.not_eq_true', Bool.not_eq_false', decide_eq_true_eq, decide_eq_false_iff_not, Bool.not_eq_true, Bool.not_eq_false, Decidable.not_not] at h)) | refine And.intro (by first | omega | exact rfl | assumption | exact ⟨rfl, rfl, rfl, rfl, rfl⟩ | exact ⟨rfl, rfl, rfl, rfl⟩ | exact ⟨rfl, by omega⟩ | exact oneAll_of rfl | exact ⟨rfl, oneAll_of rfl⟩ | exact Ref.refl _ | exact Thin.ref (.skip (Thin.refl _)) | exact Thin.ref (.skip (.skip (Thin.refl _))) | exact ⟨rfl, Nat.le_of_ble_eq_true rfl⟩ | ((try unfold maxLen); (try simp only [List.length_nil, List.length_cons, List.length_append]); omega) | (refine ⟨rfl, ?_⟩; (try simp only [List.length_nil, List.length_cons, List.length_append]); omega)) ?_ | intro _)); (all_goals (conv => whnf))
        all_goals first | (exfalso; omega) | skip
        all_goals exact ⟨rfl⟩
theorem law_SignatureStepsI (w : World) (hG : TabF w []) (xs : List Int) (hx : ∀ n ∈ xs, (Lit.int .u8 n).wf = true) (hxl : xs.length ≤ 140737488351232) (a : Option Addr) (c : Nat) (hia : In w [] a (ints .u8 xs)) (lev : Int) (hm : 0 ≤ lev ∧ lev ≤ 65535) :
    Calls Tryd.prog fn_evergreenlaw22_SignatureSteps #[.slice a xs.length c, .int .u16 lev] w fun e w' => e = .returned (.bool true) ∧ Ext w w' := by
  obtain ⟨e1, b1⟩ := bytes_ints hx
  rw [e1] at hia
  have := law_SignatureSteps w hG (xs.map Int.toNat) b1 (by simp; omega) a c hia lev hm
  rwa [List.length_map] at this
end Go.Proofs.YtkkhpdkfploodaaDoor
/- A pair of letters, many times. Plain Lean: no program in sight. -/
namespace Go.Proofs.YtkkhpdkfploodaaDoor
open Go.EG
set_option linter.unusedSimpArgs false
set_option linter.unusedVariables false

end Go.Proofs.YtkkhpdkfploodaaDoor
/- The sequences of a power of a pair of letters: the program. -/
namespace Go.Proofs.YtkkhpdkfploodaaDoor
open Go.EG
attribute [local irreducible] CallK QCall Go.Calls
set_option linter.unusedSimpArgs false
set_option linter.unusedVariables false
set_option maxRecDepth 20000
set_option maxHeartbeats 4000000

end Go.Proofs.YtkkhpdkfploodaaDoor
