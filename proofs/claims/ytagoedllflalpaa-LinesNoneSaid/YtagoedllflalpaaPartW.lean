/- The parts of a range: the program. -/
import Derived.Test.YtagoedllflalpaaSWeight
import Derived.Test.YtagoedllflalpaaSpanM
namespace Go.Proofs.Ytagoedllflalpaa
open Go.EG
attribute [local irreducible] CallK QCall Go.Calls
set_option linter.unusedSimpArgs false
set_option linter.unusedVariables false
set_option maxRecDepth 20000
set_option maxHeartbeats 2000000

abbrev spnC (x : Spn) : List Value := [.int .i64 x.id, .int .i64 x.fr, .int .i64 x.n, .int .i64 x.times]
def spnsC (l : List Spn) : List Value := l.flatMap spnC
theorem spnsC_length : ∀ g : List Spn, (spnsC g).length = g.length * 4
  | [] => rfl
  | x :: g => by
    have := spnsC_length g
    simp only [spnsC, List.flatMap_cons, List.length_append, List.length_cons, List.length_nil] at this ⊢
    omega
theorem spnsC_append (g h : List Spn) : spnsC g ++ spnsC h = spnsC (g ++ h) := by simp [spnsC]
theorem spnsC_last (g : List Spn) (x : Spn) : ((spnsC (g ++ [x])).drop (g.length * 4)).take 4 = spnC x := by
  rw [← spnsC_append, ← spnsC_length, List.drop_left]; rfl
theorem spnsC_take (g : List Spn) (x : Spn) : (spnsC (g ++ [x])).take (g.length * 4) = spnsC g := by
  rw [← spnsC_append, ← spnsC_length, List.take_left]

theorem calls_halve (r : Rul) (left : Nat) (x : Spn) (hl : left ≤ LM) (hf : x.fr ≤ LM) (hn : x.n ≤ LM) (st : List Spn) (hst : st.length ≤ 4194304) (a : Option Addr) (c : Nat) (fp : List Nat) (w : World)
    (hR : R w fp [.own 500 a st.length c ty_access_span 4 (spnsC st)] w) :
    Calls Try.prog fn_access_halve #[.slice a st.length c, ruV r, .int .i64 left, .agg (spnC x).toArray] w fun e w' => ∃ a' c', e = .returned (.slice a' (st.length + 2) c') ∧ R w fp [.own 500 a' (st.length + 2) c' ty_access_span 4 (spnsC (st ++ halveL r left x))] w' := by
  refine (calls_ir [.sl 500 a st.length c, .v (ruV r), .v (.int .i64 left), .v (.agg (spnC x).toArray)] ok_access_halve (by simp) hR (K := fun v L' => ∃ a' c', v = .slice a' (st.length + 2) c' ∧ Ref w fp L' [.own 500 a' (st.length + 2) c' ty_access_span 4 (spnsC (st ++ halveL r left x))]) ?_).mono fun e w' ⟨v, L', he, hR2, a', c', hv, href⟩ => ⟨a', c', by rw [he, hv], href w' hR2⟩
  unfold LM at hl hf hn
  have c1 := calls_lClip ((left : Int) - x.fr) 0 x.n
  have q1 : (if (left : Int) - x.fr < 0 then 0 else if (left : Int) - x.fr > x.n then (x.n : Int) else (left : Int) - x.fr) = ((min (left - x.fr) x.n : Nat) : Int) := by
    split
    · omega
    · split <;> omega
  rw [q1] at c1
  have q2 : max ((x.fr : Int) - left) 0 = ((x.fr - left : Nat) : Int) := by omega
  have q3 : (x.n : Int) - ((min (left - x.fr) x.n : Nat) : Int) = ((x.n - min (left - x.fr) x.n : Nat) : Int) := by omega
  have q4 : min (x.fr : Int) left = ((min x.fr left : Nat) : Int) := by omega
  have hsn : spnsC st ++ [.int .i64 r.b, .int .i64 (x.fr - left : Nat), .int .i64 (x.n - min (left - x.fr) x.n : Nat), .int .i64 1, .int .i64 r.a, .int .i64 (min x.fr left : Nat), .int .i64 (min (left - x.fr) x.n : Nat), .int .i64 1] = spnsC (st ++ halveL r left x) := by
    rw [← spnsC_append]; rfl
  (repeat' ((conv => whnf); first | (first | refine CallK_pure (.v _) (fun w hR => c1 w) ?_ | refine QCall_pure (.v _) (fun w hR => c1 w) ?_) | rw [q2] | rw [q3] | rw [q4] | rw [hsn] | (refine bcase_prop (fun h => ?_) (fun h => ?_) <;> try (exfalso; omega)) | (refine bcase_nprop (fun h => ?_) (fun h => ?_) <;> try (exfalso; omega)) | (refine bcase_intro (fun h => ?_) (fun h => ?_) <;> (try simp only [Bool.not_eq_true', Bool.not_eq_false', decide_eq_true_eq, decide_eq_false_iff_not, Bool.not_eq_true, Bool.not_eq_false, Decidable.not_not] at h)) | refine And.intro (by first | omega | exact rfl | assumption | exact ⟨rfl, rfl, rfl, rfl, rfl⟩ | exact ⟨rfl, rfl, rfl, rfl⟩ | exact ⟨rfl, by omega⟩ | exact oneAll_of rfl | exact ⟨rfl, oneAll_of rfl⟩ | exact Ref.refl _ | exact Thin.ref (.skip (Thin.refl _)) | exact Thin.ref (.skip (.skip (Thin.refl _))) | exact ⟨by unfold maxLen; omega, by omega⟩ | exact ⟨rfl, Nat.le_of_ble_eq_true rfl⟩ | ((try unfold maxLen); (try simp only [List.length_nil, List.length_cons, List.length_append]); omega) | (refine ⟨rfl, ?_⟩; (try simp only [List.length_nil, List.length_cons, List.length_append]); omega)) ?_ | intro _)); (all_goals (conv => whnf))
  rename_i a' c'
  exact ⟨a', c', rfl, Thin.ref (by first | exact .skip (.skip (.skip (.own rfl rfl (.nil _)))) | exact .skip (.skip (.own rfl rfl (.nil _))))⟩

theorem calls_divide (r : Rul) (left : Nat) (x : Spn) (h0 : 0 < left) (hl : left ≤ LM) (hf : x.fr ≤ LM) (hn : x.n ≤ LM) (st : List Spn) (hst : st.length ≤ 4194304) (a : Option Addr) (c : Nat) (fp : List Nat) (w : World)
    (hR : R w fp [.own 500 a st.length c ty_access_span 4 (spnsC st)] w) :
    Calls Try.prog fn_access_divide #[.slice a st.length c, ruV r, .int .i64 left, .agg (spnC x).toArray] w fun e w' => ∃ a' c', e = .returned (.slice a' (st.length + (divideL r left x).length) c') ∧ R w fp [.own 500 a' (st.length + (divideL r left x).length) c' ty_access_span 4 (spnsC (st ++ divideL r left x))] w' := by
  refine (calls_ir [.sl 500 a st.length c, .v (ruV r), .v (.int .i64 left), .v (.agg (spnC x).toArray)] ok_access_divide (by simp) hR (K := fun v L' => ∃ a' c', v = .slice a' (st.length + (divideL r left x).length) c' ∧ Ref w fp L' [.own 500 a' (st.length + (divideL r left x).length) c' ty_access_span 4 (spnsC (st ++ divideL r left x))]) ?_).mono fun e w' ⟨v, L', he, hR2, a', c', hv, href⟩ => ⟨a', c', by rw [he, hv], href w' hR2⟩
  unfold LM at hl hf hn
  have q1 : (x.fr : Int) % (left : Int) = ((x.fr % left : Nat) : Int) := by omega
  have hm := Nat.mod_lt x.fr h0
  have hs := spnsC_append st (divideL r left x)
  by_cases hin : x.fr % left + x.n ≤ left
  · have hd : divideL r left x = [⟨r.a, x.fr % left, x.n, 1⟩] := if_pos hin
    rw [hd] at hs ⊢
    have hsn : spnsC st ++ [.int .i64 r.a, .int .i64 (x.fr % left : Nat), .int .i64 x.n, .int .i64 1] = spnsC (st ++ [⟨r.a, x.fr % left, x.n, 1⟩]) := hs
    (repeat' ((conv => whnf); first | rw [q1] | rw [hsn] | (refine bcase_prop (fun h => ?_) (fun h => ?_) <;> try (exfalso; omega)) | (refine bcase_nprop (fun h => ?_) (fun h => ?_) <;> try (exfalso; omega)) | (refine bcase_intro (fun h => ?_) (fun h => ?_) <;> (try simp only [Bool.not_eq_true', Bool.not_eq_false', decide_eq_true_eq, decide_eq_false_iff_not, Bool.not_eq_true, Bool.not_eq_false, Decidable.not_not] at h)) | refine And.intro (by first | omega | exact rfl | assumption | exact ⟨rfl, rfl, rfl, rfl, rfl⟩ | exact ⟨rfl, rfl, rfl, rfl⟩ | exact ⟨rfl, by omega⟩ | exact oneAll_of rfl | exact ⟨rfl, oneAll_of rfl⟩ | exact Ref.refl _ | exact Thin.ref (.skip (Thin.refl _)) | exact Thin.ref (.skip (.skip (Thin.refl _))) | exact ⟨by omega, by omega, by omega⟩ | exact ⟨by unfold maxLen; omega, by omega⟩ | exact ⟨rfl, Nat.le_of_ble_eq_true rfl⟩ | ((try unfold maxLen); (try simp only [List.length_nil, List.length_cons, List.length_append]); omega) | (refine ⟨rfl, ?_⟩; (try simp only [List.length_nil, List.length_cons, List.length_append]); omega)) ?_ | intro _)); (all_goals (conv => whnf))
    rename_i a' c'
    exact ⟨a', c', rfl, Thin.ref (.skip (.skip (.skip (.own rfl rfl (.nil _)))))⟩
  · have hd : divideL r left x = [⟨r.a, 0, (x.n - (left - x.fr % left) % left) % left, 1⟩, ⟨r.a, 0, left, (x.n - (left - x.fr % left) % left) / left⟩, ⟨r.a, x.fr % left, (left - x.fr % left) % left, 1⟩] := if_neg hin
    rw [hd] at hs ⊢
    have hm2 := Nat.mod_lt (left - x.fr % left) h0
    have hm3 : (left - x.fr % left) % left ≤ x.n := by
      have := Nat.mod_le (left - x.fr % left) left
      omega
    have q2 : ((left : Int) - ((x.fr % left : Nat) : Int)) % (left : Int) = (((left - x.fr % left) % left : Nat) : Int) := by
      rw [← Int.ofNat_sub (by omega)]; exact (Int.natCast_emod _ _).symm
    generalize (left - x.fr % left) % left = hd' at *
    have q3 : (x.n : Int) - (hd' : Int) = ((x.n - hd' : Nat) : Int) := by omega
    have q4 : ((x.n - hd' : Nat) : Int) % (left : Int) = (((x.n - hd') % left : Nat) : Int) := (Int.natCast_emod _ _).symm
    have q5 : ((x.n - hd' : Nat) : Int) / (left : Int) = (((x.n - hd') / left : Nat) : Int) := (Int.natCast_ediv _ _).symm
    have hsn : spnsC st ++ [.int .i64 r.a, .int .i64 0, .int .i64 ((x.n - hd') % left : Nat), .int .i64 1, .int .i64 r.a, .int .i64 0, .int .i64 left, .int .i64 ((x.n - hd') / left : Nat), .int .i64 r.a, .int .i64 (x.fr % left : Nat), .int .i64 hd', .int .i64 1] = spnsC (st ++ [⟨r.a, 0, (x.n - hd') % left, 1⟩, ⟨r.a, 0, left, (x.n - hd') / left⟩, ⟨r.a, x.fr % left, hd', 1⟩]) := hs
    (repeat' ((conv => whnf); first | rw [q1] | rw [q2] | rw [q3] | rw [q4] | rw [q5] | rw [hsn] | (refine bcase_prop (fun h => ?_) (fun h => ?_) <;> try (exfalso; omega)) | (refine bcase_nprop (fun h => ?_) (fun h => ?_) <;> try (exfalso; omega)) | (refine bcase_intro (fun h => ?_) (fun h => ?_) <;> (try simp only [Bool.not_eq_true', Bool.not_eq_false', decide_eq_true_eq, decide_eq_false_iff_not, Bool.not_eq_true, Bool.not_eq_false, Decidable.not_not] at h)) | refine And.intro (by first | omega | exact rfl | assumption | exact ⟨rfl, rfl, rfl, rfl, rfl⟩ | exact ⟨rfl, rfl, rfl, rfl⟩ | exact ⟨rfl, by omega⟩ | exact oneAll_of rfl | exact ⟨rfl, oneAll_of rfl⟩ | exact Ref.refl _ | exact Thin.ref (.skip (Thin.refl _)) | exact Thin.ref (.skip (.skip (Thin.refl _))) | exact ⟨by omega, by omega, by omega⟩ | exact ⟨by unfold maxLen; omega, by omega⟩ | exact ⟨rfl, Nat.le_of_ble_eq_true rfl⟩ | ((try unfold maxLen); (try simp only [List.length_nil, List.length_cons, List.length_append]); omega) | (refine ⟨rfl, ?_⟩; (try simp only [List.length_nil, List.length_cons, List.length_append]); omega)) ?_ | intro _)); (all_goals (conv => whnf))
    rename_i a' c'
    exact ⟨a', c', rfl, Thin.ref (.skip (.skip (.skip (.own rfl rfl (.nil _)))))⟩

/-! ### The walk over the parts -/

/-- What is visited: behind each visit the visitor's part of the heap has the text of the visited behind it. -/
def VisOk (S : Sto) (b : Nat) (N : Nat) (vf : Nat) (cap : List Value) {β : Type} (fV : List Nat → β → List Ent) : Prop :=
  ∀ (acc : List Nat) (x : Int) (k : Nat), 1 ≤ x → x ≤ S.E.length → 1 ≤ k → (acc ++ rep k (tm S.E x).txt).length ≤ N →
    ∀ (fp1 fp2 : List Nat) (w : World), R w (fp1 ++ fp2) [packE 90 fp1 (fV acc), packE 77 fp2 (fS b S)] w →
      Calls Try.prog vf ([Value.int .i64 x, .int .i64 k] ++ cap).toArray w fun e w' => ∃ v L1, e = .returned v ∧ R w (fp1 ++ fp2) L1 w' ∧ v = .nilIface ∧ ∃ fp1' fp2', L1 = [packE 90 fp1' (fV (acc ++ rep k (tm S.E x).txt)), packE 77 fp2' (fS b S)]

structure ParG where
  st : List Spn
  acc : List Nat
  a : Option Addr
  c : Nat
  fp1 : List Nat
  fp2 : List Nat
theorem calls_parts (b : Nat) (S : Sto) (hw : WF S) (n : Int) (i m : Nat) (hk : known S n) (hfit : i + m ≤ (tm S.E n).len) (vf : Nat) (cap : List Value) {β : Type} (fV : List Nat → β → List Ent) (N : Nat) (hN : m ≤ N) (hok : okFn Try.prog vf = true) (hv : VisOk S b N vf cap fV)
    (fp1 fp2 : List Nat) (w : World) (hR : R w (fp1 ++ fp2) [packE 90 fp1 (fV []), packE 77 fp2 (fS b S)] w) :
    Calls Try.prog fn_access_parts #[pS b, .int .i64 n, .int .i64 i, .int .i64 m, .func (.func vf) #[] cap.toArray] w fun e w' => ∃ v L1, e = .returned v ∧ R w (fp1 ++ fp2) L1 w' ∧ v = .nilIface ∧ ∃ fp1' fp2', L1 = [packE 90 fp1' (fV (sub (tm S.E n).txt i m)), packE 77 fp2' (fS b S)] := by
  refine part_call [.v (pS b), .v (.int .i64 n), .v (.int .i64 i), .v (.int .i64 m), .v (.func (.func vf) #[] cap.toArray)] ok_access_parts (by simp) hR ?_
  have hsm := hw.small
  have hlen := hw.le hk.2
  have hdep := hw.dep hk.2
  generalize hT : sub (tm S.E n).txt i m = T at *
  have hTl : T.length = m := by rw [← hT]; exact sub_length hfit
  (repeat' ((conv => whnf); first | (refine bcase_prop (fun h => ?_) (fun h => ?_) <;> try (exfalso; omega)) | (refine bcase_nprop (fun h => ?_) (fun h => ?_) <;> try (exfalso; omega)) | (refine bcase_intro (fun h => ?_) (fun h => ?_) <;> (try simp only [Bool.not_eq_true', Bool.not_eq_false', decide_eq_true_eq, decide_eq_false_iff_not, Bool.not_eq_true, Bool.not_eq_false, Decidable.not_not] at h)) | refine And.intro (by first | omega | exact rfl | assumption | exact ⟨rfl, rfl, rfl, rfl, rfl⟩ | exact ⟨rfl, rfl, rfl, rfl⟩ | exact ⟨rfl, by omega⟩ | exact oneAll_of rfl | exact ⟨rfl, oneAll_of rfl⟩ | exact Ref.refl _ | exact Thin.ref (.skip (Thin.refl _)) | exact Thin.ref (.skip (.skip (Thin.refl _))) | exact ⟨rfl, Nat.le_of_ble_eq_true rfl⟩ | ((try unfold maxLen); (try simp only [List.length_nil, List.length_cons, List.length_append]); omega) | (refine ⟨rfl, ?_⟩; (try simp only [List.length_nil, List.length_cons, List.length_append]); omega)) ?_ | intro _)); (all_goals (conv => whnf))
  rename_i b22
  refine VC_loop ParG (fun x => [(0, .v (pS b)), (4, .v (.func (.func vf) #[] cap.toArray)), (11, .sl 500 x.a x.st.length x.c)]) (fun x => [.own 500 x.a x.st.length x.c ty_access_span 4 (spnsC x.st), packE 90 x.fp1 (fV x.acc), packE 77 x.fp2 (fS b S)])
    (fun x => okSt S (tm S.E n).dep x.st ∧ x.acc ++ stTx S.E x.st = T) (fun x => wkSt S.E x.st) ⟨[⟨n, i, m, 1⟩], [], some ⟨b22, 0, none⟩, 1, fp1, fp2⟩ ⟨?_, ?_⟩ (by (repeat ((conv => whnf); refine And.intro (by first | exact rfl | exact vint_eq (by omega) | exact vint_eq (by (dsimp only; omega)) | exact vsl_eq (by omega) | exact vsl_eq (by first | (dsimp only; omega) | (simp; done) | (simp; omega))) ?_)); exact trivial) (Thin.ref (.own rfl rfl (Thin.refl _))) ?_
  · exact (okSt.nil S _).snoc (st := []) ⟨hk, hfit, .inl rfl, by dsimp only; omega, by dsimp only [List.length_nil]; omega⟩
  · simp only [stTx, spTx, List.nil_append]
    rw [rep_one]; exact hT
  rintro ⟨st, acc, a, c, fp1, fp2⟩ ⟨h1, h2⟩
  dsimp only at h1 h2 ⊢
  rcases List.eq_nil_or_concat st with rfl | ⟨s, x, rfl⟩
  · rw [stTx, List.append_nil] at h2
    subst h2
    (repeat' ((conv => whnf); first | (refine bcase_prop (fun h => ?_) (fun h => ?_) <;> try (exfalso; omega)) | (refine bcase_nprop (fun h => ?_) (fun h => ?_) <;> try (exfalso; omega)) | (refine bcase_intro (fun h => ?_) (fun h => ?_) <;> (try simp only [Bool.not_eq_true', Bool.not_eq_false', decide_eq_true_eq, decide_eq_false_iff_not, Bool.not_eq_true, Bool.not_eq_false, Decidable.not_not] at h)) | refine And.intro (by first | omega | exact rfl | assumption | exact ⟨rfl, rfl, rfl, rfl, rfl⟩ | exact ⟨rfl, rfl, rfl, rfl⟩ | exact ⟨rfl, by omega⟩ | exact oneAll_of rfl | exact ⟨rfl, oneAll_of rfl⟩ | exact Ref.refl _ | exact Thin.ref (.skip (Thin.refl _)) | exact Thin.ref (.skip (.skip (Thin.refl _))) | exact ⟨rfl, Nat.le_of_ble_eq_true rfl⟩ | ((try unfold maxLen); (try simp only [List.length_nil, List.length_cons, List.length_append]); omega) | (refine ⟨rfl, ?_⟩; (try simp only [List.length_nil, List.length_cons, List.length_append]); omega)) ?_ | intro _)); (all_goals (conv => whnf))
    exact ⟨⟨[packE 90 fp1 (fV acc), packE 77 fp2 (fS b S)], Thin.ref (.skip (Thin.refl _)), rfl, fp1, fp2, rfl⟩⟩
  rw [List.concat_eq_append] at h1 h2 ⊢
  have hx := h1.last
  have hi := h1.init
  have hsl := h1.len
  have hle : (s ++ [x]).length = s.length + 1 := by simp
  have hidx : (((s ++ [x]).length : Int) - 1).toNat = s.length := by omega
  have hlast := spnsC_last s x
  have htk := spnsC_take s x
  rw [stTx_snoc] at h2
  have hwk : wkSt S.E s < wkSt S.E (s ++ [x]) := by
    rw [wkSt_append]
    have := wkSp_pos S.E x
    simp only [wkSt]; omega
  have hkx := hx.known
  have hfx := hx.fit
  have hlx := hw.le hkx.2
  by_cases hz : x.n = 0 ∨ x.times = 0
  · have he : spTx S.E x = [] := by
      unfold spTx
      rcases hz with h | h
      · rw [h, sub_zero]; simp [rep]
      · rw [h]; rfl
    rw [he, List.nil_append] at h2
    (repeat' ((conv => whnf); first | rw [hidx] | rw [htk] | refine ldRow hlast ?_ | (refine bcase_prop (fun h => ?_) (fun h => ?_) <;> try (exfalso; omega)) | (refine bcase_nprop (fun h => ?_) (fun h => ?_) <;> try (exfalso; omega)) | (refine bcase_intro (fun h => ?_) (fun h => ?_) <;> (try simp only [Bool.not_eq_true', Bool.not_eq_false', decide_eq_true_eq, decide_eq_false_iff_not, Bool.not_eq_true, Bool.not_eq_false, Decidable.not_not] at h)) | refine And.intro (by first | omega | exact rfl | assumption | exact ⟨rfl, rfl, rfl, rfl, rfl⟩ | exact ⟨rfl, rfl, rfl, rfl⟩ | exact ⟨rfl, by omega⟩ | exact oneAll_of rfl | exact ⟨rfl, oneAll_of rfl⟩ | exact Ref.refl _ | exact Thin.ref (.skip (Thin.refl _)) | exact Thin.ref (.skip (.skip (Thin.refl _))) | exact ⟨rfl, Nat.le_of_ble_eq_true rfl⟩ | ((try unfold maxLen); (try simp only [List.length_nil, List.length_cons, List.length_append]); omega) | (refine ⟨rfl, ?_⟩; (try simp only [List.length_nil, List.length_cons, List.length_append]); omega)) ?_ | intro _)); (all_goals (conv => whnf))
    all_goals first | (exfalso; omega) | exact loop_next ⟨s, acc, a, c, fp1, fp2⟩ ⟨hi, h2⟩ hwk (by (repeat ((conv => whnf); refine And.intro (by first | exact rfl | exact vint_eq (by omega) | exact vint_eq (by (dsimp only; omega)) | exact vsl_eq (by omega) | exact vsl_eq (by first | (dsimp only; omega) | (simp; done) | (simp; omega))) ?_)); exact trivial) (Thin.ref (.skip (.own rfl rfl (Thin.refl _))))
  have c1 := calls_SWeight b S x.id hsm
  rw [wtRes_ok hkx] at c1
  have hid : 1 ≤ x.id := by
    have := hkx.1
    by_cases h0 : x.id = 0
    · rw [h0, tm_zero] at hfx; simp [Tm.len, Tm.txt] at hfx; omega
    · omega
  by_cases hall : x.n = (tm S.E x.id).len
  · have he : spTx S.E x = rep x.times (tm S.E x.id).txt := by
      unfold spTx
      rw [show x.fr = 0 by omega, hall, Tm.len, sub_all]
    rw [he, ← List.append_assoc] at h2
    have hN2 : (acc ++ rep x.times (tm S.E x.id).txt).length ≤ N := by
      have := congrArg List.length h2
      rw [List.length_append, hTl] at this
      omega
    have c2 := hv acc x.id x.times hid hkx.2 (by omega) hN2
    have hall' : (x.n : Int) = ((tm S.E x.id).txt.length : Nat) := by rw [hall]; rfl
    (repeat' ((conv => whnf); first | rw [hidx] | rw [htk] | refine ldRow hlast ?_ | (refine CallK_pack (key := 77) rfl (fun w hR h0 => c1 _ _ _ h0) ?_; rintro _ _ ⟨rfl, fp', rfl⟩; refine ⟨.v _, rfl, ?_⟩) | refine And.intro hok ?_ | (refine CallK_pack2 (key1 := 90) (key2 := 77) rfl rfl (fun w hR h0 => c2 _ _ _ h0) ?_; rintro _ _ ⟨rfl, fp1', fp2', rfl⟩; refine ⟨.v _, rfl, ?_⟩) | (refine bcase_prop (fun h => ?_) (fun h => ?_) <;> try (exfalso; omega)) | (refine bcase_nprop (fun h => ?_) (fun h => ?_) <;> try (exfalso; omega)) | (refine bcase_intro (fun h => ?_) (fun h => ?_) <;> (try simp only [Bool.not_eq_true', Bool.not_eq_false', decide_eq_true_eq, decide_eq_false_iff_not, Bool.not_eq_true, Bool.not_eq_false, Decidable.not_not] at h)) | refine And.intro (by first | omega | exact rfl | assumption | exact ⟨rfl, rfl, rfl, rfl, rfl⟩ | exact ⟨rfl, rfl, rfl, rfl⟩ | exact ⟨rfl, by omega⟩ | exact oneAll_of rfl | exact ⟨rfl, oneAll_of rfl⟩ | exact Ref.refl _ | exact Thin.ref (.skip (Thin.refl _)) | exact Thin.ref (.skip (.skip (Thin.refl _))) | exact ⟨rfl, Nat.le_of_ble_eq_true rfl⟩ | ((try unfold maxLen); (try simp only [List.length_nil, List.length_cons, List.length_append]); omega) | (refine ⟨rfl, ?_⟩; (try simp only [List.length_nil, List.length_cons, List.length_append]); omega)) ?_ | intro _)); (all_goals (conv => whnf))
    exact loop_next ⟨s, acc ++ rep x.times (tm S.E x.id).txt, a, c, fp1', fp2'⟩ ⟨hi, h2⟩ hwk (by (repeat ((conv => whnf); refine And.intro (by first | exact rfl | exact vint_eq (by omega) | exact vint_eq (by (dsimp only; omega)) | exact vsl_eq (by omega) | exact vsl_eq (by first | (dsimp only; omega) | (simp; done) | (simp; omega))) ?_)); exact trivial) ((Thin.ref (.keep rfl (fun _ h => h) (.keep rfl (fun _ h => h) (.skip (.skip (.own rfl rfl (.nil _)))))) : Ref _ _ _ [packE 90 _ _, packE 77 _ _, .own 500 _ _ _ _ _ _]).trans (Ref.perm (.trans (.cons _ (.swap _ _ _)) (.swap _ _ _))))
  · have ht1 : x.times = 1 := by
      rcases hx.tim with h | ⟨_, h⟩
      · exact h
      · exact absurd h hall
    have hnot : ¬ (x.n : Int) = ((tm S.E x.id).txt.length : Nat) := fun h => hall (by unfold Tm.len; omega)
    have c2 := calls_Rule b S x.id hsm
    rw [ruleV_ok hid hkx.2] at c2
    have hnl : s.length ≤ 4194304 := by omega
    rcases hw.below hid hkx.2 with ⟨hk1, ht⟩ | ⟨hk1, ht, a1, a2, b1, b2⟩ | ⟨hk1, ht, a1, a2, t2⟩
    · rw [ht] at hall hfx
      simp only [Tm.len, Tm.txt, List.length_cons, List.length_nil] at hall hfx
      omega
    · obtain ⟨o1, o2, o3⟩ := halve_ok hw h1 ht1 hid hk1
      have c3 := calls_SWeight b S (atE S.E x.id).r.a hsm
      rw [wtRes_ok ⟨by have := hkx.1; omega, by have := hkx.2; omega⟩] at c3
      have hla := hw.le (n := (atE S.E x.id).r.a) (by have := hkx.2; omega)
      have c4 := fun a c fp w h => calls_halve (atE S.E x.id).r (tm S.E (atE S.E x.id).r.a).len x hla (by omega) (by omega) s hnl a c fp w h
      rw [← o2] at h2
      have hlh : (s ++ halveL (atE S.E x.id).r (tm S.E (atE S.E x.id).r.a).len x).length = s.length + 2 := by simp [halveL]
      generalize halveL (atE S.E x.id).r (tm S.E (atE S.E x.id).r.a).len x = hl at *
      unfold Tm.len at c4
      (repeat' ((conv => whnf); first | rw [hidx] | rw [htk] | refine ldRow hlast ?_ | (refine CallK_pack (key := 77) rfl (fun w hR h0 => c1 _ _ _ h0) ?_; rintro _ _ ⟨rfl, fp', rfl⟩; refine ⟨.v _, rfl, ?_⟩) | (refine CallK_pack (key := 77) rfl (fun w hR h0 => c2 _ _ _ h0) ?_; rintro _ _ ⟨rfl, fp', rfl⟩; refine ⟨.v _, rfl, ?_⟩) | (refine CallK_pack (key := 77) rfl (fun w hR h0 => c3 _ _ _ h0) ?_; rintro _ _ ⟨rfl, fp', rfl⟩; refine ⟨.v _, rfl, ?_⟩) | refine CallK_own (key := 500) rfl (fun w hR h0 => c4 _ _ _ _ h0) ?_ | (refine bcase_prop (fun h => ?_) (fun h => ?_) <;> try (exfalso; omega)) | (refine bcase_nprop (fun h => ?_) (fun h => ?_) <;> try (exfalso; omega)) | (refine bcase_intro (fun h => ?_) (fun h => ?_) <;> (try simp only [Bool.not_eq_true', Bool.not_eq_false', decide_eq_true_eq, decide_eq_false_iff_not, Bool.not_eq_true, Bool.not_eq_false, Decidable.not_not] at h)) | refine And.intro (by first | omega | exact rfl | assumption | exact ⟨rfl, rfl, rfl, rfl, rfl⟩ | exact ⟨rfl, rfl, rfl, rfl⟩ | exact ⟨rfl, by omega⟩ | exact oneAll_of rfl | exact ⟨rfl, oneAll_of rfl⟩ | exact Ref.refl _ | exact Thin.ref (.skip (Thin.refl _)) | exact Thin.ref (.skip (.skip (Thin.refl _))) | exact ⟨rfl, Nat.le_of_ble_eq_true rfl⟩ | ((try unfold maxLen); (try simp only [List.length_nil, List.length_cons, List.length_append]); omega) | (refine ⟨rfl, ?_⟩; (try simp only [List.length_nil, List.length_cons, List.length_append]); omega)) ?_ | intro _)); (all_goals (conv => whnf))
      rename_i a' c'
      exact loop_next ⟨s ++ hl, acc, a', c', fp1, fp'⟩ ⟨o1, h2⟩ o3 (by (repeat ((conv => whnf); refine And.intro (by first | exact rfl | exact vint_eq (by omega) | exact vint_eq (by (dsimp only; omega)) | exact vsl_eq (by omega) | exact vsl_eq (by first | (dsimp only; omega) | (simp; done) | (simp; omega))) ?_)); exact trivial) ((Thin.ref (.skip (.keep rfl (fun _ h => h) (.skip (.skip (.skip (.own (by rw [List.length_append] at hlh; simp; try omega) rfl (.keep rfl (fun _ h => h) (.nil _)))))))) : Ref _ _ _ [packE 77 fp' _, .own 500 a' _ c' _ _ _, packE 90 fp1 _]).trans (Ref.perm (.trans (.swap _ _ _) (.cons _ (.swap _ _ _)))))
    · obtain ⟨o1, o2, o3⟩ := divide_ok hw h1 ht1 (by omega) hid hk1
      have hp := hw.pos1 a1 (by have := hkx.2; omega)
      have c3 := calls_SWeight b S (atE S.E x.id).r.a hsm
      rw [wtRes_ok ⟨by have := hkx.1; omega, by have := hkx.2; omega⟩] at c3
      have hla := hw.le (n := (atE S.E x.id).r.a) (by have := hkx.2; omega)
      have c4 := fun a c fp w h => calls_divide (atE S.E x.id).r (tm S.E (atE S.E x.id).r.a).len x hp hla (by omega) (by omega) s hnl a c fp w h
      rw [← o2] at h2
      have hlh : (s ++ divideL (atE S.E x.id).r (tm S.E (atE S.E x.id).r.a).len x).length = s.length + (divideL (atE S.E x.id).r (tm S.E (atE S.E x.id).r.a).len x).length := by simp
      generalize divideL (atE S.E x.id).r (tm S.E (atE S.E x.id).r.a).len x = hl at *
      unfold Tm.len at c4
      (repeat' ((conv => whnf); first | rw [hidx] | rw [htk] | refine ldRow hlast ?_ | (refine CallK_pack (key := 77) rfl (fun w hR h0 => c1 _ _ _ h0) ?_; rintro _ _ ⟨rfl, fp', rfl⟩; refine ⟨.v _, rfl, ?_⟩) | (refine CallK_pack (key := 77) rfl (fun w hR h0 => c2 _ _ _ h0) ?_; rintro _ _ ⟨rfl, fp', rfl⟩; refine ⟨.v _, rfl, ?_⟩) | (refine CallK_pack (key := 77) rfl (fun w hR h0 => c3 _ _ _ h0) ?_; rintro _ _ ⟨rfl, fp', rfl⟩; refine ⟨.v _, rfl, ?_⟩) | refine CallK_own (key := 500) rfl (fun w hR h0 => c4 _ _ _ _ h0) ?_ | (refine bcase_prop (fun h => ?_) (fun h => ?_) <;> try (exfalso; omega)) | (refine bcase_nprop (fun h => ?_) (fun h => ?_) <;> try (exfalso; omega)) | (refine bcase_intro (fun h => ?_) (fun h => ?_) <;> (try simp only [Bool.not_eq_true', Bool.not_eq_false', decide_eq_true_eq, decide_eq_false_iff_not, Bool.not_eq_true, Bool.not_eq_false, Decidable.not_not] at h)) | refine And.intro (by first | omega | exact rfl | assumption | exact ⟨rfl, rfl, rfl, rfl, rfl⟩ | exact ⟨rfl, rfl, rfl, rfl⟩ | exact ⟨rfl, by omega⟩ | exact oneAll_of rfl | exact ⟨rfl, oneAll_of rfl⟩ | exact Ref.refl _ | exact Thin.ref (.skip (Thin.refl _)) | exact Thin.ref (.skip (.skip (Thin.refl _))) | exact ⟨rfl, Nat.le_of_ble_eq_true rfl⟩ | ((try unfold maxLen); (try simp only [List.length_nil, List.length_cons, List.length_append]); omega) | (refine ⟨rfl, ?_⟩; (try simp only [List.length_nil, List.length_cons, List.length_append]); omega)) ?_ | intro _)); (all_goals (conv => whnf))
      rename_i a' c'
      exact loop_next ⟨s ++ hl, acc, a', c', fp1, fp'⟩ ⟨o1, h2⟩ o3 (by (repeat ((conv => whnf); refine And.intro (by first | exact rfl | exact vint_eq (by omega) | exact vint_eq (by (dsimp only; omega)) | exact vsl_eq (by omega) | exact vsl_eq (by first | (dsimp only; omega) | (simp; done) | (simp; omega))) ?_)); exact trivial) ((Thin.ref (.skip (.keep rfl (fun _ h => h) (.skip (.skip (.skip (.own (by rw [List.length_append] at hlh; simp; try omega) rfl (.keep rfl (fun _ h => h) (.nil _)))))))) : Ref _ _ _ [packE 77 fp' _, .own 500 a' _ c' _ _ _, packE 90 fp1 _]).trans (Ref.perm (.trans (.swap _ _ _) (.cons _ (.swap _ _ _)))))
end Go.Proofs.Ytagoedllflalpaa
