/- Ways to letters: the program. -/
import Derived.Test.YtagoedllflalpaaK6
import Derived.Test.YtagoedllflalpaaK7
namespace Go.Proofs.Ytagoedllflalpaa
open Go.EG
attribute [local irreducible] CallK QCall Go.Calls
set_option linter.unusedSimpArgs false
set_option linter.unusedVariables false
set_option maxRecDepth 20000
set_option maxHeartbeats 4000000

/-- The part of the heap that the first operations look at: without the store. -/
def dropA (key : Nat) : List Ent → List Ent
  | [] => []
  | .abs k fp ok :: L => match Nat.decEq k key with
    | .isTrue _ => L
    | .isFalse _ => .abs k fp ok :: dropA key L
  | .box k b cs T :: L => .box k b cs T :: dropA key L
  | .own k a n c T sz xs :: L => .own k a n c T sz xs :: dropA key L
  | .mapE k b kk m :: L => .mapE k b kk m :: dropA key L
theorem dropA_sub (key : Nat) : ∀ L : List Ent, (dropA key L).Sublist L
  | [] => .slnil
  | .abs k fp ok :: L => by
    simp only [dropA]
    split
    · exact List.sublist_cons_self _ _
    · exact (dropA_sub key L).cons_cons _
  | .box k b cs T :: L => (dropA_sub key L).cons_cons _
  | .own k a n c T sz xs :: L => (dropA_sub key L).cons_cons _
  | .mapE k b kk m :: L => (dropA_sub key L).cons_cons _
theorem VC_dropA {P : Program} {w0 : World} {fp0 : List Nat} {l : List Gop} {t : Tr} {K : Env → List Ent → Prop} {e : Env} {L : List Ent} (key : Nat) (k : VT P w0 fp0 l K t (dropA key L) e L) : Stop (∃ Lb, Ref w0 fp0 L Lb ∧ VT P w0 fp0 l K t Lb e L) := ⟨dropA key L, fun _ h => h.sub (dropA_sub key L), k⟩
theorem calls_PathBad (b : Nat) (S : Sto) (hw : WF S) (n i : Int) (hk : known S n) (hb : ¬ (0 ≤ i ∧ i < (tm S.E n).len)) : SC fn_access_Path #[pS b, .int .i64 n, .int .i64 i] b S S (.tuple #[.slice none 0 0, errV 1]) := by
  intro key fp w hR
  refine part_call [.v (pS b), .v (.int .i64 n), .v (.int .i64 i)] ok_access_Path (by simp) (hR.key 77) ?_
  have c0 := calls_SWeight b S n hw.small
  rw [wtRes_ok hk] at c0
  have hb' : ¬ (0 ≤ i ∧ i < ((tm S.E n).txt.length : Nat)) := hb
  (repeat' ((conv => whnf); first | (refine CallK_pack (key := 77) rfl (fun w hR h0 => c0 _ _ _ h0) ?_; rintro _ _ ⟨rfl, fp', rfl⟩; refine ⟨.v _, rfl, ?_⟩) | (refine bcase_prop (fun h => ?_) (fun h => ?_) <;> try (exfalso; omega)) | (refine bcase_nprop (fun h => ?_) (fun h => ?_) <;> try (exfalso; omega)) | (refine bcase_intro (fun h => ?_) (fun h => ?_) <;> (try simp only [Bool.not_eq_true', Bool.not_eq_false', decide_eq_true_eq, decide_eq_false_iff_not, Bool.not_eq_true, Bool.not_eq_false, Decidable.not_not] at h)) | refine And.intro (by first | omega | exact rfl | assumption | exact ⟨rfl, rfl, rfl, rfl, rfl⟩ | exact ⟨rfl, rfl, rfl, rfl⟩ | exact ⟨rfl, by omega⟩ | exact oneAll_of rfl | exact ⟨rfl, oneAll_of rfl⟩ | exact Ref.refl _ | exact Thin.ref (.skip (Thin.refl _)) | exact Thin.ref (.skip (.skip (Thin.refl _))) | exact ⟨rfl, Nat.le_of_ble_eq_true rfl⟩ | ((try unfold maxLen); (try simp only [List.length_nil, List.length_cons, List.length_append]); omega) | (refine ⟨rfl, ?_⟩; (try simp only [List.length_nil, List.length_cons, List.length_append]); omega)) ?_ | intro _)); (all_goals (conv => whnf))
  all_goals first | (exfalso; omega) | exact ⟨endP (by (repeat (first | exact Thin.nil _ | exact Thin.refl _ | refine Thin.keep rfl (fun _ h => h) ?_ | refine Thin.skip ?_))) rfl⟩

theorem law_AccessPaths (w : World) (g : List Rul) (hg : MIn g) (a : Option Addr) (c : Nat) (hin : In w [] a (rulsC g)) (pick at_ : Int) (hp : -9223372036854775808 ≤ pick ∧ pick ≤ 9223372036854775807) :
    Calls Try.prog fn_evergreenlaw16_AccessPaths #[.slice a g.length c, .int .i64 pick, .int .i64 at_] w fun e w' => e = .returned (.bool true) ∧ Ext w w' := by
  refine pure_call [.v (.slice a g.length c), .v (.int .i64 pick), .v (.int .i64 at_)] w ok_evergreenlaw16_AccessPaths (by simp) ?_
  have c0 := calls_awake16
  by_cases hl : g.length ≤ 40
  case neg =>
    (repeat' ((conv => whnf); first | (first | refine CallK_pure (.v _) (fun w hR => c0 w) ?_ | refine QCall_pure (.v _) (fun w hR => c0 w) ?_) | (refine bcase_prop (fun h => ?_) (fun h => ?_) <;> try (exfalso; omega)) | (refine bcase_nprop (fun h => ?_) (fun h => ?_) <;> try (exfalso; omega)) | (refine bcase_intro (fun h => ?_) (fun h => ?_) <;> (try simp only [Bool.not_eq_true', Bool.not_eq_false', decide_eq_true_eq, decide_eq_false_iff_not, Bool.not_eq_true, Bool.not_eq_false, Decidable.not_not] at h)) | refine And.intro (by first | omega | exact rfl | assumption | exact ⟨rfl, rfl, rfl, rfl, rfl⟩ | exact ⟨rfl, rfl, rfl, rfl⟩ | exact ⟨rfl, by omega⟩ | exact oneAll_of rfl | exact ⟨rfl, oneAll_of rfl⟩ | exact Ref.refl _ | exact Thin.ref (.skip (Thin.refl _)) | exact Thin.ref (.skip (.skip (Thin.refl _))) | exact ⟨rfl, Nat.le_of_ble_eq_true rfl⟩ | ((try unfold maxLen); (try simp only [List.length_nil, List.length_cons, List.length_append]); omega) | (refine ⟨rfl, ?_⟩; (try simp only [List.length_nil, List.length_cons, List.length_append]); omega)) ?_ | intro _)); (all_goals (conv => whnf))
    all_goals first | (exfalso; omega) | exact ⟨rfl⟩
  have c1 := fun w h => calls_begun16 g hg hl pick hp a c w h
  have hw := gS_wf hg hl
  have hk := gId_known hg hl pick
  have hE := gE_len hg hl
  unfold begQ at c1
  generalize gId g pick = id at *
  have hlen := hw.le hk.2
  have cL := fun a1 c1 a2 c2 w h => calls_Length (a1 := a1) (c1 := c1) (a2 := a2) (c2 := c2) (gE g) (by omega) hk.1 hk.2 w h
  have cN := fun b => calls_sLen b (gS g)
  have c7 := calls_Is 1 1 (by decide)
  have cA := fun b => calls_At b (gS g) hw id at_
  unfold atRes at cA
  by_cases hv : 0 ≤ at_ ∧ at_ < (tm (gS g).E id).len
  case neg =>
    rw [if_neg (fun h => hv h.2)] at cA
    have cP := fun b => calls_PathBad b (gS g) hw id at_ hk hv
    have hv' : ¬ (0 ≤ at_ ∧ at_ < (tm (gE g) id).len) := hv
    (repeat' ((conv => whnf); first | refine VC_dropA 77 ?_ | (first | refine CallK_pure (.v _) (fun w hR => c0 w) ?_ | refine QCall_pure (.v _) (fun w hR => c0 w) ?_) | (first | refine CallK_pure (.v _) (fun w hR => c7 w) ?_ | refine QCall_pure (.v _) (fun w hR => c7 w) ?_) | ((refine CallK_new (fun w hR => c1 w (hin.cast hR (by simp))) ?_); rintro _ _ ⟨b, a1, k1, a2, k2, fpb, rfl, rfl⟩; refine ⟨.v _, rfl, ?_⟩) | (refine QCall_pure (.v _) (fun w hR => cL _ _ _ _ w (In.ownR (key := 802) hR rfl)) ?_) | (refine CallK_pack (key := 77) rfl (fun w hR h0 => cN _ _ _ _ h0) ?_; rintro _ _ ⟨rfl, fp', rfl⟩; refine ⟨.v _, rfl, ?_⟩) | (refine CallK_pack (key := 77) rfl (fun w hR h0 => cP _ _ _ _ h0) ?_; rintro _ _ ⟨rfl, fp', rfl⟩; refine ⟨.v _, rfl, ?_⟩) | (refine CallK_pack (key := 77) rfl (fun w hR h0 => cA _ _ _ _ h0) ?_; rintro _ _ ⟨rfl, fp', rfl⟩; refine ⟨.v _, rfl, ?_⟩) | (refine bcase_prop (fun h => ?_) (fun h => ?_) <;> try (exfalso; omega)) | (refine bcase_nprop (fun h => ?_) (fun h => ?_) <;> try (exfalso; omega)) | (refine bcase_intro (fun h => ?_) (fun h => ?_) <;> (try simp only [Bool.not_eq_true', Bool.not_eq_false', decide_eq_true_eq, decide_eq_false_iff_not, Bool.not_eq_true, Bool.not_eq_false, Decidable.not_not] at h)) | refine And.intro (by first | omega | exact rfl | assumption | exact ⟨rfl, rfl, rfl, rfl, rfl⟩ | exact ⟨rfl, rfl, rfl, rfl⟩ | exact ⟨rfl, by omega⟩ | exact oneAll_of rfl | exact ⟨rfl, oneAll_of rfl⟩ | exact Ref.refl _ | exact Thin.ref (.skip (Thin.refl _)) | exact Thin.ref (.skip (.skip (Thin.refl _))) | exact Thin.ref (.skip (Thin.refl _)) | exact ⟨rfl, Nat.le_of_ble_eq_true rfl⟩ | ((try unfold maxLen); (try simp only [List.length_nil, List.length_cons, List.length_append]); omega) | (refine ⟨rfl, ?_⟩; (try simp only [List.length_nil, List.length_cons, List.length_append]); omega)) ?_ | intro _)); (all_goals (conv => whnf))
    all_goals first | (exfalso; omega) | exact ⟨rfl⟩
  rw [if_pos ⟨hk, hv⟩] at cA
  obtain ⟨i, rfl⟩ := Int.eq_ofNat_of_zero_le hv.1
  have hi : i < (tm (gS g).E id).len := by omega
  have hid : 1 ≤ id := by
    have := hk.1
    by_cases h0 : id = 0
    · subst h0; rw [tm_zero] at hi; simp [Tm.len, Tm.txt] at hi
    · omega
  rw [Int.toNat_natCast] at cA
  obtain ⟨s1, l, m, s2, s3, s4, s5, s6⟩ := pathL_spec hw id.toNat id i (Nat.le_refl _) hid hk.2 hi
  have cP := fun b key fp w h => calls_Path b (gS g) hw id i hk (by omega) hv.2 key fp w h
  rw [Int.toNat_natCast] at cP
  have cR := fun a1 c1 a2 c2 w h1 h2 => calls_r16Path (a1 := a1) (c1 := c1) (a2 := a2) (c2 := c2) (E := gE g) hw hid hk.2 hi w h1 h2
  have cD := fun b => calls_Depth b (gS g) id hk hw.small
  have hdep := hw.dep hk.2
  have hm2 : m ≤ (gE g).length := by have := hk.2; show m ≤ ((gS g).E.length : Int); omega
  rw [s2] at s1
  have cS := fun a a' c c' w h h' => calls_IDs (l ++ [m]) a a' c c' (by omega) w h h'
  have r1 : (ints .i64 (l ++ [m]))[l.length]? = some (.int .i64 m) := by simp [ints]
  have r2 : (ruE (gE g))[(m - 1).toNat * 5 + 1]? = some (.int .u8 (atE (gE g) m).r.l) := by
    have := congrArg (fun l => l[1]?) (ruE_at (E := gE g) (i := (m - 1).toNat) (by omega))
    rw [atE_pos (by omega), show m.toNat - 1 = (m - 1).toNat by omega]
    simpa [List.getElem?_take] using this
  have hll : (l ++ [m]).length = l.length + 1 := by simp
  have e1 : (((l ++ [m]).length : Int) - 1).toNat = l.length := by omega
  have s6' : (atE (gE g) m).r.l = ((tm (gS g).E id).txt.getD i 0 : Nat) := s6
  rw [s6'] at r2
  have cP' : ∀ b key fp w, StR w key fp b (gS g) → Calls Try.prog fn_access_Path #[pS b, .int .i64 id, .int .i64 i] w fun e w' => ∃ v L1, e = .returned v ∧ R w fp L1 w' ∧ ∃ a c fp', v = .tuple #[.slice a (l ++ [m]).length c, .nilIface] ∧ L1 = [packE key fp' (fS b (gS g)), .own 805 a (l ++ [m]).length c ty_api_ID 1 (ints .i64 (l ++ [m]))] := fun b key fp w h => by
    have := cP b key fp w h
    unfold pthQ at this
    rw [s2] at this
    exact this
  have cR' : ∀ a1 c1 a2 c2 w, In w [] a1 (ruE (gE g)) → In w [] a2 (leE (gE g)) → Calls Try.prog fn_evergreenref16_Path #[.slice a1 (gE g).length c1, .slice a2 (gE g).length c2, .int .i64 id, .int .i64 i] w (RetS ty_api_ID 1 (l ++ [m]).length (ints .i64 (l ++ [m])) w) := fun a1 c1 a2 c2 w h1 h2 => by
    have := cR a1 c1 a2 c2 w h1 h2
    rw [show pathL (gE g) id i = l ++ [m] from s2] at this
    exact this
  have hv' : (0 : Int) ≤ i ∧ (i : Int) < (tm (gE g) id).len := hv
  clear cP cR
  generalize (tm (gS g).E id).txt.getD i 0 = lt at *
  generalize (tm (gS g).E id).dep = dp at *
  (repeat' ((conv => whnf); first | refine VC_dropA 77 ?_ | rw [e1] | (first | refine CallK_pure (.v _) (fun w hR => c0 w) ?_ | refine QCall_pure (.v _) (fun w hR => c0 w) ?_) | (first | refine CallK_pure (.v _) (fun w hR => c7 w) ?_ | refine QCall_pure (.v _) (fun w hR => c7 w) ?_) | ((refine CallK_new (fun w hR => c1 w (hin.cast hR (by simp))) ?_); rintro _ _ ⟨b, a1, k1, a2, k2, fpb, rfl, rfl⟩; refine ⟨.v _, rfl, ?_⟩) | (refine QCall_pure (.v _) (fun w hR => cL _ _ _ _ w (In.ownR (key := 802) hR rfl)) ?_) | (refine CallK_pack (key := 77) rfl (fun w hR h0 => cN _ _ _ _ h0) ?_; rintro _ _ ⟨rfl, fp', rfl⟩; refine ⟨.v _, rfl, ?_⟩) | (refine CallK_pack (key := 77) rfl (fun w hR h0 => cP' _ _ _ _ h0) ?_; rintro _ _ ⟨a5, k5, fp', rfl, rfl⟩; refine ⟨.v _, rfl, ?_⟩) | (refine CallK_pack (key := 77) rfl (fun w hR h0 => cA _ _ _ _ h0) ?_; rintro _ _ ⟨rfl, fp', rfl⟩; refine ⟨.v _, rfl, ?_⟩) | (refine CallK_pack (key := 77) rfl (fun w hR h0 => cD _ _ _ _ h0) ?_; rintro _ _ ⟨rfl, fp', rfl⟩; refine ⟨.v _, rfl, ?_⟩) | (refine CallK_slice 901 (fun w' hR => cR' _ _ _ _ w' (In.ownR (key := 801) hR rfl) (In.ownR (key := 802) hR rfl)) ?_) | (refine CallK_pure (.v _) (fun w' hR => cS _ _ _ _ w' (In.ownR (key := 805) hR rfl) (In.ownR (key := 901) hR rfl)) ?_) | refine ⟨.sl 801 _ _ _, ⟨rfl, rfl, rfl, rfl⟩, ?_⟩ | refine ⟨.sl 802 _ _ _, ⟨rfl, rfl, rfl, rfl⟩, ?_⟩ | refine ldCell r1 ?_ | refine ldCell r2 ?_ | (refine bcase_prop (fun h => ?_) (fun h => ?_) <;> try (exfalso; omega)) | (refine bcase_nprop (fun h => ?_) (fun h => ?_) <;> try (exfalso; omega)) | (refine bcase_intro (fun h => ?_) (fun h => ?_) <;> (try simp only [Bool.not_eq_true', Bool.not_eq_false', decide_eq_true_eq, decide_eq_false_iff_not, Bool.not_eq_true, Bool.not_eq_false, Decidable.not_not] at h)) | refine And.intro (by first | omega | exact rfl | assumption | exact ⟨rfl, rfl, rfl, rfl, rfl⟩ | exact ⟨rfl, rfl, rfl, rfl⟩ | exact ⟨rfl, by omega⟩ | exact oneAll_of rfl | exact ⟨rfl, oneAll_of rfl⟩ | exact Ref.refl _ | exact Thin.ref (.skip (Thin.refl _)) | exact Thin.ref (.skip (.skip (Thin.refl _))) | exact Thin.ref (.skip (Thin.refl _)) | exact ⟨rfl, Nat.le_of_ble_eq_true rfl⟩ | ((try unfold maxLen); (try simp only [List.length_nil, List.length_cons, List.length_append]); omega) | (refine ⟨rfl, ?_⟩; (try simp only [List.length_nil, List.length_cons, List.length_append]); omega)) ?_ | intro _)); (all_goals (conv => whnf))
  all_goals first | (exfalso; omega) | exact ⟨rfl⟩ | (refine ⟨?_⟩; show Value.bool (decide _) = _; rw [decide_eq_true (by omega)])
end Go.Proofs.Ytagoedllflalpaa
