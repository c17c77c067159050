/- Signatures of two texts: the program. -/
import Derived.Test.YtkkhpdkfploodaaGreatDoorK5
import Derived.Test.YtkkhpdkfploodaaGreatDoorK7
namespace Go.Proofs.YtkkhpdkfploodaaGreatDoor
open Go.EG
attribute [local irreducible] CallK QCall Go.Calls
set_option linter.unusedSimpArgs false
set_option linter.unusedVariables false
set_option maxRecDepth 20000
set_option maxHeartbeats 4000000
theorem sigA {m : Tm} (h : Sig [97,97,97,97] m) : m = .pw (.lt 97) 4 :=
  h.det ⟨1,by decide,fun l hl => by
    have : l = 0 := by omega
    subst this
    decide⟩
theorem rulA {S : Sto} {x : Int} (hw : WF S) (h1 : 1 ≤ x) (h2 : x ≤ S.E.length) (h : tm S.E x = .pw (.lt 97) 4) : (atE S.E x).r.k = 3 ∧ (atE S.E x).r.t = 4 := by
  obtain ⟨hr,_,ht,_⟩ := hw.at_ h1 h2
  rw [h] at ht
  unfold mkT at ht
  rcases hr with ⟨e1,_⟩ | ⟨e1,_⟩ | ⟨e1,_,_,e4,_⟩
  · rw [if_pos e1] at ht; cases ht
  · rw [if_neg (by omega),if_pos e1] at ht; cases ht
  · rw [if_neg (by omega),if_neg (by omega)] at ht
    injection ht with _ ht
    exact ⟨e1,by omega⟩
theorem calls_awake22 (w : World) (hG : TabF w []) : Calls Tryz.prog fn_evergreenlaw22_awake #[] w fun e w' => e = .returned (.bool true) ∧ Ext w w' := by
  refine pure_call [] w ok_evergreenlaw22_awake (by simp) ?_
  have c1 := calls_New 9 77
  have hb : ∀ x ∈ [97,97,97,97],x < 256 := by decide
  have hw0 : WF ⟨9,[]⟩ := WF.new 9 (by decide)
  (repeat' ((conv => whnf); first | (refine CallK_new (fun w hR => c1 w) ?_; rintro _ _ ⟨bn,fpn,rfl,rfl⟩; refine ⟨.v _,rfl,?_⟩) | (refine CallK_new (fun w hR => calls_newP _ ⟨9,[]⟩ w) ?_; rintro _ _ ⟨bp,bt,f1,rfl,rfl⟩; refine ⟨.v _,rfl,?_⟩) | (refine CallK_sub [78,77,3000] rfl (fun w hR h0 => calls_Of bp bt bn ⟨9,[]⟩ hw0 [97,97,97,97] hb (by decide) (by decide) (by decide) _ _ _ _ _ w h0 (hG.castL hR) (In.besideRo (key := 12) hR (.head _))) ?_; rintro _ _ ⟨S,x,g1,g2,hw,hg,hx,hsg,hln,hout,rfl,rfl⟩; obtain ⟨hk3,hk4⟩ := rulA hw hx.1 hx.2 (sigA hsg); have c3 := calls_Rule bn S x hw.small; rw [ruleV_ok hx.1 hx.2] at c3; refine ⟨.v _,rfl,?_⟩) | (refine CallK_pack (key := 77) rfl (fun w hR h0 => c3 _ _ _ h0) ?_; rintro _ _ ⟨rfl,fp',rfl⟩; refine ⟨.v _,rfl,?_⟩) | (refine bcase_prop (fun h => ?_) (fun h => ?_) <;> try (exfalso; omega)) | (refine bcase_nprop (fun h => ?_) (fun h => ?_) <;> try (exfalso; omega)) | (refine bcase_intro (fun h => ?_) (fun h => ?_) <;> (try simp only [Bool.not_eq_true',Bool.not_eq_false',decide_eq_true_eq,decide_eq_false_iff_not,Bool.not_eq_true,Bool.not_eq_false,Decidable.not_not] at h)) | refine And.intro (by first | omega | exact rfl | assumption | exact ⟨rfl,rfl,rfl,rfl,rfl⟩ | exact ⟨rfl,rfl,rfl,rfl⟩ | exact ⟨rfl,by omega⟩ | exact oneAll_of rfl | exact ⟨rfl,oneAll_of rfl⟩ | exact Ref.refl _ | exact Thin.ref (.skip (Thin.refl _)) | exact Thin.ref (.skip (.skip (Thin.refl _))) | exact ⟨rfl,rfl,rfl,Nat.succ_pos _⟩ | exact ⟨rfl,Nat.le_of_ble_eq_true rfl⟩ | ((try unfold maxLen); (try simp only [List.length_nil,List.length_cons,List.length_append]); omega) | (refine ⟨rfl,?_⟩; (try simp only [List.length_nil,List.length_cons,List.length_append]); omega)) ?_ | intro _)); (all_goals (conv => whnf))
  all_goals first | (exfalso; omega) | (refine ⟨?_⟩; show Value.bool (decide _) = _; rw [decide_eq_true hk4])
def ofG (bp bt bs : Nat) (S0 : Sto) (t : List Nat) (v : Value) (L1 : List Ent) : Prop :=
  ∃ (S : Sto) (x : Int) (f1 f2 : List Nat),WF S ∧ Grow S0 S ∧ (0 ≤ x ∧ x ≤ S.E.length) ∧ (t = [] → x = 0) ∧ (t ≠ [] → 1 ≤ x ∧ Sig t (tm S.E x)) ∧ S.E.length ≤ S0.E.length + 2 * t.length ∧ Out S0 S t ∧ v = .tuple #[.int .i64 x,.nilIface] ∧ L1 = fP bp bt bs S f1 f2
theorem calls_OfG (bp bt bs : Nat) (S0 : Sto) (hw : WF S0) (t : List Nat) (hb : ∀ x ∈ t,x < 256) (hl : t.length ≤ 1000) (hroom : S0.E.length + 2 * t.length ≤ S0.most) (at_ : Option Addr) (ct : Nat) (f1 f2 fp : List Nat) (w : World)
    (hR : R w fp (fP bp bt bs S0 f1 f2) w) (hG : TabF w fp) (hin : In w fp at_ (bytesV t)) :
    Calls Tryz.prog fn_P_signature_Parser_Of #[pS bp,.slice at_ t.length ct] w fun e w' => ∃ v L1,e = .returned v ∧ R w fp L1 w' ∧ ofG bp bt bs S0 t v L1 := by
  by_cases ht : t = []
  · subst ht
    exact (calls_Of0 bp bt bs S0 at_ ct f1 f2 fp w hR).mono fun e w' ⟨v,L1,he,hR',hv,g1,g2,hL⟩ => ⟨v,L1,he,hR',S0,0,g1,g2,hw,Grow.refl _,⟨Int.le_refl _,Int.natCast_nonneg _⟩,fun _ => rfl,fun h => absurd rfl h,Nat.le_refl _,Out.refl _ _,hv,hL⟩
  · have hpos : 0 < t.length := List.length_pos_iff.2 ht
    exact (calls_Of bp bt bs S0 hw t hb hpos hl hroom at_ ct f1 f2 fp w hR hG hin).mono fun e w' ⟨v,L1,he,hR',S,x,g1,g2,h1,h2,h3,h4,h5,hv,hL⟩ => ⟨v,L1,he,hR',S,x,g1,g2,h1,h2,⟨by omega,h3.2⟩,fun h => absurd h ht,fun _ => ⟨h3.1,h4⟩,by omega,hv,hL⟩
theorem bytes_ints : ∀ {xs : List Int},(∀ n ∈ xs,(Lit.int .u8 n).wf = true) → ints .u8 xs = bytesV (xs.map Int.toNat) ∧ ∀ x ∈ xs.map Int.toNat,x < 256
  | [],_ => ⟨rfl,by simp⟩
  | n :: xs,h => by
    obtain ⟨i1,i2⟩ := bytes_ints (xs := xs) fun m hm => h m (List.mem_cons_of_mem _ hm)
    have hn := h n List.mem_cons_self
    simp only [Lit.wf,Bool.and_eq_true,decide_eq_true_eq] at hn
    have hn' : 0 ≤ n ∧ n ≤ 255 := hn
    obtain ⟨m,rfl⟩ := Int.eq_ofNat_of_zero_le hn'.1
    refine ⟨?_,fun x hx => ?_⟩
    · simp only [ints,bytesV,List.map_cons,Int.toNat_natCast] at i1 ⊢
      rw [i1]
    · rw [List.map_cons,List.mem_cons] at hx
      rcases hx with rfl | hx
      · have : (x : Int) ≤ 255 := hn'.2
        omega
      · exact i2 x hx
end Go.Proofs.YtkkhpdkfploodaaGreatDoor
