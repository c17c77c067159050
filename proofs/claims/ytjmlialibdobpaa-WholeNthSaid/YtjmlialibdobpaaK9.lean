/- The machine of patterns is made: the program. -/
import Derived.Test.YtjmlialibdobpaaK8
import Derived.Test.YtjmlialibdobpaaK6
import Derived.Test.YtjmlialibdobpaaK2
import Derived.Test.YtjmlialibdobpaaRows
namespace Go.Proofs.Ytjmlialibdobpaa
open Go.EG
attribute [local irreducible] CallK QCall Go.Calls
set_option linter.unusedSimpArgs false
set_option linter.unusedVariables false
set_option maxRecDepth 20000
set_option maxHeartbeats 4000000
structure PA where
  xs : List Nat
  a : Option Addr
  c : Nat
abbrev PA.v (r : PA) : Value := .slice r.a r.xs.length r.c
structure PIn (w : World) (fp : List Nat) (ps : List PA) (pa : Option Addr) : Prop where
  row : In w fp pa (ps.map PA.v)
  pat : ∀ p ∈ ps,In w fp p.a (byL p.xs)
  len : ∀ p ∈ ps,p.xs.length ≤ 9223372036854775807
  byt : ∀ p ∈ ps,∀ x ∈ p.xs,x < 256
def badP (ps : List (List Nat)) : Prop := ps = [] ∨ [] ∈ ps ∨ addAll ps tri0 = none
def litQ (ps : List (List Nat)) (v : Value) (L1 : List Ent) : Prop :=
  (badP ps ∧ L1 = [] ∧ ∃ n,v = .tuple #[.agg #[.int .i64 0,.slice none 0 0,.slice none 0 0,.slice none 0 0],.slice none 0 0,errV n]) ∨
  (∃ t y F aH cH,addAll ps tri0 = some t ∧ v = .tuple #[MA.v y,.slice aH (hitsT t).length cH,.nilIface] ∧ y.m = machT t ∧ MFz F y ∧ L1 = [frE 79 F,.own 53 aH (hitsT t).length cH ty_int 1 (ints .i64 (hitsT t))])
structure OfG where
  i : Nat
  t : Tri
  a : Option Addr
  c : Nat
theorem calls_litOf (ps : List PA) (hl : ps.length ≤ 4096) (pa : Option Addr) (pc : Nat) (w : World) (hin : PIn w [] ps pa) :
    Calls Try.prog fn_literal_Of #[.slice pa ps.length pc] w fun e w' => ∃ v L1,e = .returned v ∧ R w [] L1 w' ∧ litQ (ps.map PA.xs) v L1 := by
  refine new_call [.v (.slice pa ps.length pc)] ok_literal_Of (by simp) ?_
  obtain ⟨h1,h2,h3,h4⟩ := hin
  by_cases h0 : ps.length = 0
  · (repeat' ((conv => whnf); first | refine ⟨_,⟨rfl,trivial⟩,?_⟩ | (refine bcase_prop (fun h => ?_) (fun h => ?_) <;> try (exfalso; omega)) | (refine bcase_nprop (fun h => ?_) (fun h => ?_) <;> try (exfalso; omega)) | (refine bcase_intro (fun h => ?_) (fun h => ?_) <;> (try simp only [Bool.not_eq_true',Bool.not_eq_false',decide_eq_true_eq,decide_eq_false_iff_not,Bool.not_eq_true,Bool.not_eq_false,Decidable.not_not] at h)) | refine pay ?_ | intro _)); (all_goals (conv => whnf))
    all_goals first | (exfalso; omega) | skip
    exact ⟨⟨[],Ref.takes [] rfl (.nil _),.inl ⟨.inl (by rw [List.length_eq_zero_iff.1 h0]; rfl),rfl,4,rfl⟩⟩⟩
  · (repeat' ((conv => whnf); first | refine ⟨_,⟨rfl,trivial⟩,?_⟩ | (refine bcase_prop (fun h => ?_) (fun h => ?_) <;> try (exfalso; omega)) | (refine bcase_nprop (fun h => ?_) (fun h => ?_) <;> try (exfalso; omega)) | (refine bcase_intro (fun h => ?_) (fun h => ?_) <;> (try simp only [Bool.not_eq_true',Bool.not_eq_false',decide_eq_true_eq,decide_eq_false_iff_not,Bool.not_eq_true,Bool.not_eq_false,Decidable.not_not] at h)) | refine pay ?_ | intro _)); (all_goals (conv => whnf))
    all_goals first | (exfalso; omega) | skip
    rename_i b2
    refine VC_loop Nat (fun i => [(0,.v (.slice pa ps.length pc)),(2,.ptr 2 b2 0),(3,.v (.slice none 0 0)),(4,.v .nilIface),(17,.v (.slice pa ps.length pc)),(18,.v (.int .i64 ps.length)),(19,.v (.int .i64 i))])
      (fun _ => [.box 2 b2 [.int .i64 0,.slice none 0 0,.slice none 0 0,.slice none 0 0] ty_api_Machine])
      (fun i => i ≤ ps.length) (fun i => ps.length - i) 0 (Nat.zero_le _) (by (repeat ((conv => whnf); refine And.intro (by first | exact rfl | exact vint_eq (by omega) | exact vint_eq (by (dsimp only; omega)) | exact vsl_eq (by omega) | exact vsl_eq (by first | (dsimp only; omega) | (simp; done) | (simp; omega))) ?_)); exact trivial) (Ref.takes [2] rfl (Thin.refl _)) ?_
    rintro i hi
    by_cases hlt : i < ps.length
    · obtain ⟨r,hr⟩ : ∃ r,ps[i]? = some r := ⟨_,List.getElem?_eq_getElem hlt⟩
      have hmem : r ∈ ps := List.mem_of_getElem? hr
      have rdr := fun {L : List Ent} => h1.rd (L := L) (k := i) (v := r.v) (by rw [List.getElem?_map,hr]; rfl)
      have n1 : pa ≠ none := h1.ne' (k := i) (by rw [List.length_map]; exact hlt)
      have hrl := h3 r hmem
      have q0 : ((i : Nat) : Int).toNat = i := by omega
      by_cases hz : r.xs.length = 0
      · (repeat' ((conv => whnf); first | rw [q0] | refine ⟨_,_,_,rdr,?_⟩ | refine ⟨_,⟨rfl,trivial⟩,?_⟩ | (refine bcase_prop (fun h => ?_) (fun h => ?_) <;> try (exfalso; omega)) | (refine bcase_nprop (fun h => ?_) (fun h => ?_) <;> try (exfalso; omega)) | (refine bcase_intro (fun h => ?_) (fun h => ?_) <;> (try simp only [Bool.not_eq_true',Bool.not_eq_false',decide_eq_true_eq,decide_eq_false_iff_not,Bool.not_eq_true,Bool.not_eq_false,Decidable.not_not] at h)) | refine pay ?_ | intro _)); (all_goals (conv => whnf))
        all_goals first | (exfalso; omega) | skip
        exact ⟨⟨[],Ref.takes [] rfl (.nil _),.inl ⟨.inr (.inl (List.mem_map.2 ⟨r,hmem,List.length_eq_zero_iff.1 hz⟩)),rfl,4,rfl⟩⟩⟩
      · (repeat' ((conv => whnf); first | rw [q0] | refine ⟨_,_,_,rdr,?_⟩ | refine ⟨_,⟨rfl,trivial⟩,?_⟩ | (refine bcase_prop (fun h => ?_) (fun h => ?_) <;> try (exfalso; omega)) | (refine bcase_nprop (fun h => ?_) (fun h => ?_) <;> try (exfalso; omega)) | (refine bcase_intro (fun h => ?_) (fun h => ?_) <;> (try simp only [Bool.not_eq_true',Bool.not_eq_false',decide_eq_true_eq,decide_eq_false_iff_not,Bool.not_eq_true,Bool.not_eq_false,Decidable.not_not] at h)) | refine pay ?_ | intro _)); (all_goals (conv => whnf))
        all_goals first | (exfalso; omega) | skip
        exact loop_next (i + 1) hlt (by omega) (by (repeat ((conv => whnf); refine And.intro (by first | exact rfl | exact vint_eq (by omega) | exact vint_eq (by (dsimp only; omega)) | exact vsl_eq (by omega) | exact vsl_eq (by first | (dsimp only; omega) | (simp; done) | (simp; omega))) ?_)); exact trivial) (Ref.takes [2] rfl (Thin.refl _))
    · (repeat' ((conv => whnf); first | refine ⟨_,⟨rfl,trivial⟩,?_⟩ | (refine bcase_prop (fun h => ?_) (fun h => ?_) <;> try (exfalso; omega)) | (refine bcase_nprop (fun h => ?_) (fun h => ?_) <;> try (exfalso; omega)) | (refine bcase_intro (fun h => ?_) (fun h => ?_) <;> (try simp only [Bool.not_eq_true',Bool.not_eq_false',decide_eq_true_eq,decide_eq_false_iff_not,Bool.not_eq_true,Bool.not_eq_false,Decidable.not_not] at h)) | refine pay ?_ | intro _)); (all_goals (conv => whnf))
      all_goals first | (exfalso; omega) | skip
      rename_i mb b30 bt
      refine VC_loop OfG (fun x => [(0,.v (.slice pa ps.length pc)),(2,.ptr 2 b2 0),(3,.v (.slice none 0 0)),(4,.v .nilIface),(7,.ptr 3200 bt 0),(33,.v (.slice pa ps.length pc)),(34,.v (.int .i64 ps.length)),(35,.v (.int .i64 x.i))])
        (fun x => [.box 3200 bt (triC x.t mb x.a x.c) ty_literal_trie,.mapE 3201 mb (.agg [.int .i64,.int .u8]) (chm x.t.ch),.own 3202 x.a x.t.en.length x.c ty_int 1 (enL x.t.en),.box 2 b2 [.int .i64 0,.slice none 0 0,.slice none 0 0,.slice none 0 0] ty_api_Machine])
        (fun x => x.i ≤ ps.length ∧ TI x.t x.i ∧ addAll ((ps.map PA.xs).drop x.i) x.t = addAll (ps.map PA.xs) tri0) (fun x => ps.length - x.i) ⟨0,tri0,some ⟨b30,0,none⟩,1⟩ ⟨Nat.zero_le _,TI.start,rfl⟩ (by (repeat ((conv => whnf); refine And.intro (by first | exact rfl | exact vint_eq (by omega) | exact vint_eq (by (dsimp only; omega)) | exact vsl_eq (by omega) | exact vsl_eq (by first | (dsimp only; omega) | (simp; done) | (simp; omega))) ?_)); exact trivial)
        (Ref.takes [32,29,30,2] rfl (.keep rfl (fun _ h => h) (.keep rfl (fun _ h => h) (.keep rfl (fun _ h => h) (Thin.refl _))))) ?_
      rintro ⟨i,t,a,c⟩ ⟨hi,hT,he⟩
      dsimp only at hi hT he ⊢
      by_cases hlt : i < ps.length
      · obtain ⟨r,hr⟩ : ∃ r,ps[i]? = some r := ⟨_,List.getElem?_eq_getElem hlt⟩
        have hmem : r ∈ ps := List.mem_of_getElem? hr
        have rdr := fun {L : List Ent} => h1.rd (L := L) (k := i) (v := r.v) (by rw [List.getElem?_map,hr]; rfl)
        have n1 : pa ≠ none := h1.ne' (k := i) (by rw [List.length_map]; exact hlt)
        have hrl := h3 r hmem
        have q0 : ((i : Nat) : Int).toNat = i := by omega
        have hdr : (ps.map PA.xs).drop i = r.xs :: (ps.map PA.xs).drop (i + 1) := by
          have hx : (ps.map PA.xs)[i]? = some r.xs := by rw [List.getElem?_map,hr]; rfl
          obtain ⟨e1,e2⟩ := List.getElem?_eq_some_iff.1 hx
          rw [← e2]; exact (List.getElem_cons_drop e1).symm
        rw [hdr,addAll] at he
        have c1 := fun (fp : List Nat) (w' : World) hR hI => calls_tadd (mx := 4096) bt mb t (hT.mono (by omega)) (Nat.le_refl _) a c r.xs (h4 r hmem) hrl r.a r.c fp w' hR hI
        have hpat := h2 r hmem
        cases hp : addP t r.xs with
        | none =>
          rw [hp] at he c1
          (repeat' ((conv => whnf); first | rw [q0] | refine ⟨_,_,_,rdr,?_⟩ | (refine CallK_sub [3200,3201,3202] rfl (fun w' hR hR0 => c1 _ w' hR0 (hpat.castL hR)) ?_; rintro _ _ ⟨rfl,rfl⟩; refine ⟨.v _,rfl,?_⟩) | refine ⟨_,⟨rfl,trivial⟩,?_⟩ | (refine bcase_prop (fun h => ?_) (fun h => ?_) <;> try (exfalso; omega)) | (refine bcase_nprop (fun h => ?_) (fun h => ?_) <;> try (exfalso; omega)) | (refine bcase_intro (fun h => ?_) (fun h => ?_) <;> (try simp only [Bool.not_eq_true',Bool.not_eq_false',decide_eq_true_eq,decide_eq_false_iff_not,Bool.not_eq_true,Bool.not_eq_false,Decidable.not_not] at h)) | refine pay ?_ | intro _)); (all_goals (conv => whnf))
          all_goals first | (exfalso; omega) | skip
          exact ⟨⟨[],Ref.takes [] rfl (.nil _),.inl ⟨.inr (.inr he.symm),rfl,9,rfl⟩⟩⟩
        | some t' =>
          rw [hp] at he c1
          (repeat' ((conv => whnf); first | rw [q0] | refine ⟨_,_,_,rdr,?_⟩ | (refine CallK_sub [3200,3201,3202] rfl (fun w' hR hR0 => c1 _ w' hR0 (hpat.castL hR)) ?_; rintro _ _ ⟨a',c',rfl,rfl⟩; refine ⟨.v _,rfl,?_⟩) | refine ⟨_,⟨rfl,trivial⟩,?_⟩ | (refine bcase_prop (fun h => ?_) (fun h => ?_) <;> try (exfalso; omega)) | (refine bcase_nprop (fun h => ?_) (fun h => ?_) <;> try (exfalso; omega)) | (refine bcase_intro (fun h => ?_) (fun h => ?_) <;> (try simp only [Bool.not_eq_true',Bool.not_eq_false',decide_eq_true_eq,decide_eq_false_iff_not,Bool.not_eq_true,Bool.not_eq_false,Decidable.not_not] at h)) | refine pay ?_ | intro _)); (all_goals (conv => whnf))
          all_goals first | (exfalso; omega) | skip
          exact loop_next ⟨i + 1,t',_,_⟩ ⟨hlt,addP_ok hT hp,he⟩ (show ps.length - (i + 1) < ps.length - i by omega) (by (repeat ((conv => whnf); refine And.intro (by first | exact rfl | exact vint_eq (by omega) | exact vint_eq (by (dsimp only; omega)) | exact vsl_eq (by omega) | exact vsl_eq (by first | (dsimp only; omega) | (simp; done) | (simp; omega))) ?_)); exact trivial) (Ref.takes [3200,3201,3202,2] rfl (Thin.refl _))
      · obtain rfl : i = ps.length := by omega
        rw [List.drop_of_length_le (by rw [List.length_map]; exact Nat.le_refl _),addAll] at he
        have c2 := fun (fp : List Nat) (w' : World) hR => calls_tmach (mx := 4096) bt mb t (hT.mono hl) (Nat.le_refl _) a c fp w' hR
        (repeat' ((conv => whnf); first | (refine CallK_sub [3200,3201,3202] rfl (fun w' hR hR0 => c2 _ w' hR0) ?_; rintro _ _ ⟨y,F,aH,cH,rfl,hy,hF,rfl⟩; refine ⟨.v _,rfl,?_⟩) | refine ⟨_,⟨rfl,trivial⟩,?_⟩ | (refine bcase_prop (fun h => ?_) (fun h => ?_) <;> try (exfalso; omega)) | (refine bcase_nprop (fun h => ?_) (fun h => ?_) <;> try (exfalso; omega)) | (refine bcase_intro (fun h => ?_) (fun h => ?_) <;> (try simp only [Bool.not_eq_true',Bool.not_eq_false',decide_eq_true_eq,decide_eq_false_iff_not,Bool.not_eq_true,Bool.not_eq_false,Decidable.not_not] at h)) | refine pay ?_ | intro _)); (all_goals (conv => whnf))
        all_goals first | (exfalso; omega) | skip
        exact ⟨⟨_,Ref.takes [79,53] rfl (Thin.refl _),.inr ⟨t,y,F,aH,cH,he.symm,rfl,hy,hF,rfl⟩⟩⟩
end Go.Proofs.Ytjmlialibdobpaa
/- The fixed question ahead of the statement: the program. -/
namespace Go.Proofs.Ytjmlialibdobpaa
open Go.EG
attribute [local irreducible] CallK QCall Go.Calls
set_option linter.unusedSimpArgs false
set_option linter.unusedVariables false
set_option maxRecDepth 20000
set_option maxHeartbeats 4000000
def allD (S : Sto) (i : Int) : Prop := 1 ≤ i ∧ i ≤ S.E.length
theorem allD_clo {S : Sto} (hw : WF S) : Clo S (allD S) := by
  intro i h
  obtain ⟨ho,_⟩ := hw.at_ h.1 h.2
  unfold allD at *
  refine ⟨h.1,h.2,fun hk => ?_,fun hk => ?_⟩
  · rcases ho with ho | ho | ho <;> omega
  · rcases ho with ho | ho | ho <;> omega
theorem allD_known {S : Sto} {n : Int} : n = 0 ∨ ¬ known S n ∨ allD S n := by
  by_cases h : known S n
  · by_cases h0 : n = 0
    · exact .inl h0
    · have := h.1
      exact .inr (.inr ⟨by omega,h.2⟩)
  · exact .inr (.inl h)
theorem MFz.in_ {w0 w : World} {fp0 : List Nat} {L Lr : List Ent} {key : Nat} {F : List Frz} {x : MA} (hR : R w0 fp0 L w) (hm : pickE key L = some (frE key F,Lr)) (h : MFz F x) : McI w [] x := by
  have hm' := (pickE_perm hm).mem_iff.2 (List.mem_cons_self (a := frE key F) (l := Lr))
  exact ⟨FIn.in_ hR hm' h.cls,FIn.in_ hR hm' h.nx,FIn.in_ hR hm' h.acc,fun r hr => FIn.in_ hR hm' (h.row r hr)⟩
theorem powT {S : Sto} (h : WF S) {i k : Int} (h1 : 1 ≤ i) (h2 : i ≤ S.E.length) (hk : 1 ≤ k) (hl : (tm S.E i).len * k.toNat ≤ LM) (hroom : S.E.length < S.most) :
    ∃ S' x,stPower S i k = (S',x,0) ∧ WF S' ∧ Grow S S' ∧ 1 ≤ x ∧ known S' x ∧ (tm S'.E x).txt = rep k.toNat (tm S.E i).txt ∧ S'.E.length ≤ S.E.length + 1 := by
  unfold stPower
  rw [if_neg (by rintro (hh | hh); exact hh ⟨by omega,h2⟩; omega),if_neg (by omega)]
  by_cases h1' : k = 1
  · rw [if_pos h1']
    subst h1'
    exact ⟨S,i,rfl,h,Grow.refl S,h1,⟨by omega,h2⟩,(rep_one _).symm,Nat.le_succ _⟩
  · rw [if_neg h1',if_neg (by omega)]
    obtain ⟨s1,s2,s3,s4,s5⟩ := stPut_spec h (fit_pow h1 h2 (by omega) hl)
    have hz : (stPut S (powR i k)).2.2 = 0 := by
      cases hh : (stPut S (powR i k)).2.2 with
      | zero => rfl
      | succ n => have := (s4 (by rw [hh]; simp)).2.1; omega
    obtain ⟨t1,t2,t3,_⟩ := s3 hz
    refine ⟨(stPut S (powR i k)).1,(stPut S (powR i k)).2.1,?_,s1,s2,t1,t2,?_,s5⟩
    · rw [← hz]
    · rw [t3]; rfl
theorem tabE_lit {y : MA} {t : Tri} {mx : Nat} (hT : TI t mx) (hm : mx ≤ 4096) (hy : y.m = machT t) : tabE y (hitsT t) = 0 := by
  have hM := machT_ok hT
  have hF : Frm (machT t) ((machT t).nx.getD 0 []).length := by
    rw [(hM.row _ (memG hM.pos)).1]
    exact ⟨hM.cls,hM.pos,hM.acc,hM.start,hM.k1,hM.row,hM.letter⟩
  have h0 : chkM y.m = 0 := by rw [hy,chkM_ok hF,if_neg (by have := hM.most; omega)]
  obtain ⟨h1,h2⟩ := hitsT_ok hT hm
  refine tabE_ok h0 ⟨?_,h2⟩
  rw [h1,← hy]; exact List.length_map ..
def tAA : Tri := ⟨[((0,97),1),((1,97),2)],[0,0,1],(List.replicate 256 false).set 97 true⟩
theorem tAA_eq : addAll [[97,97]] tri0 = some tAA := rfl
theorem tAA_ok : TI tAA 1 := addAll_ok TI.start tAA_eq
theorem tAA_hit : runH (machT tAA) (hitsT tAA) 0 [97,97,97] = 2 := by decide +kernel
theorem litOk {t : Tri} {mx : Nat} (hT : TI t mx) (hm : mx ≤ 4096) {S : Sto} (hw : WF S) : ScOk ⟨machT t,hitsT t,false,allD S⟩ ((letsOf t.us).length + 1) S := by
  obtain ⟨h1,h2⟩ := hitsT_ok hT hm
  exact ⟨⟨machT_ok hT,h1,h2⟩,hw,allD_clo hw,fun n => allD_known⟩
theorem calls_greatly (w : World) (n c : Nat) (a : Option Addr) (k : Int) :
    Calls Try.prog fn_evergreentop_greatly #[.slice a n c,.int .i64 k] w fun e w' => e = .returned (.bool (decide (0 < n ∧ n ≤ 40 ∧ 1 ≤ k ∧ k ≤ 1125899906842624))) ∧ Ext w w' := by
  refine pure_call [.v (.slice a n c),.v (.int .i64 k)] w ok_evergreentop_greatly (by simp) ?_
  by_cases h1 : 0 < n ∧ n ≤ 40 ∧ 1 ≤ k ∧ k ≤ 1125899906842624
  · rw [decide_eq_true h1]
    obtain ⟨g1,g2,g3,g4⟩ := h1
    (repeat' ((conv => whnf); first | (refine bcase_prop (fun h => ?_) (fun h => ?_) <;> try (exfalso; omega)) | (refine bcase_nprop (fun h => ?_) (fun h => ?_) <;> try (exfalso; omega)) | (refine bcase_intro (fun h => ?_) (fun h => ?_) <;> (try simp only [Bool.not_eq_true',Bool.not_eq_false',decide_eq_true_eq,decide_eq_false_iff_not,Bool.not_eq_true,Bool.not_eq_false,Decidable.not_not] at h)) | refine pay ?_ | intro _)); (all_goals (conv => whnf))
    all_goals first | (exfalso; omega) | skip
    all_goals first | exact ⟨rfl⟩ | (refine ⟨?_⟩; show Value.bool (decide _) = Value.bool true; rw [decide_eq_true (by omega)])
  · rw [decide_eq_false h1]
    (repeat' ((conv => whnf); first | (refine bcase_prop (fun h => ?_) (fun h => ?_) <;> try (exfalso; omega)) | (refine bcase_nprop (fun h => ?_) (fun h => ?_) <;> try (exfalso; omega)) | (refine bcase_intro (fun h => ?_) (fun h => ?_) <;> (try simp only [Bool.not_eq_true',Bool.not_eq_false',decide_eq_true_eq,decide_eq_false_iff_not,Bool.not_eq_true,Bool.not_eq_false,Decidable.not_not] at h)) | refine pay ?_ | intro _)); (all_goals (conv => whnf))
    all_goals first | (exfalso; omega) | skip
    all_goals first | exact ⟨rfl⟩ | (refine ⟨?_⟩; show Value.bool (decide _) = Value.bool false; rw [decide_eq_false (by omega)])
theorem In.roBeside {w0 w : World} {fp0 : List Nat} {key1 key n c : Nat} {fp : List Nat} {α : Type} {fA : α → List Ent} {Lr : List Ent} {a : Option Addr} {xs : List Value} (hR : R w0 fp0 (packE key1 fp fA :: Lr) w) (hm : Ent.abs key (Value.slice a n c).ownBlock.toList (roOk a xs) ∈ Lr) : In w fp a xs := by
  have := In.besideRo (L0 := [packE key1 fp fA]) hR hm
  simpa [packE,Ent.fp,fps] using this
theorem cnt_finds (bt bs : Nat) {S : Sto} {x : Int} (hw : WF S) (hk : known S x) (htx : (tm S.E x).txt = [97,97,97]) : XC fn_locate_Count #[pS bt,.int .i64 x,.int .i64 0,.int .i64 3] bt bs ⟨machT tAA,hitsT tAA,false,allD S⟩ S (.tuple #[.int .i64 2,.nilIface]) := by
  have e : runH (machT tAA) (hitsT tAA) (runE (machT tAA) (st0 ⟨machT tAA,hitsT tAA,false,allD S⟩) ((tm S.E x).txt.take 0)) (((tm S.E x).txt.drop 0).take 3) = 2 := by rw [htx]; exact tAA_hit
  have h := calls_LCnt bt bs (litOk tAA_ok (by decide) hw) rfl hk (i := 0) (m := 3) (by unfold Tm.len; rw [htx]; decide) (by rw [e]; decide)
  rw [e] at h
  exact h
theorem calls_finds (w : World) : Calls Try.prog fn_evergreentop_finds #[] w fun e w' => e = .returned (.bool true) ∧ Ext w w' := by
  refine pure_call [] w ok_evergreentop_finds (by simp) ?_
  have c1 := fun w => calls_New 100 77 w
  rw [show clipS 100 = 100 from rfl] at c1
  have c2 := fun b key fp w hR a c hc hc2 hin => calls_BText b [97,97,97] (by decide) (by decide) (by decide) ⟨100,[]⟩ (WF.new 100 (by decide)) (by decide) a c hc hc2 key fp w hR hin
  have c3 : ∀ (a pa : Option Addr) (c pc : Nat) (w' : World),In w' [] pa [.slice a 2 c] → In w' [] a (byL [97,97]) →
      Calls Try.prog fn_literal_Of #[.slice pa 1 pc] w' fun e w'' => ∃ v L1,e = .returned v ∧ R w' [] L1 w'' ∧ (∃ y F aH cH,v = .tuple #[MA.v y,.slice aH (hitsT tAA).length cH,.nilIface] ∧ y.m = machT tAA ∧ MFz F y ∧ L1 = [frE 79 F,.own 53 aH (hitsT tAA).length cH ty_int 1 (ints .i64 (hitsT tAA))]) := fun a pa c pc w' i1 i2 =>
    (calls_litOf [⟨[97,97],a,c⟩] (by simp) pa pc w' ⟨i1,fun p hp => by rw [List.mem_singleton] at hp; subst hp; exact i2,fun p hp => by rw [List.mem_singleton] at hp; subst hp; show 2 ≤ 9223372036854775807; decide,fun p hp => by rw [List.mem_singleton] at hp; subst hp; show ∀ x ∈ [97,97],x < 256; decide⟩).mono fun e w'' ⟨v,L1,he,hR,hq⟩ => ⟨v,L1,he,hR,by
      rcases hq with ⟨hb,_⟩ | ⟨t,y,F,aH,cH,ht,hv,hy,hF,hL⟩
      · rcases hb with hb | hb | hb
        · cases hb
        · simp at hb
        · have hb : addAll [[97,97]] tri0 = none := hb
          rw [tAA_eq] at hb; cases hb
      · have ht : addAll [[97,97]] tri0 = some t := ht
        rw [tAA_eq] at ht; cases ht
        exact ⟨y,F,aH,cH,hv,hy,hF,hL⟩⟩
  have c4 := fun bs (S : Sto) (y : MA) (hy : y.m = machT tAA) (w' : World) hm ha hc hh => by
    have := calls_TabNew 78 bs (allD S) S.E (w := w') y hm (hitsT tAA) ha hc hh false (tabE_lit tAA_ok (by decide) hy)
    rw [hy] at this
    exact this
  (repeat' ((conv => whnf); first | (refine CallK_new (fun w hR => c1 w) ?_; rintro _ _ ⟨bn,fpn,rfl,rfl⟩; refine ⟨.v _,rfl,?_⟩) | (refine CallK_pack (key := 77) rfl (fun w hR h0 => c2 _ _ _ _ h0 _ _ (by decide) (by decide) (In.roBeside (key := 13) hR (.head _))) ?_; rintro _ _ ⟨S,x,fp',rfl,hw,hg,hx1,hk,htx,hlen,rfl⟩; refine ⟨.v _,rfl,?_⟩) | (refine CallK_new (fun w' hR => c3 _ _ _ _ w' (In.ownR (key := 21) hR rfl) (In.besideRo (L0 := []) (key := 19) hR (.tail _ (.head _)))) ?_; rintro _ _ ⟨y,F,aH,cH,rfl,hy,hF,rfl⟩; refine ⟨.v _,rfl,?_⟩) | ((refine CallK_new (fun w' hR => c4 _ S y hy w' (hF.in_ (key := 79) hR rfl) _ _ (In.ownR (key := 53) hR rfl)) ?_); rintro _ _ ⟨bt,fpt,rfl,rfl⟩; refine ⟨.v _,rfl,?_⟩) | (refine XC.go 78 77 (cnt_finds _ _ hw hk htx) rfl rfl fun fp1' fp2' => ?_) | refine ⟨_,⟨rfl,trivial⟩,?_⟩ | (refine bcase_prop (fun h => ?_) (fun h => ?_) <;> try (exfalso; omega)) | (refine bcase_nprop (fun h => ?_) (fun h => ?_) <;> try (exfalso; omega)) | (refine bcase_intro (fun h => ?_) (fun h => ?_) <;> (try simp only [Bool.not_eq_true',Bool.not_eq_false',decide_eq_true_eq,decide_eq_false_iff_not,Bool.not_eq_true,Bool.not_eq_false,Decidable.not_not] at h)) | refine pay ?_ | refine And.intro (by first | exact ⟨rfl,rfl,rfl,Nat.succ_pos _⟩) ?_ | intro _)); (all_goals (conv => whnf))
  all_goals first | (exfalso; omega) | exact ⟨rfl⟩ | skip
end Go.Proofs.Ytjmlialibdobpaa
/- What hit n is,in plain words. -/
namespace Go.Proofs.Ytjmlialibdobpaa
open Go.EG
set_option linter.unusedSimpArgs false
set_option linter.unusedVariables false
set_option linter.unusedSectionVars false
set_option maxRecDepth 20000
theorem runH_leX {M : Mch} {H : List Int} {X : Nat} (hh : ∀ h ∈ H,h ≤ (X : Int)) : ∀ (t : List Nat) (q : Nat),runH M H q t ≤ X * t.length
  | [],q => Nat.zero_le _
  | b :: t,q => by
    have h1 := runH_leX (M := M) hh t (stp M q b)
    have h2 : (H.getD (stp M q b) 0).toNat ≤ X := by
      by_cases hl : stp M q b < H.length
      · have := hh _ (memG (d := 0) hl); omega
      · rw [List.getD_eq_getElem?_getD,List.getElem?_eq_none (by omega)]; exact Nat.zero_le _
    rw [runH,List.length_cons,Nat.mul_succ]
    omega
theorem hitsT_le {t : Tri} {mx : Nat} (hT : TI t mx) : ∀ h ∈ hitsT t,h ≤ ((mx * 256 : Nat) : Int) := by
  intro h hh
  have hI := litT_ok hT
  have hc := nodup_ltM hI.nod hI.cap
  have hcap := hT.cap
  unfold hitsT at hh
  obtain ⟨x,hx,rfl⟩ := List.mem_map.1 hh
  obtain ⟨j,hj,rfl⟩ := List.getElem_of_mem hx
  have hj2 : j < (litT t).nd.length := by rw [hI.hil] at hj; exact hj
  have hb := hI.hib j hj2
  rw [List.getD_eq_getElem?_getD,List.getElem?_eq_getElem hj] at hb
  have hm : mx * (j + 1) ≤ mx * 256 := Nat.mul_le_mul_left _ (by omega)
  have hb' : (litT t).hi[j] ≤ mx * (j + 1) := hb
  show (((litT t).hi[j] : Nat) : Int) ≤ _
  exact Int.ofNat_le.2 (Nat.le_trans hb' hm)
theorem nth_next {M : Mch} {H : List Int} {q n : Nat} {t : List Nat} (h : n < runH M H q t) :
    fstH M H (runE M q (t.take (nthH M H n q t - 1))) (t.drop (nthH M H n q t - 1)) = 1 ∧ lstH M H q (t.take (nthH M H n q t)) = nthH M H n q t := by
  obtain ⟨h1,h2,h3⟩ := nthH_at h
  have hl := nthH_le (M := M) (H := H) n q t
  generalize nthH M H n q t = e at *
  obtain ⟨d,rfl⟩ : ∃ d,e = d + 1 := ⟨e - 1,by omega⟩
  rw [Nat.add_sub_cancel] at h2 ⊢
  have hd : t.drop d = t[d]'(by omega) :: t.drop (d + 1) := (List.getElem_cons_drop (by omega)).symm
  have ht : t.take (d + 1) = t.take d ++ [t[d]'(by omega)] := by
    rw [List.take_add_one,List.getElem?_eq_getElem (by omega)]; rfl
  generalize t[d]'(by omega) = b at *
  have hpos : 0 < hitN H (stp M (runE M q (t.take d)) b) := by
    rw [ht,runH_append] at h3
    have : runH M H (runE M q (t.take d)) [b] = hitN H (stp M (runE M q (t.take d)) b) := rfl
    omega
  refine ⟨?_,?_⟩
  · rw [hd,fstH]
    rw [if_pos hpos]
  · have hz : lstH M H (runE M q (t.take d)) [b] = 1 := by
      have : ¬ lstH M H (runE M q (t.take d)) [b] = 0 := fun h0 => by
        have := lstH_zero.1 h0
        have e : runH M H (runE M q (t.take d)) [b] = hitN H (stp M (runE M q (t.take d)) b) := rfl
        omega
      have hle := lstH_le (M := M) (H := H) (runE M q (t.take d)) [b]
      simp only [List.length_cons,List.length_nil] at hle
      omega
    rw [ht,lstH_append,hz,if_neg (by decide),List.length_take]
    omega
theorem wn_hitB {t : Tri} {mx : Nat} (hT : TI t mx) (hm : mx ≤ 4) {S : Sto} (hB : Top S 43980465111040) : HitB ⟨machT t,hitsT t,false,allD S⟩ S := by
  intro n q hk hq
  have h1 := runH_leX (M := machT t) (hitsT_le hT) (otx ⟨machT t,hitsT t,false,allD S⟩ S n) q
  rw [otx_len] at h1
  have h2 := hB n hk
  have h3 : mx * 256 * (tm S.E n).len ≤ 1024 * 43980465111040 := Nat.mul_le_mul (by omega) h2
  have h4 : 1024 * 43980465111040 ≤ LM := by decide
  exact Nat.le_trans h1 (Nat.le_trans h3 h4)
section
variable {t : Tri} {mx : Nat} (hT : TI t mx) (hm : mx ≤ 4) {S : Sto} (hw : WF S) (hB : Top S 43980465111040) {y : Int} (hy : 1 ≤ y) (hk : known S y) {tx : List Nat} (htx : (tm S.E y).txt = tx) (bt bs : Nat)
include hT hm hw hB hk htx
theorem wn_le : runH (machT t) (hitsT t) 0 tx ≤ LM := by
  have := wn_hitB hT hm hB y 0 hk (machT_ok hT).pos
  rw [otx_fwd (T := ⟨machT t,hitsT t,false,allD S⟩) (litOk hT (by omega) hw) rfl,htx] at this
  exact this
theorem wn_cnt {m : Nat} (h : m ≤ tx.length) : XC fn_locate_Count #[pS bt,.int .i64 y,.int .i64 0,.int .i64 m] bt bs ⟨machT t,hitsT t,false,allD S⟩ S (.tuple #[.int .i64 (runH (machT t) (hitsT t) 0 (tx.take m) : Nat),.nilIface]) := by
  have hle := wn_le hT hm hw hB hk htx
  have hsp := runH_append (machT t) (hitsT t) 0 (tx.take m) (tx.drop m)
  rw [List.take_append_drop] at hsp
  have e : runH (machT t) (hitsT t) (runE (machT t) (st0 ⟨machT t,hitsT t,false,allD S⟩) ((tm S.E y).txt.take 0)) (((tm S.E y).txt.drop 0).take m) = runH (machT t) (hitsT t) 0 (tx.take m) := by rw [htx]; rfl
  have := calls_LCnt bt bs (litOk hT (by omega) hw) rfl hk (i := 0) (m := m) (by unfold Tm.len; rw [htx]; omega) (by rw [e]; omega)
  rw [e] at this
  exact this
theorem wn_nth (hy : 1 ≤ y) (n : Int) : XC fn_locate_Nth #[pS bt,.int .i64 y,.int .i64 n] bt bs ⟨machT t,hitsT t,false,allD S⟩ S (if 0 ≤ n ∧ n ≤ LM then (if n.toNat < runH (machT t) (hitsT t) 0 tx then .tuple #[.int .i64 (nthH (machT t) (hitsT t) n.toNat 0 tx : Nat),.nilIface] else .tuple #[.int .i64 0,errV 5]) else .tuple #[.int .i64 0,errV 1]) := by
  have := calls_LNth bt bs (litOk hT (by omega) hw) rfl (wn_hitB hT hm hB) hy hk.2 n
  rw [htx] at this
  exact this
theorem wn_next {n : Nat} (h : n < runH (machT t) (hitsT t) 0 tx) : XC fn_locate_Next #[pS bt,.int .i64 y,.int .i64 ((nthH (machT t) (hitsT t) n 0 tx : Int) - 1)] bt bs ⟨machT t,hitsT t,false,allD S⟩ S (.tuple #[.int .i64 (nthH (machT t) (hitsT t) n 0 tx : Nat),.nilIface]) := by
  have h1 := (nth_next h).1
  have h2 := (nthH_at h).1
  have h3 := nthH_le (M := machT t) (H := hitsT t) n 0 tx
  have := calls_LNext bt bs (litOk hT (by omega) hw) rfl hk (i := nthH (machT t) (hitsT t) n 0 tx - 1) (by unfold Tm.len; rw [htx]; omega)
  rw [htx] at this
  have e : fstH (machT t) (hitsT t) (runE (machT t) (st0 ⟨machT t,hitsT t,false,allD S⟩) (tx.take (nthH (machT t) (hitsT t) n 0 tx - 1))) (tx.drop (nthH (machT t) (hitsT t) n 0 tx - 1)) = 1 := h1
  rw [e,if_neg (by decide)] at this
  rw [show ((nthH (machT t) (hitsT t) n 0 tx - 1 : Nat) : Int) = (nthH (machT t) (hitsT t) n 0 tx : Int) - 1 by omega] at this
  rw [show (nthH (machT t) (hitsT t) n 0 tx : Int) - 1 + ((1 : Nat) : Int) = (nthH (machT t) (hitsT t) n 0 tx : Int) by omega] at this
  exact this
theorem wn_prev {n : Nat} (h : n < runH (machT t) (hitsT t) 0 tx) : XC fn_locate_Prev #[pS bt,.int .i64 y,.int .i64 (nthH (machT t) (hitsT t) n 0 tx : Nat)] bt bs ⟨machT t,hitsT t,false,allD S⟩ S (.tuple #[.int .i64 (nthH (machT t) (hitsT t) n 0 tx : Nat),.nilIface]) := by
  have h1 := (nth_next h).2
  have h2 := (nthH_at h).1
  have h3 := nthH_le (M := machT t) (H := hitsT t) n 0 tx
  have := calls_LPrev bt bs (litOk hT (by omega) hw) rfl hk (i := nthH (machT t) (hitsT t) n 0 tx) (by unfold Tm.len; rw [htx]; omega)
  rw [htx] at this
  have e : lstH (machT t) (hitsT t) (st0 ⟨machT t,hitsT t,false,allD S⟩) (tx.take (nthH (machT t) (hitsT t) n 0 tx)) = nthH (machT t) (hitsT t) n 0 tx := h1
  rw [e,if_neg (by omega)] at this
  exact this
end
end Go.Proofs.Ytjmlialibdobpaa
/- Hit n up to great lengths: the program. -/
namespace Go.Proofs.Ytjmlialibdobpaa
open Go.EG
attribute [local irreducible] CallK QCall Go.Calls
set_option linter.unusedSimpArgs false
set_option linter.unusedVariables false
set_option maxRecDepth 20000
set_option maxHeartbeats 4000000
theorem law_WholeNth (w : World) (word : List Nat) (a : Option Addr) (c : Nat) (hin : In w [] a (byL word)) (hwb : ∀ x ∈ word,x < 256) (hc : word.length ≤ c) (hc2 : c ≤ 9223372036854775807) (k n : Int)
    (ps : List PA) (pa : Option Addr) (pc : Nat) (hps : PIn w [] ps pa) (hpn : ps.length ≤ 9223372036854775807) :
    Calls Try.prog fn_evergreentop_WholeNth #[.slice a word.length c,.agg #[.int .i64 k,.int .i64 n],.slice pa ps.length pc] w fun e w' => e = .returned (.bool true) ∧ Ext w w' := by
  refine pure_call [.v (.slice a word.length c),.v (.agg #[.int .i64 k,.int .i64 n]),.v (.slice pa ps.length pc)] w ok_evergreentop_WholeNth (by simp) ?_
  have c0 := calls_finds
  have c1 := fun w => calls_greatly w word.length c a k
  by_cases h1 : 0 < word.length ∧ word.length ≤ 40 ∧ 1 ≤ k ∧ k ≤ 1125899906842624
  case neg =>
    rw [decide_eq_false h1] at c1
    (repeat' ((conv => whnf); first | (first | refine puK c0 ?_ | refine quK c0 ?_) | (first | refine puK c1 ?_ | refine quK c1 ?_) | refine ⟨_,⟨rfl,trivial⟩,?_⟩ | (refine bcase_prop (fun h => ?_) (fun h => ?_) <;> try (exfalso; omega)) | (refine bcase_nprop (fun h => ?_) (fun h => ?_) <;> try (exfalso; omega)) | (refine bcase_intro (fun h => ?_) (fun h => ?_) <;> (try simp only [Bool.not_eq_true',Bool.not_eq_false',decide_eq_true_eq,decide_eq_false_iff_not,Bool.not_eq_true,Bool.not_eq_false,Decidable.not_not] at h)) | refine pay ?_ | intro _)); (all_goals (conv => whnf))
    all_goals first | (exfalso; omega) | exact ⟨rfl⟩ | skip
  rw [decide_eq_true h1] at c1
  by_cases h2 : k ≤ 1099511627776 ∧ ps.length ≤ 4
  case neg =>
    (repeat' ((conv => whnf); first | (first | refine puK c0 ?_ | refine quK c0 ?_) | (first | refine puK c1 ?_ | refine quK c1 ?_) | refine ⟨_,⟨rfl,trivial⟩,?_⟩ | (refine bcase_prop (fun h => ?_) (fun h => ?_) <;> try (exfalso; omega)) | (refine bcase_nprop (fun h => ?_) (fun h => ?_) <;> try (exfalso; omega)) | (refine bcase_intro (fun h => ?_) (fun h => ?_) <;> (try simp only [Bool.not_eq_true',Bool.not_eq_false',decide_eq_true_eq,decide_eq_false_iff_not,Bool.not_eq_true,Bool.not_eq_false,Decidable.not_not] at h)) | refine pay ?_ | intro _)); (all_goals (conv => whnf))
    all_goals first | (exfalso; omega) | exact ⟨rfl⟩ | skip
  obtain ⟨g1,g2,g3,g4⟩ := h1
  obtain ⟨g5,g6⟩ := h2
  have c2 := fun w' h => calls_litOf ps (by omega) pa pc w' h
  have hpc : ∀ {L : List Ent} {w' : World},R w [] L w' → PIn w' [] ps pa := fun {L w'} hR =>
    ⟨hps.row.cast hR (by simp),fun p hp => (hps.pat p hp).cast hR (by simp),hps.len,hps.byt⟩
  cases hadd : addAll (ps.map PA.xs) tri0 with
  | none =>
    have c2' : ∀ w',PIn w' [] ps pa → Calls Try.prog fn_literal_Of #[.slice pa ps.length pc] w' fun e w'' => ∃ v L1,e = .returned v ∧ R w' [] L1 w'' ∧ (∃ n,v = .tuple #[.agg #[.int .i64 0,.slice none 0 0,.slice none 0 0,.slice none 0 0],.slice none 0 0,errV n] ∧ L1 = []) := fun w' h =>
      (c2 w' h).mono fun e w'' ⟨v,L1,he,hR,hq⟩ => ⟨v,L1,he,hR,by
        rcases hq with ⟨_,hL,n,hv⟩ | ⟨t,y,F,aH,cH,ht,_⟩
        · exact ⟨n,hv,hL⟩
        · rw [hadd] at ht; cases ht⟩
    (repeat' ((conv => whnf); first | (first | refine puK c0 ?_ | refine quK c0 ?_) | (first | refine puK c1 ?_ | refine quK c1 ?_) | (refine CallK_new (fun w' hR => c2' w' (hpc hR)) ?_; rintro _ _ ⟨en,rfl,rfl⟩; refine ⟨.v _,rfl,?_⟩) | refine ⟨_,⟨rfl,trivial⟩,?_⟩ | (refine bcase_prop (fun h => ?_) (fun h => ?_) <;> try (exfalso; omega)) | (refine bcase_nprop (fun h => ?_) (fun h => ?_) <;> try (exfalso; omega)) | (refine bcase_intro (fun h => ?_) (fun h => ?_) <;> (try simp only [Bool.not_eq_true',Bool.not_eq_false',decide_eq_true_eq,decide_eq_false_iff_not,Bool.not_eq_true,Bool.not_eq_false,Decidable.not_not] at h)) | refine pay ?_ | intro _)); (all_goals (conv => whnf))
    all_goals first | (exfalso; omega) | exact ⟨rfl⟩ | skip
  | some t =>
    have hT : TI t ps.length := by
      have := addAll_ok TI.start hadd
      rwa [Nat.zero_add,List.length_map] at this
    have c2' : ∀ w',PIn w' [] ps pa → Calls Try.prog fn_literal_Of #[.slice pa ps.length pc] w' fun e w'' => ∃ v L1,e = .returned v ∧ R w' [] L1 w'' ∧ ((∃ n,v = .tuple #[.agg #[.int .i64 0,.slice none 0 0,.slice none 0 0,.slice none 0 0],.slice none 0 0,errV n] ∧ L1 = []) ∨ (∃ y F aH cH,v = .tuple #[MA.v y,.slice aH (hitsT t).length cH,.nilIface] ∧ y.m = machT t ∧ MFz F y ∧ L1 = [frE 79 F,.own 53 aH (hitsT t).length cH ty_int 1 (ints .i64 (hitsT t))])) := fun w' h =>
      (c2 w' h).mono fun e w'' ⟨v,L1,he,hR,hq⟩ => ⟨v,L1,he,hR,by
        rcases hq with ⟨_,hL,n,hv⟩ | ⟨t',y,F,aH,cH,ht,hq⟩
        · exact .inl ⟨n,hv,hL⟩
        · rw [hadd] at ht; cases ht
          exact .inr ⟨y,F,aH,cH,hq⟩⟩
    have c3 := fun w => calls_New 1048576 77 w
    rw [show clipS 1048576 = 1048576 from rfl] at c3
    have c4 := fun b key fp w' hR h => calls_BText b word g1 (by omega) hwb ⟨1048576,[]⟩ (WF.new 1048576 (by decide)) (by show 0 + 2 * word.length ≤ 1048576; omega) a c hc hc2 key fp w' hR h
    obtain ⟨kn,rfl⟩ : ∃ kn : Nat,k = kn := ⟨k.toNat,by omega⟩
    have htop : ∀ {S : Sto},(∀ B,Top ⟨1048576,[]⟩ B → word.length ≤ B → Top S B) → Top S 40 := fun {S} h => h 40 (fun n hn => by
      have e : n = 0 := by have h1 := hn.1; have h2 := hn.2; simp at h2; omega
      subst e; exact Nat.zero_le _) g2
    clear c2
    (repeat' ((conv => whnf); first | (first | refine puK c0 ?_ | refine quK c0 ?_) | (first | refine puK c1 ?_ | refine quK c1 ?_) | (refine CallK_new (fun w' hR => c2' w' (hpc hR)) ?_; rintro _ _ (⟨en,rfl,rfl⟩ | ⟨y,F,aH,cH,rfl,hy,hF,rfl⟩) <;> refine ⟨.v _,rfl,?_⟩) | refine ⟨_,⟨rfl,trivial⟩,?_⟩ | (refine bcase_prop (fun h => ?_) (fun h => ?_) <;> try (exfalso; omega)) | (refine bcase_nprop (fun h => ?_) (fun h => ?_) <;> try (exfalso; omega)) | (refine bcase_intro (fun h => ?_) (fun h => ?_) <;> (try simp only [Bool.not_eq_true',Bool.not_eq_false',decide_eq_true_eq,decide_eq_false_iff_not,Bool.not_eq_true,Bool.not_eq_false,Decidable.not_not] at h)) | refine pay ?_ | intro _)); (all_goals (conv => whnf))
    all_goals first | (exfalso; omega) | exact ⟨rfl⟩ | skip
    (repeat' ((conv => whnf); first | (refine CallK_new (fun w hR => c3 w) ?_; rintro _ _ ⟨bn,fpn,rfl,rfl⟩; refine ⟨.v _,rfl,?_⟩) | (refine CallK_pack (key := 77) rfl (fun w' hR' h0 => c4 _ _ _ w' h0 (hin.cast hR' (fun b hb => List.mem_append_left _ hb))) ?_; rintro _ _ ⟨S,x,f1,rfl,hw,hg,hx1,hk,htx,⟨hlen,hB⟩,rfl⟩; refine ⟨.v _,rfl,?_⟩) | refine ⟨_,⟨rfl,trivial⟩,?_⟩ | (refine bcase_prop (fun h => ?_) (fun h => ?_) <;> try (exfalso; omega)) | (refine bcase_nprop (fun h => ?_) (fun h => ?_) <;> try (exfalso; omega)) | (refine bcase_intro (fun h => ?_) (fun h => ?_) <;> (try simp only [Bool.not_eq_true',Bool.not_eq_false',decide_eq_true_eq,decide_eq_false_iff_not,Bool.not_eq_true,Bool.not_eq_false,Decidable.not_not] at h)) | refine pay ?_ | intro _)); (all_goals (conv => whnf))
    all_goals first | (exfalso; omega) | exact ⟨rfl⟩ | skip
    have hB := htop hB
    have hLM : LM = 1152921504606846976 := rfl
    obtain ⟨sz,hsz⟩ : ∃ sz,kn * word.length = sz := ⟨_,rfl⟩
    have hkn : (kn : Int).toNat = kn := Int.toNat_natCast kn
    have hsz1 : sz ≤ 1099511627776 * 40 := by rw [← hsz]; exact Nat.mul_le_mul (by omega) g2
    have hxl : (tm S.E x).len = word.length := by unfold Tm.len; rw [htx]
    have hmost : S.most = 1048576 := hg.most
    have hlen' : S.E.length + 1 ≤ 0 + 2 * word.length := hlen
    have hpl : (tm S.E x).len * (kn : Int).toNat = sz := by rw [hxl,hkn,Nat.mul_comm]; exact hsz
    obtain ⟨S2,y2,e1,hw2,hg2,hy1,hk2,htx2,hl2⟩ := powT hw hx1 hk.2 (k := (kn : Int)) g3 (by rw [hpl]; omega) (by omega)
    rw [hkn,htx] at htx2
    have hB2 : Top S2 43980465111040 := by
      rw [show S2 = (stPower S x (kn : Int)).1 by rw [e1]]
      exact pow_top (fun n hn => Nat.le_trans (hB n hn) (by decide)) (by rw [hpl]; omega)
    have hty : (rep kn word).length = sz := by rw [len_rep]; exact hsz
    have cP := calls_Power bn S hw x (kn : Int) (by omega)
    rw [e1] at cP
    have hmul : (kn : Int) * (word.length : Int) = (sz : Int) := by rw [← hsz]; exact (Int.natCast_mul _ _).symm
    obtain ⟨tx,htxx⟩ : ∃ tx,rep kn word = tx := ⟨_,rfl⟩
    rw [htxx] at htx2 hty
    have c5 := fun bs (w' : World) hm ha hc hh => by
      have := calls_TabNew 78 bs (allD S2) S2.E (w := w') y hm (hitsT t) ha hc hh false (tabE_lit hT (by omega) hy)
      rw [hy] at this
      exact this
    have d1 := fun bt bs => wn_cnt hT g6 hw2 hB2 hk2 htx2 bt bs (m := sz) (by omega)
    have d2 := fun bt bs => wn_nth hT g6 hw2 hB2 hk2 htx2 bt bs hy1 n
    have d0 := wn_le hT g6 hw2 hB2 hk2 htx2
    rw [List.take_of_length_le (by omega)] at d1
    clear c2' c3 c4 htop
    by_cases hn : 0 ≤ n ∧ n.toNat < runH (machT t) (hitsT t) 0 tx
    case neg =>
      obtain ⟨en,d2⟩ : ∃ en,∀ bt bs,XC fn_locate_Nth #[pS bt,.int .i64 y2,.int .i64 n] bt bs ⟨machT t,hitsT t,false,allD S2⟩ S2 (.tuple #[.int .i64 0,errV en]) := by
        by_cases hr : 0 ≤ n ∧ n ≤ (LM : Int)
        · rw [if_pos hr,if_neg (fun h => hn ⟨hr.1,h⟩)] at d2
          exact ⟨5,d2⟩
        · rw [if_neg hr] at d2
          exact ⟨1,d2⟩
      (repeat' ((conv => whnf); first | refine SC.go 77 cP rfl fun fp' => ?_ | ((refine CallK_new (fun w' hR => c5 _ w' (hF.in_ (key := 79) hR rfl) _ _ (In.ownR (key := 53) hR rfl)) ?_); rintro _ _ ⟨bt,fpt,rfl,rfl⟩; refine ⟨.v _,rfl,?_⟩) | rw [hmul] | (refine XC.go 78 77 (d1 _ _) rfl rfl fun fp1' fp2' => ?_) | (refine XC.go 78 77 (d2 _ _) rfl rfl fun fp1' fp2' => ?_) | refine ⟨_,⟨rfl,trivial⟩,?_⟩ | (refine bcase_prop (fun h => ?_) (fun h => ?_) <;> try (exfalso; omega)) | (refine bcase_nprop (fun h => ?_) (fun h => ?_) <;> try (exfalso; omega)) | (refine bcase_intro (fun h => ?_) (fun h => ?_) <;> (try simp only [Bool.not_eq_true',Bool.not_eq_false',decide_eq_true_eq,decide_eq_false_iff_not,Bool.not_eq_true,Bool.not_eq_false,Decidable.not_not] at h)) | refine pay ?_ | intro _)); (all_goals (conv => whnf))
      all_goals first | (exfalso; omega) | exact ⟨rfl⟩ | skip
    obtain ⟨nn,rfl⟩ : ∃ nn : Nat,n = nn := ⟨n.toNat,by omega⟩
    obtain ⟨_,hn⟩ := hn
    rw [Int.toNat_natCast] at hn
    rw [if_pos ⟨by omega,by omega⟩,Int.toNat_natCast] at d2
    simp only [if_pos hn] at d2
    obtain ⟨z1,z2,z3⟩ := nthH_at hn
    have z4 := nthH_le (M := machT t) (H := hitsT t) nn 0 tx
    have d5 := fun bt bs => wn_next hT g6 hw2 hB2 hk2 htx2 bt bs hn
    have d6 := fun bt bs => wn_prev hT g6 hw2 hB2 hk2 htx2 bt bs hn
    generalize nthH (machT t) (hitsT t) nn 0 tx = e at *
    have d3 := fun bt bs => wn_cnt hT g6 hw2 hB2 hk2 htx2 bt bs (m := e) z4
    have d4 := fun bt bs => wn_cnt hT g6 hw2 hB2 hk2 htx2 bt bs (m := e - 1) (by omega)
    rw [show ((e - 1 : Nat) : Int) = (e : Int) - 1 by omega] at d4
    generalize runH (machT t) (hitsT t) 0 (tx.take e) = r1 at *
    generalize runH (machT t) (hitsT t) 0 (tx.take (e - 1)) = r2 at *
    generalize runH (machT t) (hitsT t) 0 tx = r3 at *
    (repeat' ((conv => whnf); first | refine SC.go 77 cP rfl fun fp' => ?_ | ((refine CallK_new (fun w' hR => c5 _ w' (hF.in_ (key := 79) hR rfl) _ _ (In.ownR (key := 53) hR rfl)) ?_); rintro _ _ ⟨bt,fpt,rfl,rfl⟩; refine ⟨.v _,rfl,?_⟩) | rw [hmul] | (refine XC.go 78 77 (d1 _ _) rfl rfl fun fp1' fp2' => ?_) | (refine XC.go 78 77 (d2 _ _) rfl rfl fun fp1' fp2' => ?_) | (refine XC.go 78 77 (d3 _ _) rfl rfl fun fp1' fp2' => ?_) | (refine XC.go 78 77 (d4 _ _) rfl rfl fun fp1' fp2' => ?_) | (refine XC.go 78 77 (d5 _ _) rfl rfl fun fp1' fp2' => ?_) | (refine XC.go 78 77 (d6 _ _) rfl rfl fun fp1' fp2' => ?_) | refine ⟨_,⟨rfl,trivial⟩,?_⟩ | (refine bcase_prop (fun h => ?_) (fun h => ?_) <;> try (exfalso; omega)) | (refine bcase_nprop (fun h => ?_) (fun h => ?_) <;> try (exfalso; omega)) | (refine bcase_intro (fun h => ?_) (fun h => ?_) <;> (try simp only [Bool.not_eq_true',Bool.not_eq_false',decide_eq_true_eq,decide_eq_false_iff_not,Bool.not_eq_true,Bool.not_eq_false,Decidable.not_not] at h)) | refine pay ?_ | intro _)); (all_goals (conv => whnf))
    all_goals first | (exfalso; omega) | exact ⟨rfl⟩ | (refine ⟨?_⟩; show Value.bool (decide _) = Value.bool true; rw [decide_eq_true rfl])
end Go.Proofs.Ytjmlialibdobpaa
/- Words,pairs of numbers and patterns that came in: what the given statements say of them. No condition. -/
namespace Go.Proofs.Ytjmlialibdobpaa
open Go.ChangeShapes Go.WideShapes Go.ChangeAt Go.RowKit Go.EG
set_option linter.unusedVariables false
theorem list_of {α : Type} (Q : Nat → α → Prop) : ∀ len : Nat,(∀ i,i < len → ∃ x,Q i x) → ∃ l : List α,l.length = len ∧ ∀ i x,l[i]? = some x → Q i x
  | 0,_ => ⟨[],rfl,fun i x h => by simp at h⟩
  | n + 1,h => by
    obtain ⟨l,hl,hq⟩ := list_of Q n fun i hi => h i (by omega)
    obtain ⟨x,hx⟩ := h n (by omega)
    refine ⟨l ++ [x],by simp [hl],fun i y hy => ?_⟩
    rw [List.getElem?_append] at hy
    split at hy
    · exact hq i y hy
    · rename_i hn
      have hi := (List.getElem?_eq_some_iff.1 hy).1
      simp at hi
      have : i = n := by omega
      subst this
      rw [hl,Nat.sub_self] at hy
      simp at hy
      rw [← hy]; exact hx
section
variable {H : Type} {enc : TypeId × Value → H} {w : World} {base : Nat} {spare : Nat → Bool} {held : Bool}
theorem in_cells {a : Addr} {xs : List Value} (h : ∀ i v,xs[i]? = some v → w.cell? (a.add i) = some v) : In w [] (some a) xs := by
  by_cases hx : xs = []
  · exact .inl hx
  obtain ⟨b,off,spot⟩ := a
  obtain ⟨v0,hv0⟩ : ∃ v,xs[0]? = some v := ⟨_,List.getElem?_eq_getElem (List.length_pos_iff.2 hx)⟩
  have hc0 := h 0 v0 hv0
  have hspot : spot = none := by simpa [Addr.add] using World.cell?_spot hc0
  subst hspot
  refine .inr ⟨b,off,rfl,?_,by simp,fun j v hv => ?_⟩
  · have : w.cell? ⟨b,off,none⟩ = some v0 := by simpa [Addr.add] using hc0
    unfold World.cell? at this
    rcases Nat.lt_or_ge b w.heap.size with h | h
    · exact h
    · rw [Array.getElem?_eq_none h] at this
      simp at this
  · have h1 := h j v hv
    rw [← h1]
    congr 1
    simp only [Addr.add]
    split
    · rename_i h; subst h; rfl
    · rfl
theorem open_bytesIn {P : Program} {t e : TypeId} {fuel : Nat} {cs : List Value} {x : DataW H × List MemPlace} (ht : P.underlying t = some (.slice e)) (he : P.underlying e = some (.int .u8)) (hc : P.cellsOf e = 1) (h : DataW.trod enc P w base spare held fuel t cs = some x) :
    ∃ a cap xs,cs = [.slice a (xs : List Nat).length cap] ∧ In w [] a (byL xs) ∧ xs.length ≤ cap ∧ cap ≤ 9223372036854775807 ∧ ∀ z ∈ xs,z < 256 := by
  rcases open_ints ht he hc h with ⟨hcs,_⟩ | ⟨a,len,cap,zs,hcs,_,hl,hm,hz,hd,hcell,hwz⟩
  · exact ⟨none,0,[],hcs,.inl rfl,Nat.le_refl _,by decide,fun z h => by cases h⟩
  · have hle : len ≤ zs.length := by rw [hz]; split <;> omega
    have hw : ∀ z ∈ zs,0 ≤ z ∧ z < 256 := fun z hz => by have := wf_u8 (hwz z hz); omega
    have hlen : ((zs.take len).map Int.toNat).length = len := by rw [List.length_map,List.length_take]; omega
    have hback : ((zs.take len).map Int.toNat).map Int.ofNat = zs.take len := by
      rw [List.map_map]
      conv => rhs; rw [← List.map_id (zs.take len)]
      refine List.map_congr_left fun z hz => ?_
      have := (hw z (List.mem_of_mem_take hz)).1
      show ((z.toNat : Nat) : Int) = z
      omega
    refine ⟨some a,cap,(zs.take len).map Int.toNat,by rw [hlen]; exact hcs,?_,by omega,by unfold maxLen at hm; omega,fun z hz => ?_⟩
    · unfold byL
      rw [hback]
      refine in_cells fun i v hv => ?_
      have hi : i < (zs.take len).length := by
        have := (List.getElem?_eq_some_iff.1 hv).1
        rwa [ints_length] at this
      rw [ints_getD hi] at hv
      cases hv
      rw [List.length_take] at hi
      rw [hcell i (by omega),List.getD_eq_getElem?_getD,List.getD_eq_getElem?_getD,List.getElem?_take,if_pos (by omega)]
    · obtain ⟨y,hy,rfl⟩ := List.mem_map.1 hz
      have := hw y (List.mem_of_mem_take hy)
      omega
theorem open_pats {P : Program} {t e e' : TypeId} {fuel : Nat} {cs : List Value} {x : DataW H × List MemPlace} (ht : P.underlying t = some (.slice e)) (he : P.underlying e = some (.slice e')) (he' : P.underlying e' = some (.int .u8)) (hc : P.cellsOf e = 1) (hc' : P.cellsOf e' = 1) (h : DataW.trod enc P w base spare held fuel t cs = some x) :
    ∃ a cap ps,cs = [.slice a (ps : List PA).length cap] ∧ PIn w [] ps a ∧ ps.length ≤ 9223372036854775807 := by
  rcases DataW.trod_slice ht h with ⟨hcs,_⟩ | ⟨a,len,cap,elems,rest,n,_,rfl,rfl,hb,hl,hm,hlen,hel,hsp,hns⟩
  · exact ⟨none,0,[],hcs,⟨.inl rfl,(fun r hr => by cases hr),(fun r hr => by cases hr),(fun r hr => by cases hr)⟩,Nat.zero_le _⟩
  · obtain ⟨l,hl2,hq⟩ := list_of (fun i (r : PA) => w.cell? (a.add i) = some r.v ∧ In w [] r.a (byL r.xs) ∧ r.xs.length ≤ 9223372036854775807 ∧ ∀ z ∈ r.xs,z < 256) len fun i hi => by
      have h1 := hel i hi
      rw [hc,Nat.mul_one,List.getElem?_eq_getElem (by omega)] at h1
      obtain ⟨cs',hcs,hy⟩ := Option.bind_eq_some_iff.1 h1
      obtain ⟨a',cap',xs,rfl,h2,h3,h4,h5⟩ := open_bytesIn he he' hc' hy
      exact ⟨⟨xs,a',cap'⟩,cell_of_cells?_one hcs,h2,Nat.le_trans h3 h4,h5⟩
    have hm' : ∀ r ∈ l,In w [] r.a (byL r.xs) ∧ r.xs.length ≤ 9223372036854775807 ∧ ∀ z ∈ r.xs,z < 256 := fun r hr => by
      obtain ⟨i,hi⟩ := List.getElem?_of_mem hr
      exact (hq i r hi).2
    refine ⟨some a,cap,l,by rw [hl2],⟨in_cells fun i v hv => ?_,fun r hr => (hm' r hr).1,fun r hr => (hm' r hr).2.1,fun r hr => (hm' r hr).2.2⟩,by unfold maxLen at hm; omega⟩
    rw [List.getElem?_map] at hv
    cases hb : l[i]? with
    | none => rw [hb] at hv; cases hv
    | some b => rw [hb] at hv; cases hv; exact (hq i b hb).1
theorem open_two {P : Program} {t e : TypeId} {r : Reach} {b0 : Nat} {v : Value} {d : DataW H} {ps : List MemPlace} (ht : P.underlying t = some (.array 2 e)) (he : P.underlying e = some (.int .i64)) (hc : P.cellsOf e = 1) (hc2 : P.cellsOf t = 2) (hval : Value.okWide P w r b0 t v) (hd : DataW.Trod enc P w base spare held t v d ps) :
    ∃ k n : Int,v = .agg #[.int .i64 k,.int .i64 n] := by
  unfold Value.okWide at hval
  rw [ht] at hval
  obtain ⟨cs,rfl,hsz,_⟩ := hval
  obtain ⟨fuel,hf⟩ := hd
  rw [show (Value.agg cs).cells.toList = cs.toList from rfl] at hf
  obtain ⟨xs,m,_,_,hl,hlen,hfi⟩ := DataW.trod_array ht hf
  rw [hc2] at hl
  have f0 := hfi 0 (by decide)
  have f1 := hfi 1 (by decide)
  rw [hc,List.getElem?_eq_getElem (by omega)] at f0 f1
  obtain ⟨k,e0,_,_⟩ := DataW.trod_int he f0
  obtain ⟨n,e1,_,_⟩ := DataW.trod_int he f1
  obtain ⟨l⟩ := cs
  match l,hl with
  | [x0,x1],_ =>
    simp at e0 e1
    exact ⟨k,n,by rw [e0,e1]⟩
end
end Go.Proofs.Ytjmlialibdobpaa
