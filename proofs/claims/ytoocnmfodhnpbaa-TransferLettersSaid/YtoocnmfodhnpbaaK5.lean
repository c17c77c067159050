/- A rule is added to the reference's list. -/
import Derived.Test.YtoocnmfodhnpbaaK4
import Derived.Test.YtoocnmfodhnpbaaK2
import Derived.Sort.OwnSortedInts
namespace Go.Proofs.Ytoocnmfodhnpbaa
open Go.EG
attribute [local irreducible] CallK QCall Go.Calls
set_option linter.unusedSimpArgs false
set_option linter.unusedVariables false
set_option maxRecDepth 20000
set_option maxHeartbeats 4000000
theorem rul_ext {r r' : Rul} (h : r ≠ r') : ¬ (r.k = r'.k ∧ r.l = r'.l ∧ r.a = r'.a ∧ r.b = r'.b ∧ r.t = r'.t) := fun ⟨h1,h2,h3,h4,h5⟩ => h (by cases r; cases r'; simp_all)
theorem calls_rAdd {a1 a2 : Option Addr} {c1 c2 : Nat} (E : List Entr) (hE : E.length ≤ 1048576) (r : Rul) (n : Nat) (hn : (mkT E r).len = n) (w : World) (h1 : In w [] a1 (ruE E)) (h2 : In w [] a2 (leE E)) :
    Calls Try.prog fn_evergreenref12_Add #[stV E.length a1 c1 a2 c2,ruV r,.int .i64 n] w fun e w' => ∃ v L1,e = .returned v ∧ R w [] L1 w' ∧ oneQ E (putF E r).1 (putF E r).2 a1 c1 a2 c2 v L1 := by
  refine new_call [.v (stV E.length a1 c1 a2 c2),.v (ruV r),.v (.int .i64 n)] ok_evergreenref12_Add (by simp) ?_
  have rs := fun {L : List Ent} => h1.rds (L := L) (n := E.length * 5) (by rw [ruE_length])
  have rl := fun {L : List Ent} => h2.rds (L := L) (n := E.length * 1) (by rw [leE_length,Nat.mul_one])
  have o1 := oneAll_ru E
  have o2 : oneAll (leE E) := oneAll_ints' .i64 (lensI (E.map (·.m)))
  have s1 := ruE_snoc E (mkE E r)
  have s2 := leE_snoc E (mkE E r)
  rw [show (mkE E r).r = r from rfl] at s1
  rw [show (mkE E r).m = mkT E r from rfl,hn] at s2
  have hlen : (E ++ [mkE E r]).length = E.length + 1 := by simp
  have hne : ∀ i,i < E.length → a1 ≠ none := fun i hi => h1.ne' (k := i * 5) (by rw [ruE_length]; omega)
  have hrd := fun {L : List Ent} (i : Nat) (hi : i < E.length) => In.rdn (L := L) (vs := ruC (E.getD i ent0).r) (k := i * 5) h1 (Nat.succ_pos _) (ruE_at hi)
  (repeat' ((conv => whnf); first | (refine bcase_prop (fun h => ?_) (fun h => ?_) <;> try (exfalso; omega)) | (refine bcase_nprop (fun h => ?_) (fun h => ?_) <;> try (exfalso; omega)) | (refine bcase_intro (fun h => ?_) (fun h => ?_) <;> (try simp only [Bool.not_eq_true',Bool.not_eq_false',decide_eq_true_eq,decide_eq_false_iff_not,Bool.not_eq_true,Bool.not_eq_false,Decidable.not_not] at h)) | refine pay ?_ | intro _)); (all_goals (conv => whnf))
  rename_i b3 b4 b6
  refine VC_loop Nat (fun i => [(2,.v (.int .i64 n)),(3,.ptr 3 b3 0),(4,.ptr 4 b4 0),(6,.ptr 6 b6 0),(7,.v (.int .i64 0)),(8,.v (.int .i64 i))]) (fun _ => [.box 6 b6 [.slice none 0 0,.slice none 0 0] ty_evergreenref12_Store,.box 4 b4 (ruC r) ty_api_Rule,.box 3 b3 [.slice a1 E.length c1,.slice a2 E.length c2] ty_evergreenref12_Store])
    (fun i => i ≤ E.length ∧ idOf r E = idx r i (E.drop i)) (fun i => E.length - i) 0 ⟨Nat.zero_le _,rfl⟩ (by (repeat ((conv => whnf); refine And.intro (by first | exact rfl | exact vint_eq (by omega) | exact vint_eq (by (dsimp only; omega)) | exact vsl_eq (by omega) | exact vsl_eq (by first | (dsimp only; omega) | (simp; done) | (simp; omega))) ?_)); exact trivial) (.refl _) ?_
  rintro i ⟨hi,hid⟩
  by_cases hlt : i < E.length
  · rw [drop_cons (d := ent0) hlt] at hid
    have hr := fun {L : List Ent} => hrd (L := L) i hlt
    have hn0 := hne i hlt
    by_cases hx : (E.getD i ent0).r = r
    · have hid : idOf r E = i + 1 := hid.trans (if_pos hx.symm)
      rw [hx] at hr
      have hp : putF E r = (E,((idOf r E : Nat) : Int)) := if_neg (by omega)
      rw [hp]
      (repeat' ((conv => whnf); first | rw [Int.toNat_natCast] | refine ⟨ruC r,rfl,hr,?_⟩ | refine ⟨.v _,⟨rfl,trivial⟩,?_⟩ | (refine bcase_prop (fun h => ?_) (fun h => ?_) <;> try (exfalso; omega)) | (refine bcase_nprop (fun h => ?_) (fun h => ?_) <;> try (exfalso; omega)) | (refine bcase_intro (fun h => ?_) (fun h => ?_) <;> (try simp only [Bool.not_eq_true',Bool.not_eq_false',decide_eq_true_eq,decide_eq_false_iff_not,Bool.not_eq_true,Bool.not_eq_false,Decidable.not_not] at h)) | refine pay ?_ | intro _)); (all_goals (conv => whnf))
      refine ⟨endOld rfl ?_⟩
      rw [hid]; rfl
    · have hid : idOf r E = idx r (i + 1) (E.drop (i + 1)) := hid.trans (if_neg (fun h => hx h.symm))
      have hx' := rul_ext hx
      generalize (E.getD i ent0).r = q at *
      (repeat' ((conv => whnf); first | rw [Int.toNat_natCast] | refine ⟨ruC q,rfl,hr,?_⟩ | refine ⟨.v _,⟨rfl,trivial⟩,?_⟩ | (refine bcase_prop (fun h => ?_) (fun h => ?_) <;> try (exfalso; omega)) | (refine bcase_nprop (fun h => ?_) (fun h => ?_) <;> try (exfalso; omega)) | (refine bcase_intro (fun h => ?_) (fun h => ?_) <;> (try simp only [Bool.not_eq_true',Bool.not_eq_false',decide_eq_true_eq,decide_eq_false_iff_not,Bool.not_eq_true,Bool.not_eq_false,Decidable.not_not] at h)) | refine pay ?_ | intro _)); (all_goals (conv => whnf))
      all_goals (refine loop_next (i + 1) ⟨hlt,hid⟩ (by ((try dsimp only); omega)) (by (repeat ((conv => whnf); refine And.intro (by first | exact rfl | exact vint_eq (by omega) | exact vint_eq (by (dsimp only; omega)) | exact vsl_eq (by omega) | exact vsl_eq (by first | (dsimp only; omega) | (simp; done) | (simp; omega))) ?_)); exact trivial) (Thin.ref (by (repeat (first | exact Thin.nil _ | exact Thin.refl _ | refine Thin.keep rfl (fun _ h => h) ?_ | refine Thin.skip ?_)))))
  · rw [show E.drop i = [] from List.drop_eq_nil_of_le (by omega)] at hid
    have hid : idOf r E = 0 := hid
    have hp : putF E r = (E ++ [mkE E r],((E.length + 1 : Nat) : Int)) := if_pos hid
    rw [hp]
    clear hne hrd hid hp
    have lx : (ruE E).length = E.length * 5 := ruE_length E
    generalize ruE E = xs at *
    generalize leE E = ys at *
    (repeat' ((conv => whnf); first | refine VC_drop 6 ?_ | refine ⟨.v _,⟨rfl,trivial⟩,?_⟩ | (refine bcase_prop (fun h => ?_) (fun h => ?_) <;> try (exfalso; omega)) | (refine bcase_nprop (fun h => ?_) (fun h => ?_) <;> try (exfalso; omega)) | (refine bcase_intro (fun h => ?_) (fun h => ?_) <;> (try simp only [Bool.not_eq_true',Bool.not_eq_false',decide_eq_true_eq,decide_eq_false_iff_not,Bool.not_eq_true,Bool.not_eq_false,Decidable.not_not] at h)) | refine pay ?_ | intro _)); (all_goals (conv => whnf))
    refine VC_can _ _ (by (repeat ((conv => whnf); refine And.intro (by first | exact rfl | exact vint_eq (by omega) | exact vint_eq (by (dsimp only; omega)) | exact vsl_eq (by omega) | exact vsl_eq (by first | (dsimp only; omega) | (simp; done) | (simp; omega))) ?_)); exact trivial) (Ref.refl _) (add_30 (E := E) (r := r) (N := n) (a1 := a1) (a2 := a2) (c1 := c1) (c2 := c2) (b6 := b6) (xs := xs) (ys := ys) ⟨hE,Thin.skip (Thin.refl _),o1,o2,fun L => rs,fun L => rl,lx,?_⟩)
    intro q1 q2 z1 z2
    (repeat' ((conv => whnf); first | (refine bcase_prop (fun h => ?_) (fun h => ?_) <;> try (exfalso; omega)) | (refine bcase_nprop (fun h => ?_) (fun h => ?_) <;> try (exfalso; omega)) | (refine bcase_intro (fun h => ?_) (fun h => ?_) <;> (try simp only [Bool.not_eq_true',Bool.not_eq_false',decide_eq_true_eq,decide_eq_false_iff_not,Bool.not_eq_true,Bool.not_eq_false,Decidable.not_not] at h)) | refine pay ?_ | refine And.intro (by first | exact Thin.ref (.skip (.skip (.skip (Thin.refl _))))) ?_ | intro _)); (all_goals (conv => whnf))
    all_goals exact ⟨endNew 26 33 rfl rfl (by rw [hlen]) (by rw [← s1]) (by rw [hlen]) (by rw [← s2]) (by omega) rfl⟩
end Go.Proofs.Ytoocnmfodhnpbaa
/- Lists of makes: one make,a list,by the reference. -/
namespace Go.Proofs.Ytoocnmfodhnpbaa
open Go.EG
attribute [local irreducible] CallK QCall Go.Calls
set_option linter.unusedSimpArgs false
set_option linter.unusedVariables false
set_option maxRecDepth 20000
set_option maxHeartbeats 4000000
structure MakB (m : Rul) : Prop where
  k : -9223372036854775808 ≤ m.k ∧ m.k ≤ 9223372036854775807
  l : 0 ≤ m.l ∧ m.l < 256
  a : -9223372036854775808 ≤ m.a ∧ m.a ≤ 9223372036854775807
  b : -9223372036854775808 ≤ m.b ∧ m.b ≤ 9223372036854775807
  t : -9223372036854775808 ≤ m.t ∧ m.t ≤ 9223372036854775807
structure MIn (g : List Rul) : Prop where
  len : g.length * 40 ≤ 140737488355328
  ok : ∀ i,i < g.length → MakB (g.getD i rul0)
theorem len_pair (E : List Entr) (i j : Int) : (mkT E (pairR i j)).len = (tm E i).len + (tm E j).len := by
  show (Tm.pr (tm E i) (tm E j)).len = _
  unfold Tm.len; rw [Tm.txt,List.length_append]
theorem len_pow (E : List Entr) (i k : Int) : (mkT E (powR i k)).len = (tm E i).len * k.toNat := by
  show (Tm.pw (tm E i) k.toNat).len = _
  unfold Tm.len; rw [Tm.txt,len_rep,Nat.mul_comm]
theorem calls_rOne {a1 a2 a3 : Option Addr} {c1 c2 c3 : Nat} {E : List Entr} {res : List Int} (hB : Bld E res) (hE : E.length ≤ 1000) (hres : res.length ≤ 1000) {m : Rul} (hm : MakB m) (w : World) (h1 : In w [] a1 (ruE E)) (h2 : In w [] a2 (leE E)) (h3 : In w [] a3 (ints .i64 res)) :
    Calls Try.prog fn_evergreenref12_One #[stV E.length a1 c1 a2 c2,ruV m,.slice a3 res.length c3] w fun e w' => ∃ v L1,e = .returned v ∧ R w [] L1 w' ∧ oneQ E (oneF E m res).1 (oneF E m res).2 a1 c1 a2 c2 v L1 := by
  refine new_call [.v (stV E.length a1 c1 a2 c2),.v (ruV m),.v (.slice a3 res.length c3)] ok_evergreenref12_One (by simp) ?_
  have p1 := calls_Pick m.a res.length hB.ne (by omega) hm.a
  have p2 := calls_Pick m.b res.length hB.ne (by omega) hm.b
  have p3 := calls_Pick m.k 4 (by decide) (by decide) hm.k
  have i1 := pickF_lt (n := m.a) hB.ne
  have i2 := pickF_lt (n := m.b) hB.ne
  have pa := hB.pick m.a
  have pb := hB.pick m.b
  have rd1 := fun {L : List Ent} => rdI (L := L) h3 i1
  have rd2 := fun {L : List Ent} => rdI (L := L) h3 i2
  have n3 : a3 ≠ none := neI h3 hB.ne
  have hl1 := hB.wf.le (n := res.getD (pickF m.a res.length) 0) pa.2
  have hl2 := hB.wf.le (n := res.getD (pickF m.b res.length) 0) pb.2
  have q1 := hB.wf.pos1 (n := res.getD (pickF m.a res.length) 0)
  dsimp only at hl1 hl2 q1
  unfold oneF
  generalize pickF m.a res.length = ia at *
  generalize pickF m.b res.length = ib at *
  generalize res.getD ia 0 = x at *
  generalize res.getD ib 0 = y at *
  generalize pickF m.k 4 = kk at *
  have L1 := calls_Length (a1 := a1) (c1 := c1) (a2 := a2) (c2 := c2) E (by omega) pa.1 pa.2
  have L2 := calls_Length (a1 := a1) (c1 := c1) (a2 := a2) (c2 := c2) E (by omega) pb.1 pb.2
  by_cases k0 : kk = 0
  · subst k0
    rw [if_pos rfl]
    obtain ⟨l,hl⟩ : ∃ l : Nat,m.l = l := ⟨m.l.toNat,by have := hm.l; omega⟩
    rw [hl,Int.toNat_natCast]
    have cA := calls_rAdd (a1 := a1) (c1 := c1) (a2 := a2) (c2 := c2) E (by omega) (letR l) 1 rfl
    (repeat' ((conv => whnf); first | rw [hl] | rw [Int.toNat_natCast] | rw [Nat.mul_one] | (first | refine puK p1 ?_ | refine quK p1 ?_) | (first | refine puK p2 ?_ | refine quK p2 ?_) | (first | refine puK p3 ?_ | refine quK p3 ?_) | refine ⟨_,rd1,?_⟩ | refine ⟨_,rd2,?_⟩ | refine ⟨.v _,⟨rfl,trivial⟩,?_⟩ | ((refine CallK_new (fun w hR => cA w (h1.cast hR (by simp)) (h2.cast hR (by simp))) ?_; rintro _ _ (⟨hq,rfl,rfl⟩ | ⟨a1',c1',a2',c2',rfl,rfl⟩)) <;> refine ⟨.v _,rfl,?_⟩) | (refine bcase_prop (fun h => ?_) (fun h => ?_) <;> try (exfalso; omega)) | (refine bcase_nprop (fun h => ?_) (fun h => ?_) <;> try (exfalso; omega)) | (refine bcase_intro (fun h => ?_) (fun h => ?_) <;> (try simp only [Bool.not_eq_true',Bool.not_eq_false',decide_eq_true_eq,decide_eq_false_iff_not,Bool.not_eq_true,Bool.not_eq_false,Decidable.not_not] at h)) | refine pay ?_ | refine And.intro (by first | exact n3) ?_ | intro _)); (all_goals (conv => whnf))
    all_goals first | exact ⟨endOld hq rfl⟩ | exact ⟨endNew 801 802 rfl rfl rfl rfl rfl rfl rfl rfl⟩
  · rw [if_neg k0]
    by_cases k3 : kk = 3
    · subst k3
      rw [if_pos rfl]
      by_cases hx : x = 0
      · rw [if_pos (.inl hx)]
        subst hx
        (repeat' ((conv => whnf); first | rw [Int.toNat_natCast] | rw [Nat.mul_one] | (first | refine puK p1 ?_ | refine quK p1 ?_) | (first | refine puK p2 ?_ | refine quK p2 ?_) | (first | refine puK p3 ?_ | refine quK p3 ?_) | refine ⟨_,rd1,?_⟩ | refine ⟨_,rd2,?_⟩ | refine ⟨.v _,⟨rfl,trivial⟩,?_⟩ | refine CallK_pure (.v _) (fun w hR => L1 w (h2.cast hR (by simp))) ?_ | (refine bcase_prop (fun h => ?_) (fun h => ?_) <;> try (exfalso; omega)) | (refine bcase_nprop (fun h => ?_) (fun h => ?_) <;> try (exfalso; omega)) | (refine bcase_intro (fun h => ?_) (fun h => ?_) <;> (try simp only [Bool.not_eq_true',Bool.not_eq_false',decide_eq_true_eq,decide_eq_false_iff_not,Bool.not_eq_true,Bool.not_eq_false,Decidable.not_not] at h)) | refine pay ?_ | refine And.intro (by first | exact n3) ?_ | intro _)); (all_goals (conv => whnf))
        all_goals exact ⟨endOld rfl rfl⟩
      · have hp := q1 (by omega) pa.2
        by_cases ht : m.t ≤ 0
        · rw [if_pos (.inr (.inl ht))]
          (repeat' ((conv => whnf); first | rw [Int.toNat_natCast] | rw [Nat.mul_one] | (first | refine puK p1 ?_ | refine quK p1 ?_) | (first | refine puK p2 ?_ | refine quK p2 ?_) | (first | refine puK p3 ?_ | refine quK p3 ?_) | refine ⟨_,rd1,?_⟩ | refine ⟨_,rd2,?_⟩ | refine ⟨.v _,⟨rfl,trivial⟩,?_⟩ | refine CallK_pure (.v _) (fun w hR => L1 w (h2.cast hR (by simp))) ?_ | (refine bcase_prop (fun h => ?_) (fun h => ?_) <;> try (exfalso; omega)) | (refine bcase_nprop (fun h => ?_) (fun h => ?_) <;> try (exfalso; omega)) | (refine bcase_intro (fun h => ?_) (fun h => ?_) <;> (try simp only [Bool.not_eq_true',Bool.not_eq_false',decide_eq_true_eq,decide_eq_false_iff_not,Bool.not_eq_true,Bool.not_eq_false,Decidable.not_not] at h)) | refine pay ?_ | refine And.intro (by first | exact n3) ?_ | intro _)); (all_goals (conv => whnf))
          all_goals first | exact ⟨endOld rfl rfl⟩ | (exfalso; omega)
        · obtain ⟨t,htn⟩ : ∃ t : Nat,m.t = t := ⟨m.t.toNat,by omega⟩
          rw [htn,Int.toNat_natCast]
          have hdiv : (1152921504606846976 : Int) / ((tm E x).len : Int) = ((1152921504606846976 / (tm E x).len : Nat) : Int) := by rw [Int.natCast_ediv]; rfl
          have hiff : t ≤ 1152921504606846976 / (tm E x).len ↔ (tm E x).len * t ≤ LM := by
            rw [Nat.le_div_iff_mul_le (by omega),Nat.mul_comm]
          have cA := calls_rAdd (a1 := a1) (c1 := c1) (a2 := a2) (c2 := c2) E (by omega) (powR x t) ((tm E x).len * t) (by rw [len_pow]; rfl)
          have hmul : ((tm E x).len : Int) * (t : Int) = (((tm E x).len * t : Nat) : Int) := by simp
          have htb := hm.t
          generalize (tm E x).len = ln at *
          generalize ln * t = p at *
          unfold LM at *
          generalize 1152921504606846976 / ln = dd at *
          by_cases hlong : 1152921504606846976 < p
          · rw [if_pos (.inr (.inr hlong))]
            (repeat' ((conv => whnf); first | rw [hdiv] | rw [htn] | rw [Int.toNat_natCast] | rw [Nat.mul_one] | (first | refine puK p1 ?_ | refine quK p1 ?_) | (first | refine puK p2 ?_ | refine quK p2 ?_) | (first | refine puK p3 ?_ | refine quK p3 ?_) | refine ⟨_,rd1,?_⟩ | refine ⟨_,rd2,?_⟩ | refine ⟨.v _,⟨rfl,trivial⟩,?_⟩ | refine CallK_pure (.v _) (fun w hR => L1 w (h2.cast hR (by simp))) ?_ | (refine bcase_prop (fun h => ?_) (fun h => ?_) <;> try (exfalso; omega)) | (refine bcase_nprop (fun h => ?_) (fun h => ?_) <;> try (exfalso; omega)) | (refine bcase_intro (fun h => ?_) (fun h => ?_) <;> (try simp only [Bool.not_eq_true',Bool.not_eq_false',decide_eq_true_eq,decide_eq_false_iff_not,Bool.not_eq_true,Bool.not_eq_false,Decidable.not_not] at h)) | refine pay ?_ | refine And.intro (by first | exact n3 | exact ⟨by omega,by omega,by omega⟩) ?_ | intro _)); (all_goals (conv => whnf))
            all_goals first | exact ⟨endOld rfl rfl⟩ | (exfalso; omega)
          · rw [if_neg (by omega)]
            by_cases ht1 : (t : Int) = 1
            · rw [if_pos ht1]
              (repeat' ((conv => whnf); first | rw [hdiv] | rw [htn] | rw [Int.toNat_natCast] | rw [Nat.mul_one] | (first | refine puK p1 ?_ | refine quK p1 ?_) | (first | refine puK p2 ?_ | refine quK p2 ?_) | (first | refine puK p3 ?_ | refine quK p3 ?_) | refine ⟨_,rd1,?_⟩ | refine ⟨_,rd2,?_⟩ | refine ⟨.v _,⟨rfl,trivial⟩,?_⟩ | refine CallK_pure (.v _) (fun w hR => L1 w (h2.cast hR (by simp))) ?_ | (refine bcase_prop (fun h => ?_) (fun h => ?_) <;> try (exfalso; omega)) | (refine bcase_nprop (fun h => ?_) (fun h => ?_) <;> try (exfalso; omega)) | (refine bcase_intro (fun h => ?_) (fun h => ?_) <;> (try simp only [Bool.not_eq_true',Bool.not_eq_false',decide_eq_true_eq,decide_eq_false_iff_not,Bool.not_eq_true,Bool.not_eq_false,Decidable.not_not] at h)) | refine pay ?_ | refine And.intro (by first | exact n3 | exact ⟨by omega,by omega,by omega⟩) ?_ | intro _)); (all_goals (conv => whnf))
              all_goals first | exact ⟨endOld rfl rfl⟩ | (exfalso; omega)
            · rw [if_neg ht1]
              (repeat' ((conv => whnf); first | rw [hdiv] | rw [hmul] | rw [htn] | rw [Int.toNat_natCast] | rw [Nat.mul_one] | (first | refine puK p1 ?_ | refine quK p1 ?_) | (first | refine puK p2 ?_ | refine quK p2 ?_) | (first | refine puK p3 ?_ | refine quK p3 ?_) | refine ⟨_,rd1,?_⟩ | refine ⟨_,rd2,?_⟩ | refine ⟨.v _,⟨rfl,trivial⟩,?_⟩ | refine CallK_pure (.v _) (fun w hR => L1 w (h2.cast hR (by simp))) ?_ | ((refine CallK_new (fun w hR => cA w (h1.cast hR (by simp)) (h2.cast hR (by simp))) ?_; rintro _ _ (⟨hq,rfl,rfl⟩ | ⟨a1',c1',a2',c2',rfl,rfl⟩)) <;> refine ⟨.v _,rfl,?_⟩) | (refine bcase_prop (fun h => ?_) (fun h => ?_) <;> try (exfalso; omega)) | (refine bcase_nprop (fun h => ?_) (fun h => ?_) <;> try (exfalso; omega)) | (refine bcase_intro (fun h => ?_) (fun h => ?_) <;> (try simp only [Bool.not_eq_true',Bool.not_eq_false',decide_eq_true_eq,decide_eq_false_iff_not,Bool.not_eq_true,Bool.not_eq_false,Decidable.not_not] at h)) | refine pay ?_ | refine And.intro (by first | exact n3 | exact ⟨by omega,by omega,by omega⟩) ?_ | intro _)); (all_goals (conv => whnf))
              all_goals first | (exfalso; omega) | exact ⟨endOld hq rfl⟩ | exact ⟨endNew 801 802 rfl rfl rfl rfl rfl rfl rfl rfl⟩
    · rw [if_neg k3]
      by_cases hx : x = 0
      · rw [if_pos hx]
        (repeat' ((conv => whnf); first | rw [Int.toNat_natCast] | rw [Nat.mul_one] | (first | refine puK p1 ?_ | refine quK p1 ?_) | (first | refine puK p2 ?_ | refine quK p2 ?_) | (first | refine puK p3 ?_ | refine quK p3 ?_) | refine ⟨_,rd1,?_⟩ | refine ⟨_,rd2,?_⟩ | refine ⟨.v _,⟨rfl,trivial⟩,?_⟩ | (refine bcase_prop (fun h => ?_) (fun h => ?_) <;> try (exfalso; omega)) | (refine bcase_nprop (fun h => ?_) (fun h => ?_) <;> try (exfalso; omega)) | (refine bcase_intro (fun h => ?_) (fun h => ?_) <;> (try simp only [Bool.not_eq_true',Bool.not_eq_false',decide_eq_true_eq,decide_eq_false_iff_not,Bool.not_eq_true,Bool.not_eq_false,Decidable.not_not] at h)) | refine pay ?_ | refine And.intro (by first | exact n3) ?_ | intro _)); (all_goals (conv => whnf))
        all_goals first | exact ⟨endOld rfl rfl⟩ | (exfalso; omega)
      · rw [if_neg hx]
        by_cases hy : y = 0
        · rw [if_pos hy]
          (repeat' ((conv => whnf); first | rw [Int.toNat_natCast] | rw [Nat.mul_one] | (first | refine puK p1 ?_ | refine quK p1 ?_) | (first | refine puK p2 ?_ | refine quK p2 ?_) | (first | refine puK p3 ?_ | refine quK p3 ?_) | refine ⟨_,rd1,?_⟩ | refine ⟨_,rd2,?_⟩ | refine ⟨.v _,⟨rfl,trivial⟩,?_⟩ | (refine bcase_prop (fun h => ?_) (fun h => ?_) <;> try (exfalso; omega)) | (refine bcase_nprop (fun h => ?_) (fun h => ?_) <;> try (exfalso; omega)) | (refine bcase_intro (fun h => ?_) (fun h => ?_) <;> (try simp only [Bool.not_eq_true',Bool.not_eq_false',decide_eq_true_eq,decide_eq_false_iff_not,Bool.not_eq_true,Bool.not_eq_false,Decidable.not_not] at h)) | refine pay ?_ | refine And.intro (by first | exact n3) ?_ | intro _)); (all_goals (conv => whnf))
          all_goals first | exact ⟨endOld rfl rfl⟩ | (exfalso; omega)
        · rw [if_neg hy]
          have cA := calls_rAdd (a1 := a1) (c1 := c1) (a2 := a2) (c2 := c2) E (by omega) (pairR x y) ((tm E x).len + (tm E y).len) (len_pair E x y)
          generalize (tm E x).len = lx at *
          generalize (tm E y).len = ly at *
          unfold LM at *
          by_cases hlong : 1152921504606846976 < lx + ly
          · rw [if_pos hlong]
            (repeat' ((conv => whnf); first | rw [Int.toNat_natCast] | rw [Nat.mul_one] | (first | refine puK p1 ?_ | refine quK p1 ?_) | (first | refine puK p2 ?_ | refine quK p2 ?_) | (first | refine puK p3 ?_ | refine quK p3 ?_) | refine ⟨_,rd1,?_⟩ | refine ⟨_,rd2,?_⟩ | refine ⟨.v _,⟨rfl,trivial⟩,?_⟩ | (refine QCall_pure (.v _) (fun w hR => L1 w (h2.cast hR (by simp))) ?_) | (refine QCall_pure (.v _) (fun w hR => L2 w (h2.cast hR (by simp))) ?_) | (refine bcase_prop (fun h => ?_) (fun h => ?_) <;> try (exfalso; omega)) | (refine bcase_nprop (fun h => ?_) (fun h => ?_) <;> try (exfalso; omega)) | (refine bcase_intro (fun h => ?_) (fun h => ?_) <;> (try simp only [Bool.not_eq_true',Bool.not_eq_false',decide_eq_true_eq,decide_eq_false_iff_not,Bool.not_eq_true,Bool.not_eq_false,Decidable.not_not] at h)) | refine pay ?_ | refine And.intro (by first | exact n3) ?_ | intro _)); (all_goals (conv => whnf))
            all_goals first | exact ⟨endOld rfl rfl⟩ | (exfalso; omega)
          · rw [if_neg hlong]
            have hadd : (lx : Int) + (ly : Int) = ((lx + ly : Nat) : Int) := by omega
            (repeat' ((conv => whnf); first | rw [hadd] | rw [Int.toNat_natCast] | rw [Nat.mul_one] | (first | refine puK p1 ?_ | refine quK p1 ?_) | (first | refine puK p2 ?_ | refine quK p2 ?_) | (first | refine puK p3 ?_ | refine quK p3 ?_) | refine ⟨_,rd1,?_⟩ | refine ⟨_,rd2,?_⟩ | refine ⟨.v _,⟨rfl,trivial⟩,?_⟩ | (refine QCall_pure (.v _) (fun w hR => L1 w (h2.cast hR (by simp))) ?_) | (refine QCall_pure (.v _) (fun w hR => L2 w (h2.cast hR (by simp))) ?_) | ((refine CallK_new (fun w hR => cA w (h1.cast hR (by simp)) (h2.cast hR (by simp))) ?_; rintro _ _ (⟨hq,rfl,rfl⟩ | ⟨a1',c1',a2',c2',rfl,rfl⟩)) <;> refine ⟨.v _,rfl,?_⟩) | (refine bcase_prop (fun h => ?_) (fun h => ?_) <;> try (exfalso; omega)) | (refine bcase_nprop (fun h => ?_) (fun h => ?_) <;> try (exfalso; omega)) | (refine bcase_intro (fun h => ?_) (fun h => ?_) <;> (try simp only [Bool.not_eq_true',Bool.not_eq_false',decide_eq_true_eq,decide_eq_false_iff_not,Bool.not_eq_true,Bool.not_eq_false,Decidable.not_not] at h)) | refine pay ?_ | refine And.intro (by first | exact n3) ?_ | intro _)); (all_goals (conv => whnf))
            all_goals first | (exfalso; omega) | exact ⟨endOld hq rfl⟩ | exact ⟨endNew 801 802 rfl rfl rfl rfl rfl rfl rfl rfl⟩
end Go.Proofs.Ytoocnmfodhnpbaa
/- Lists of makes: the whole list,by the reference and in a store. -/
namespace Go.Proofs.Ytoocnmfodhnpbaa
open Go.EG
attribute [local irreducible] CallK QCall Go.Calls
set_option linter.unusedSimpArgs false
set_option linter.unusedVariables false
set_option maxRecDepth 20000
set_option maxHeartbeats 4000000
theorem buildF_prefix : ∀ (ms : List Rul) (E : List Entr) (res : List Int),∃ rest,(buildF E res ms).2 = res ++ rest
  | [],E,res => ⟨[],by simp [buildF]⟩
  | m :: ms,E,res => by
    obtain ⟨rest,h⟩ := buildF_prefix ms (oneF E m res).1 (res ++ [(oneF E m res).2])
    exact ⟨(oneF E m res).2 :: rest,by rw [buildF,h]; simp⟩
structure BSt (g : List Rul) (i : Nat) (E : List Entr) (res : List Int) : Prop where
  bld : Bld E res
  len : res.length = i + 1
  room : E.length ≤ i
  all : buildF [] [0] g = buildF E res (g.drop i)
theorem BSt.start (g : List Rul) : BSt g 0 [] [0] := ⟨Bld.start,rfl,Nat.le_refl _,rfl⟩
theorem BSt.next {g : List Rul} {i : Nat} {E : List Entr} {res : List Int} (h : BSt g i E res) (hi : i < g.length) (hl : g.length ≤ 40) (hm : MakB (g.getD i rul0)) : BSt g (i + 1) (oneF E (g.getD i rul0) res).1 (res ++ [(oneF E (g.getD i rul0) res).2]) := by
  have hr := h.room
  obtain ⟨_,_,h3,h4,_⟩ := one_ok (m := g.getD i rul0) h.bld hm.l (by omega)
  refine ⟨h3,by simp [h.len],by omega,?_⟩
  rw [h.all,drop_cons (d := rul0) hi,buildF]
theorem BSt.end_ {g : List Rul} {i : Nat} {E : List Entr} {res : List Int} (h : BSt g i E res) (hi : ¬ i < g.length) : buildF [] [0] g = (E,res) := by
  rw [h.all,List.drop_eq_nil_of_le (by omega),buildF]
theorem BSt.want {g : List Rul} {i : Nat} {E : List Entr} {res : List Int} (h : BSt g i E res) (hi : i < g.length) : (buildF [] [0] g).2.getD (i + 1) 0 = (oneF E (g.getD i rul0) res).2 := by
  rw [h.all,drop_cons (d := rul0) hi,buildF]
  obtain ⟨rest,hrest⟩ := buildF_prefix (g.drop (i + 1)) (oneF E (g.getD i rul0) res).1 (res ++ [(oneF E (g.getD i rul0) res).2])
  rw [hrest,List.getD_eq_getElem?_getD,List.getElem?_append_left (by simp [h.len]),List.getElem?_append_right (by rw [h.len]; exact Nat.le_refl _),h.len]
  simp
theorem bst_all {g : List Rul} (hg : MIn g) (hl : g.length ≤ 40) : BSt g g.length (buildF [] [0] g).1 (buildF [] [0] g).2 := by
  have key : ∀ k,k ≤ g.length → ∃ E res,BSt g k E res := by
    intro k
    induction k with
    | zero => exact fun _ => ⟨_,_,BSt.start g⟩
    | succ k ih =>
      intro hk
      obtain ⟨E,res,h⟩ := ih (by omega)
      exact ⟨_,_,h.next (by omega) hl (hg.ok k (by omega))⟩
  obtain ⟨E,res,h⟩ := key g.length (Nat.le_refl _)
  have := h.end_ (by omega)
  rw [this]
  exact h
structure BldG where
  i : Nat
  E : List Entr
  res : List Int
  a1 : Option Addr
  c1 : Nat
  a2 : Option Addr
  c2 : Nat
  a3 : Option Addr
  c3 : Nat
def bldQ (g : List Rul) (v : Value) (L1 : List Ent) : Prop :=
  ∃ a1 c1 a2 c2 a3 c3,v = .tuple #[stV (buildF [] [0] g).1.length a1 c1 a2 c2,.slice a3 (g.length + 1) c3] ∧
    L1 = [.own 801 a1 (buildF [] [0] g).1.length c1 ty_api_Rule 5 (ruE (buildF [] [0] g).1),.own 802 a2 (buildF [] [0] g).1.length c2 ty_int 1 (leE (buildF [] [0] g).1),.own 803 a3 (g.length + 1) c3 ty_api_ID 1 (ints .i64 (buildF [] [0] g).2)]
theorem calls_rBuild (g : List Rul) (hg : MIn g) (hl : g.length ≤ 40) (a : Option Addr) (c : Nat) (w : World) (hin : In w [] a (rulsC g)) :
    Calls Try.prog fn_evergreenref12_Build #[.slice a g.length c] w fun e w' => ∃ v L1,e = .returned v ∧ R w [] L1 w' ∧ bldQ g v L1 := by
  refine new_call [.v (.slice a g.length c)] ok_evergreenref12_Build (by simp) ?_
  have hne : ∀ i,i < g.length → a ≠ none := fun i hi => hin.ne' (k := i * 5) (by rw [rulsC_length]; omega)
  have hrd := fun {L : List Ent} (i : Nat) (hi : i < g.length) => In.rdn (L := L) (vs := ruC (g.getD i rul0)) (k := i * 5) hin (Nat.succ_pos _) (rulsC_at hi)
  (repeat' ((conv => whnf); first | (refine bcase_prop (fun h => ?_) (fun h => ?_) <;> try (exfalso; omega)) | (refine bcase_nprop (fun h => ?_) (fun h => ?_) <;> try (exfalso; omega)) | (refine bcase_intro (fun h => ?_) (fun h => ?_) <;> (try simp only [Bool.not_eq_true',Bool.not_eq_false',decide_eq_true_eq,decide_eq_false_iff_not,Bool.not_eq_true,Bool.not_eq_false,Decidable.not_not] at h)) | refine pay ?_ | intro _)); (all_goals (conv => whnf))
  rename_i b2 b4 b10
  refine VC_loop BldG (fun x => [(0,.v (.slice a g.length c)),(2,.ptr 2 b2 0),(4,.ptr 4 b4 0),(5,.sl 803 x.a3 x.res.length x.c3),(6,.v (.int .i64 x.i))])
    (fun x => [.own 801 x.a1 x.E.length x.c1 ty_api_Rule 5 (ruE x.E),.own 802 x.a2 x.E.length x.c2 ty_int 1 (leE x.E),.own 803 x.a3 x.res.length x.c3 ty_api_ID 1 (ints .i64 x.res),.box 4 b4 [.slice x.a1 x.E.length x.c1,.slice x.a2 x.E.length x.c2] ty_evergreenref12_Store,.box 2 b2 [.slice none 0 0,.slice none 0 0] ty_evergreenref12_Store])
    (fun x => x.i ≤ g.length ∧ BSt g x.i x.E x.res) (fun x => g.length - x.i) ⟨0,[],[0],none,0,none,0,some ⟨b10,0,none⟩,1⟩ ⟨Nat.zero_le _,BSt.start g⟩ (by (repeat ((conv => whnf); refine And.intro (by first | exact rfl | exact vint_eq (by omega) | exact vint_eq (by (dsimp only; omega)) | exact vsl_eq (by omega) | exact vsl_eq (by first | (dsimp only; omega) | (simp; done) | (simp; omega))) ?_)); exact trivial) ((Ref.ownNil 802 ty_int 1).trans ((Ref.ownNil 801 ty_api_Rule 5).trans (Thin.ref (by (repeat (first | exact Thin.nil _ | exact Thin.refl _ | refine Thin.keep rfl (fun _ h => h) ?_ | refine Thin.skip ?_)))))) ?_
  rintro ⟨i,E,res,a1,c1,a2,c2,a3,c3⟩ ⟨hi,hB⟩
  dsimp only at hi hB ⊢
  by_cases hlt : i < g.length
  · have hn0 := hne i hlt
    have hr := fun {L : List Ent} => hrd (L := L) i hlt
    have hmk := hg.ok i hlt
    have hnx := hB.next hlt hl hmk
    have hroom := hB.room
    have hrl := hB.len
    have cO := fun w h1 h2 h3 => calls_rOne (a1 := a1) (c1 := c1) (a2 := a2) (c2 := c2) (a3 := a3) (c3 := c3) hB.bld (by omega) (by omega) hmk w h1 h2 h3
    have hsn := ints_snoc .i64 res (oneF E (g.getD i rul0) res).2
    generalize g.getD i rul0 = m at *
    generalize oneF E m res = EE at *
    obtain ⟨E',id⟩ := EE
    dsimp only at *
    (repeat' ((conv => whnf); first | rw [hsn] | rw [Int.toNat_natCast] | refine stop_and ?_ ?_ | refine ⟨ruC m,rfl,hr,?_⟩ | refine ⟨_,⟨rfl,trivial⟩,?_⟩ | ((refine CallK_new (fun w hR => cO w (In.ownR (key := 801) hR rfl) (In.ownR (key := 802) hR rfl) (In.ownR (key := 803) hR rfl)) ?_; rintro _ _ (⟨hq,rfl,rfl⟩ | ⟨a1',c1',a2',c2',rfl,rfl⟩)) <;> refine ⟨.v _,rfl,?_⟩) | (refine bcase_prop (fun h => ?_) (fun h => ?_) <;> try (exfalso; omega)) | (refine bcase_nprop (fun h => ?_) (fun h => ?_) <;> try (exfalso; omega)) | (refine bcase_intro (fun h => ?_) (fun h => ?_) <;> (try simp only [Bool.not_eq_true',Bool.not_eq_false',decide_eq_true_eq,decide_eq_false_iff_not,Bool.not_eq_true,Bool.not_eq_false,Decidable.not_not] at h)) | refine pay ?_ | refine And.intro (by first | exact fun _ => Thin.ref (by (repeat (first | exact Thin.nil _ | exact Thin.refl _ | refine Thin.keep rfl (fun _ h => h) ?_ | refine Thin.skip ?_))) | exact Thin.ref (by (repeat (first | exact Thin.nil _ | exact Thin.refl _ | refine Thin.keep rfl (fun _ h => h) ?_ | refine Thin.skip ?_)))) ?_ | intro _)); (all_goals (conv => whnf))
    all_goals rename_i a' c'
    all_goals first
      | (subst hq; refine loop_next ⟨i + 1,E',res ++ [id],a1,c1,a2,c2,a',c'⟩ ⟨hlt,hnx⟩ (by ((try dsimp only); omega)) (by (repeat ((conv => whnf); refine And.intro (by first | exact rfl | exact vint_eq (by omega) | exact vint_eq (by (dsimp only; omega)) | exact vsl_eq (by omega) | exact vsl_eq (by first | (dsimp only; omega) | (simp; done) | (simp; omega))) ?_)); exact trivial) (Thin.ref ?_))
      | (refine loop_next ⟨i + 1,E',res ++ [id],a1',c1',a2',c2',a',c'⟩ ⟨hlt,hnx⟩ (by ((try dsimp only); omega)) (by (repeat ((conv => whnf); refine And.intro (by first | exact rfl | exact vint_eq (by omega) | exact vint_eq (by (dsimp only; omega)) | exact vsl_eq (by omega) | exact vsl_eq (by first | (dsimp only; omega) | (simp; done) | (simp; omega))) ?_)); exact trivial) (Thin.ref ?_))
    all_goals (repeat (first | exact Thin.nil _ | exact Thin.refl _ | refine Thin.keep rfl (fun _ h => h) ?_ | refine Thin.own (by simp; done) rfl ?_ | refine Thin.skip ?_))
  · have he := hB.end_ hlt
    have hrl := hB.len
    have hig : i = g.length := by omega
    subst hig
    unfold bldQ
    rw [he]
    (repeat' ((conv => whnf); first | refine ⟨_,⟨rfl,trivial⟩,?_⟩ | (refine bcase_prop (fun h => ?_) (fun h => ?_) <;> try (exfalso; omega)) | (refine bcase_nprop (fun h => ?_) (fun h => ?_) <;> try (exfalso; omega)) | (refine bcase_intro (fun h => ?_) (fun h => ?_) <;> (try simp only [Bool.not_eq_true',Bool.not_eq_false',decide_eq_true_eq,decide_eq_false_iff_not,Bool.not_eq_true,Bool.not_eq_false,Decidable.not_not] at h)) | refine pay ?_ | intro _)); (all_goals (conv => whnf))
    refine ⟨⟨_,?_,a1,c1,a2,c2,a3,c3,?_,rfl⟩⟩
    · refine Thin.ref (.keep rfl (fun _ h => h) (.keep rfl (fun _ h => h) (.own hrl rfl (.nil _))))
    · rw [hrl]; rfl
structure LbG where
  i : Nat
  E : List Entr
  res : List Int
  a8 : Option Addr
  c8 : Nat
  fp : List Nat
def lbQ (b : Nat) (g : List Rul) (v : Value) (L1 : List Ent) : Prop :=
  ∃ a c fp',v = .tuple #[.slice a (g.length + 1) c,.bool true] ∧ L1 = [packE 77 fp' (fS b ⟨1000,(buildF [] [0] g).1⟩),.own 804 a (g.length + 1) c ty_api_ID 1 (ints .i64 (buildF [] [0] g).2)]
theorem mx0 (t : Int) : (if (0 : Int) > t then 0 else t) = max t 0 := by omega
theorem calls_lBuild (b : Nat) (g : List Rul) (hg : MIn g) (hl : g.length ≤ 40) (a : Option Addr) (c key : Nat) (fp : List Nat) (w : World) (hR : StR w key fp b ⟨1000,[]⟩) (hin : In w fp a (rulsC g)) :
    Calls Try.prog fn_evergreenlaw12_Build #[pS b,.slice a g.length c] w fun e w' => ∃ v L1,e = .returned v ∧ R w fp L1 w' ∧ lbQ b g v L1 := by
  refine part_call [.v (pS b),.v (.slice a g.length c)] ok_evergreenlaw12_Build (by simp) (hR.key 77) ?_
  have hne : ∀ i,i < g.length → a ≠ none := fun i hi => hin.ne' (k := i * 5) (by rw [rulsC_length]; omega)
  have hrd := fun {L : List Ent} (i : Nat) (hi : i < g.length) => In.rdn (L := L) (vs := ruC (g.getD i rul0)) (k := i * 5) hin (Nat.succ_pos _) (rulsC_at hi)
  have cB := fun w h => calls_rBuild g hg hl a c w h
  (repeat' ((conv => whnf); first | ((refine CallK_new (fun w hR => cB w (hin.cast hR (by simp))) ?_); rintro _ _ ⟨a1,c1,a2,c2,a3,c3,rfl,rfl⟩; refine ⟨.v _,rfl,?_⟩) | (refine bcase_prop (fun h => ?_) (fun h => ?_) <;> try (exfalso; omega)) | (refine bcase_nprop (fun h => ?_) (fun h => ?_) <;> try (exfalso; omega)) | (refine bcase_intro (fun h => ?_) (fun h => ?_) <;> (try simp only [Bool.not_eq_true',Bool.not_eq_false',decide_eq_true_eq,decide_eq_false_iff_not,Bool.not_eq_true,Bool.not_eq_false,Decidable.not_not] at h)) | refine pay ?_ | intro _)); (all_goals (conv => whnf))
  rename_i b6 b19
  have hwl : (buildF [] [0] g).2.length = g.length + 1 := (bst_all hg hl).len
  refine VC_loop LbG (fun x => [(0,.v (pS b)),(1,.v (.slice a g.length c)),(4,.v (.slice none 0 0)),(5,.v (.bool false)),(7,.sl 803 a3 (g.length + 1) c3),(8,.sl 804 x.a8 x.res.length x.c8),(20,.v (.slice a g.length c)),(21,.v (.int .i64 g.length)),(22,.v (.int .i64 x.i))])
    (fun x => [packE 77 x.fp (fS b ⟨1000,x.E⟩),.own 804 x.a8 x.res.length x.c8 ty_api_ID 1 (ints .i64 x.res),.own 803 a3 (g.length + 1) c3 ty_api_ID 1 (ints .i64 (buildF [] [0] g).2)])
    (fun x => x.i ≤ g.length ∧ BSt g x.i x.E x.res) (fun x => g.length - x.i) ⟨0,[],[0],some ⟨b19,0,none⟩,1,fp⟩ ⟨Nat.zero_le _,BSt.start g⟩ (by (repeat ((conv => whnf); refine And.intro (by first | exact rfl | exact vint_eq (by omega) | exact vint_eq (by (dsimp only; omega)) | exact vsl_eq (by omega) | exact vsl_eq (by first | (dsimp only; omega) | (simp; done) | (simp; omega))) ?_)); exact trivial) ((refPick 77 rfl).trans (Thin.ref ?_)) ?_
  · exact .keep rfl (fun _ h => h) (.keep rfl (fun _ h => h) (.skip (.skip (.skip (.keep rfl (fun _ h => h) (.nil _))))))
  rintro ⟨i,E,res,a8,c8,fpi⟩ ⟨hi,hB⟩
  dsimp only at hi hB ⊢
  by_cases hlt : i < g.length
  · have hn0 := hne i hlt
    have hr := fun {L : List Ent} => hrd (L := L) i hlt
    have hmk := hg.ok i hlt
    have hnx := hB.next hlt hl hmk
    have hroom := hB.room
    have hrl := hB.len
    have hwant := hB.want hlt
    obtain ⟨o1,o2,_,_,_⟩ := one_ok (m := g.getD i rul0) hB.bld hmk.l (by omega)
    generalize g.getD i rul0 = m at *
    have p1 := calls_Pick m.a res.length hB.bld.ne (by omega) hmk.a
    have p2 := calls_Pick m.b res.length hB.bld.ne (by omega) hmk.b
    have p3 := calls_Pick m.k 4 (by decide) (by decide) hmk.k
    have i1 := pickF_lt (n := m.a) hB.bld.ne
    have i2 := pickF_lt (n := m.b) hB.bld.ne
    have hat : ∀ j,j < res.length → (ints .i64 res)[j]? = some (.int .i64 (res.getD j 0)) := fun j hj => ints_getD hj
    have r1 := hat _ i1
    have r2 := hat _ i2
    have r3 : (ints .i64 (buildF [] [0] g).2)[i + 1]? = some (.int .i64 (oneF E m res).2) := by rw [← hwant]; exact ints_getD (by omega)
    have hsn := ints_snoc .i64 res (oneF E m res).2
    have e1 : ((i : Int) + 1).toNat = i + 1 := by omega
    have t0 := mx0 m.t
    have c2 := calls_Power b ⟨1000,E⟩ hB.bld.wf (res.getD (pickF m.a res.length) 0) (max m.t 0) (by have := hmk.t; omega)
    have c3 := calls_Pair b ⟨1000,E⟩ hB.bld.wf (res.getD (pickF m.a res.length) 0) (res.getD (pickF m.b res.length) 0)
    obtain ⟨l,hl'⟩ : ∃ l : Nat,m.l = l := ⟨m.l.toNat,by have := hmk.l; omega⟩
    have c1 := calls_Letter b ⟨1000,E⟩ l (by have := hmk.l; omega) (by dsimp only; omega)
    unfold stOne at o1 o2
    rw [hl',Int.toNat_natCast] at o1 o2
    generalize (buildF [] [0] g).2 = want at *
    generalize oneF E m res = EE at *
    obtain ⟨E',id⟩ := EE
    dsimp only at o1 o2 hnx hwant r3 hsn
    generalize pickF m.a res.length = ia at *
    generalize pickF m.b res.length = ib at *
    generalize pickF m.k 4 = kk at *
    generalize res.getD ia 0 = x at *
    generalize res.getD ib 0 = y at *
    by_cases k0 : kk = 0
    · subst k0
      rw [if_pos rfl] at o1 o2
      rw [o1] at c1
      generalize stPut ⟨1000,E⟩ (letR l) = st at *
      obtain ⟨st0,st1,st2⟩ := st
      dsimp only at o1 o2 c1
      subst o1 o2
      unfold resV at c1
      generalize errO st2 = er at *
      (repeat' ((conv => whnf); first | rw [hsn] | rw [hl'] | rw [e1] | rw [Int.toNat_natCast] | rw [Nat.mul_one] | (first | refine puK p1 ?_ | refine quK p1 ?_) | (first | refine puK p2 ?_ | refine quK p2 ?_) | (first | refine puK p3 ?_ | refine quK p3 ?_) | refine SC.go 77 c1 rfl fun fp' => ?_ | refine ldCell r1 ?_ | refine ldCell r2 ?_ | refine ldCell r3 ?_ | refine ⟨ruC m,rfl,hr,?_⟩ | refine ⟨_,⟨rfl,trivial⟩,?_⟩ | (refine bcase_prop (fun h => ?_) (fun h => ?_) <;> try (exfalso; omega)) | (refine bcase_nprop (fun h => ?_) (fun h => ?_) <;> try (exfalso; omega)) | (refine bcase_intro (fun h => ?_) (fun h => ?_) <;> (try simp only [Bool.not_eq_true',Bool.not_eq_false',decide_eq_true_eq,decide_eq_false_iff_not,Bool.not_eq_true,Bool.not_eq_false,Decidable.not_not] at h)) | refine pay ?_ | intro _)); (all_goals (conv => whnf))
      rename_i a' c'
      refine loop_next ⟨i + 1,E',res ++ [st1],a',c',fp'⟩ ⟨hlt,hnx⟩ (by ((try dsimp only); omega)) (by (repeat ((conv => whnf); refine And.intro (by first | exact rfl | exact vint_eq (by omega) | exact vint_eq (by (dsimp only; omega)) | exact vsl_eq (by omega) | exact vsl_eq (by first | (dsimp only; omega) | (simp; done) | (simp; omega))) ?_)); exact trivial) ((refPick 77 rfl).trans (Thin.ref ?_))
      (repeat (first | exact Thin.nil _ | exact Thin.refl _ | refine Thin.keep rfl (fun _ h => h) ?_ | refine Thin.own (by simp; done) rfl ?_ | refine Thin.skip ?_))
    · rw [if_neg k0] at o1 o2
      by_cases k3 : kk = 3
      · subst k3
        rw [if_pos rfl] at o1 o2
        rw [o1] at c2
        generalize stPower ⟨1000,E⟩ x (max m.t 0) = st at *
        obtain ⟨st0,st1,st2⟩ := st
        dsimp only at o1 o2 c2
        subst o1 o2
        unfold resV at c2
        generalize errO st2 = er at *
        (repeat' ((conv => whnf); first | rw [t0] | rw [hsn] | rw [hl'] | rw [e1] | rw [Int.toNat_natCast] | rw [Nat.mul_one] | (first | refine puK p1 ?_ | refine quK p1 ?_) | (first | refine puK p2 ?_ | refine quK p2 ?_) | (first | refine puK p3 ?_ | refine quK p3 ?_) | refine SC.go 77 c2 rfl fun fp' => ?_ | refine ldCell r1 ?_ | refine ldCell r2 ?_ | refine ldCell r3 ?_ | refine ⟨ruC m,rfl,hr,?_⟩ | refine ⟨_,⟨rfl,trivial⟩,?_⟩ | (refine bcase_prop (fun h => ?_) (fun h => ?_) <;> try (exfalso; omega)) | (refine bcase_nprop (fun h => ?_) (fun h => ?_) <;> try (exfalso; omega)) | (refine bcase_intro (fun h => ?_) (fun h => ?_) <;> (try simp only [Bool.not_eq_true',Bool.not_eq_false',decide_eq_true_eq,decide_eq_false_iff_not,Bool.not_eq_true,Bool.not_eq_false,Decidable.not_not] at h)) | refine pay ?_ | intro _)); (all_goals (conv => whnf))
        all_goals first | (exfalso; omega) | skip
        all_goals rename_i a' c'
        all_goals (refine loop_next ⟨i + 1,E',res ++ [st1],a',c',fp'⟩ ⟨hlt,hnx⟩ (by ((try dsimp only); omega)) (by (repeat ((conv => whnf); refine And.intro (by first | exact rfl | exact vint_eq (by omega) | exact vint_eq (by (dsimp only; omega)) | exact vsl_eq (by omega) | exact vsl_eq (by first | (dsimp only; omega) | (simp; done) | (simp; omega))) ?_)); exact trivial) ((refPick 77 rfl).trans (Thin.ref ?_)))
        all_goals (repeat (first | exact Thin.nil _ | exact Thin.refl _ | refine Thin.keep rfl (fun _ h => h) ?_ | refine Thin.own (by simp; done) rfl ?_ | refine Thin.skip ?_))
      · rw [if_neg k3] at o1 o2
        rw [o1] at c3
        generalize stPair ⟨1000,E⟩ x y = st at *
        obtain ⟨st0,st1,st2⟩ := st
        dsimp only at o1 o2 c3
        subst o1 o2
        unfold resV at c3
        generalize errO st2 = er at *
        (repeat' ((conv => whnf); first | rw [hsn] | rw [hl'] | rw [e1] | rw [Int.toNat_natCast] | rw [Nat.mul_one] | (first | refine puK p1 ?_ | refine quK p1 ?_) | (first | refine puK p2 ?_ | refine quK p2 ?_) | (first | refine puK p3 ?_ | refine quK p3 ?_) | refine SC.go 77 c3 rfl fun fp' => ?_ | refine ldCell r1 ?_ | refine ldCell r2 ?_ | refine ldCell r3 ?_ | refine ⟨ruC m,rfl,hr,?_⟩ | refine ⟨_,⟨rfl,trivial⟩,?_⟩ | (refine bcase_prop (fun h => ?_) (fun h => ?_) <;> try (exfalso; omega)) | (refine bcase_nprop (fun h => ?_) (fun h => ?_) <;> try (exfalso; omega)) | (refine bcase_intro (fun h => ?_) (fun h => ?_) <;> (try simp only [Bool.not_eq_true',Bool.not_eq_false',decide_eq_true_eq,decide_eq_false_iff_not,Bool.not_eq_true,Bool.not_eq_false,Decidable.not_not] at h)) | refine pay ?_ | intro _)); (all_goals (conv => whnf))
        all_goals first | (exfalso; omega) | skip
        all_goals rename_i a' c'
        all_goals (refine loop_next ⟨i + 1,E',res ++ [st1],a',c',fp'⟩ ⟨hlt,hnx⟩ (by ((try dsimp only); omega)) (by (repeat ((conv => whnf); refine And.intro (by first | exact rfl | exact vint_eq (by omega) | exact vint_eq (by (dsimp only; omega)) | exact vsl_eq (by omega) | exact vsl_eq (by first | (dsimp only; omega) | (simp; done) | (simp; omega))) ?_)); exact trivial) ((refPick 77 rfl).trans (Thin.ref ?_)))
        all_goals (repeat (first | exact Thin.nil _ | exact Thin.refl _ | refine Thin.keep rfl (fun _ h => h) ?_ | refine Thin.own (by simp; done) rfl ?_ | refine Thin.skip ?_))
  · have he := hB.end_ hlt
    have hrl := hB.len
    have hig : i = g.length := by omega
    subst hig
    unfold lbQ
    rw [he]
    (repeat' ((conv => whnf); first | refine ⟨_,⟨rfl,trivial⟩,?_⟩ | (refine bcase_prop (fun h => ?_) (fun h => ?_) <;> try (exfalso; omega)) | (refine bcase_nprop (fun h => ?_) (fun h => ?_) <;> try (exfalso; omega)) | (refine bcase_intro (fun h => ?_) (fun h => ?_) <;> (try simp only [Bool.not_eq_true',Bool.not_eq_false',decide_eq_true_eq,decide_eq_false_iff_not,Bool.not_eq_true,Bool.not_eq_false,Decidable.not_not] at h)) | refine pay ?_ | intro _)); (all_goals (conv => whnf))
    refine ⟨⟨_,(refPick 77 rfl).trans (Thin.ref ?_),a8,c8,fpi,?_,rfl⟩⟩
    · exact .keep rfl (fun _ h => h) (.own hrl rfl (.nil _))
    · rw [hrl]
theorem calls_lBuildN (b : Nat) (g : List Rul) (hg : MIn g) (hl : g.length ≤ 40) (a : Option Addr) (c key : Nat) (fp : List Nat) (w : World) (hR : StR w key fp b ⟨1000,[]⟩) (hin : In w fp a (rulsC g)) :
    Calls Try.prog fn_evergreenlaw12_Build #[pS b,.slice a g.length c] w fun e w' => ∃ v L1,e = .returned v ∧ R w fp L1 w' ∧ ∃ a c fp',a ≠ none ∧ v = .tuple #[.slice a (g.length + 1) c,.bool true] ∧ L1 = [packE 77 fp' (fS b ⟨1000,(buildF [] [0] g).1⟩),.own 804 a (g.length + 1) c ty_api_ID 1 (ints .i64 (buildF [] [0] g).2)] :=
  (calls_lBuild b g hg hl a c key fp w hR hin).mono fun e w' ⟨v,L1,he,hR',a,c,fp',hv,hL⟩ => by
    subst hL
    exact ⟨v,_,he,hR',a,c,fp',own_ne hR'.tail (key := 804) rfl (Nat.succ_pos _),hv,rfl⟩
end Go.Proofs.Ytoocnmfodhnpbaa
/- A store with the rules of a list,and one of the results. -/
namespace Go.Proofs.Ytoocnmfodhnpbaa
open Go.EG
attribute [local irreducible] CallK QCall Go.Calls
set_option linter.unusedSimpArgs false
set_option linter.unusedVariables false
set_option maxRecDepth 20000
set_option maxHeartbeats 4000000
theorem inCast1 {w0 w : World} {fp0 fp1 : List Nat} {k1 : Nat} {ok1 : World → Prop} {Lr : List Ent} {a : Option Addr} {xs : List Value} (h : In w0 fp0 a xs) (hR : R w0 fp0 (.abs k1 fp1 ok1 :: Lr) w) : In w fp1 a xs :=
  h.cast hR (fun b hb => by rw [fps_cons]; exact List.mem_append_left _ hb)
def gS (g : List Rul) : Sto := ⟨1000,(buildF [] [0] g).1⟩
abbrev gE (g : List Rul) : List Entr := (gS g).E
def gId (g : List Rul) (pick : Int) : Int := (buildF [] [0] g).2.getD (pickF pick (g.length + 1)) 0
theorem gS_wf {g : List Rul} (hg : MIn g) (hl : g.length ≤ 40) : WF (gS g) := (bst_all hg hl).bld.wf
theorem gId_known {g : List Rul} (hg : MIn g) (hl : g.length ≤ 40) (pick : Int) : known (gS g) (gId g pick) := by
  have h := bst_all hg hl
  have := h.bld.known (pickF pick (g.length + 1)) (by rw [h.len]; exact pickF_lt (by omega))
  exact this
theorem gE_len {g : List Rul} (hg : MIn g) (hl : g.length ≤ 40) : (gE g).length ≤ 40 := Nat.le_trans (bst_all hg hl).room hl
end Go.Proofs.Ytoocnmfodhnpbaa
/- A slice of makes that came in. No condition. -/
namespace Go.Proofs.Ytoocnmfodhnpbaa
open Go.EG
set_option linter.unusedVariables false
theorem mak_of {vs : List Value} (h : RecOk [.i64,.u8,.i64,.i64,.i64] vs) : ∃ r : Rul,vs = ruC r ∧ MakB r := by
  match vs,h with
  | [.int k0 n0,.int k1 n1,.int k2 n2,.int k3 n3,.int k4 n4],h =>
    obtain ⟨⟨rfl,w0⟩,⟨rfl,w1⟩,⟨rfl,w2⟩,⟨rfl,w3⟩,⟨rfl,w4⟩,_⟩ := h
    have h0 := wf_i64 w0
    have h1 := wf_u8 w1
    have h2 := wf_i64 w2
    have h3 := wf_i64 w3
    have h4 := wf_i64 w4
    exact ⟨⟨n0,n1,n2,n3,n4⟩,rfl,⟨h0,⟨h1.1,by have := h1.2; show n1 < 256; omega⟩,h2,h3,h4⟩⟩
theorem maks_of : ∀ {rows : List (List Value)},(∀ vs ∈ rows,RecOk [.i64,.u8,.i64,.i64,.i64] vs) →
    ∃ g : List Rul,rows.flatten = rulsC g ∧ g.length = rows.length ∧ ∀ i,i < g.length → MakB (g.getD i rul0)
  | [],_ => ⟨[],rfl,rfl,fun i h => absurd h (Nat.not_lt_zero i)⟩
  | vs :: rows,h => by
    obtain ⟨r,rfl,h1⟩ := mak_of (h vs List.mem_cons_self)
    obtain ⟨g,e1,e2,e3⟩ := maks_of fun vs hv => h vs (List.mem_cons_of_mem _ hv)
    refine ⟨r :: g,?_,by simp [e2],fun i hi => ?_⟩
    · rw [List.flatten_cons,e1]; simp [rulsC]
    · cases i with
      | zero => exact h1
      | succ i => exact e3 i (by simpa using hi)
end Go.Proofs.Ytoocnmfodhnpbaa
/- The way to a letter: the program. -/
namespace Go.Proofs.Ytoocnmfodhnpbaa
open Go.EG
attribute [local irreducible] CallK QCall Go.Calls
set_option linter.unusedSimpArgs false
set_option linter.unusedVariables false
set_option maxRecDepth 20000
set_option maxHeartbeats 2000000
structure PthG where
  id : Int
  i : Nat
  acc : List Int
  a : Option Addr
  c : Nat
  fp : List Nat
end Go.Proofs.Ytoocnmfodhnpbaa
/- The letters of a range: the program. -/
namespace Go.Proofs.Ytoocnmfodhnpbaa
open Go.EG
attribute [local irreducible] CallK QCall Go.Calls
set_option linter.unusedSimpArgs false
set_option linter.unusedVariables false
set_option maxRecDepth 20000
set_option maxHeartbeats 4000000
end Go.Proofs.Ytoocnmfodhnpbaa
/- The text of a rule,by the reference. -/
namespace Go.Proofs.Ytoocnmfodhnpbaa
open Go.EG
attribute [local irreducible] CallK QCall Go.Calls
set_option linter.unusedSimpArgs false
set_option linter.unusedVariables false
set_option maxRecDepth 20000
set_option maxHeartbeats 4000000
end Go.Proofs.Ytoocnmfodhnpbaa
/- Lines,positions,ranges: the references. -/
namespace Go.Proofs.Ytoocnmfodhnpbaa
open Go.EG
attribute [local irreducible] CallK QCall Go.Calls
set_option linter.unusedSimpArgs false
set_option linter.unusedVariables false
set_option maxRecDepth 20000
set_option maxHeartbeats 4000000
end Go.Proofs.Ytoocnmfodhnpbaa
/- Calls upon a part of the heap that is named by keys. Generic over the program: no condition. -/
namespace Go.EG
set_option linter.unusedVariables false
def Ent.key : Ent → Nat
  | .own k .. => k
  | .box k .. => k
  | .abs k .. => k
  | .mapE k .. => k
def takeE (key : Nat) : List Ent → Option (Ent × List Ent)
  | [] => none
  | e :: L => if e.key = key then some (e,L) else (takeE key L).map fun p => (p.1,e :: p.2)
def takeL : List Nat → List Ent → Option (List Ent × List Ent)
  | [],L => some ([],L)
  | k :: ks,L => (takeE k L).bind fun q => (takeL ks q.2).map fun p => (q.1 :: p.1,p.2)
theorem takeE_perm {key : Nat} : ∀ {L : List Ent} {e : Ent} {Lr : List Ent},takeE key L = some (e,Lr) → L.Perm (e :: Lr)
  | [],_,_,h => by cases h
  | e0 :: L,e,Lr,h => by
    simp only [takeE] at h
    split at h
    · simp only [Option.some.injEq,Prod.mk.injEq] at h
      rw [h.1,h.2]
    · obtain ⟨p,hp,h⟩ := Option.map_eq_some_iff.1 h
      simp only [Prod.mk.injEq] at h
      obtain ⟨rfl,rfl⟩ := h
      exact ((takeE_perm hp).cons e0).trans (.swap _ _ _)
theorem takeL_perm : ∀ {ks : List Nat} {L L0 Lr : List Ent},takeL ks L = some (L0,Lr) → L.Perm (L0 ++ Lr)
  | [],L,L0,Lr,h => by
    simp only [takeL,Option.some.injEq,Prod.mk.injEq] at h
    obtain ⟨rfl,rfl⟩ := h
    exact .refl _
  | k :: ks,L,L0,Lr,h => by
    simp only [takeL] at h
    obtain ⟨q,hq,h⟩ := Option.bind_eq_some_iff.1 h
    obtain ⟨p,hp,h⟩ := Option.map_eq_some_iff.1 h
    simp only [Prod.mk.injEq] at h
    obtain ⟨rfl,rfl⟩ := h
    exact (takeE_perm hq).trans ((takeL_perm hp).cons _)
section
variable {P : Program} {w0 w : World} {fp0 : List Nat} {L : List Ent}
theorem CallK_sub {f : FuncId} {args : List Value} {k : SV → List Ent → Prop} (ks : List Nat) {L0 Lr : List Ent} {Q : Value → List Ent → Prop} (hp : takeL ks L = some (L0,Lr))
    (h : ∀ w,R w0 fp0 (L0 ++ Lr) w → R w (fps L0) L0 w → Calls P f args.toArray w fun e w' => ∃ v L1,e = .returned v ∧ R w (fps L0) L1 w' ∧ Q v L1)
    (hk : ∀ v L1,Q v L1 → ∃ s : SV,s.val = v ∧ k s (L1 ++ Lr)) : CallK P w0 fp0 f args L k :=
  CallK_heap (takeL_perm hp) h hk
theorem Ref.take (ks : List Nat) {L0 Lr : List Ent} (h : takeL ks L = some (L0,Lr)) : Ref w0 fp0 L L0 :=
  (Ref.perm (takeL_perm h)).trans (Ref.sub (List.sublist_append_left _ _))
theorem Ref.takes (ks : List Nat) {L0 Lr L1 : List Ent} (h : takeL ks L = some (L0,Lr)) (k : Thin L0 L1) : Ref w0 fp0 L L1 := (Ref.take ks h).trans k.ref
theorem oneAllI {k : IntKind} : ∀ (xs : List Int),oneAll (ints k xs)
  | [] => trivial
  | x :: xs => ⟨trivial,oneAllI xs⟩
end
end Go.EG
/- Behind a call the world is at hand. Generic over the program: no condition. -/
namespace Go.EG
set_option linter.unusedVariables false
theorem CallK_subR {P : Program} {w0 : World} {fp0 : List Nat} {L : List Ent} {f : FuncId} {args : List Value} {k : SV → List Ent → Prop} (ks : List Nat) {L0 Lr : List Ent} {Q : Value → List Ent → Prop} (hp : takeL ks L = some (L0,Lr))
    (h : ∀ w,R w0 fp0 (L0 ++ Lr) w → R w (fps L0) L0 w → Calls P f args.toArray w fun e w' => ∃ v L1,e = .returned v ∧ R w (fps L0) L1 w' ∧ Q v L1)
    (hk : ∀ v L1 w',Q v L1 → R w0 fp0 (L1 ++ Lr) w' → ∃ s : SV,s.val = v ∧ k s (L1 ++ Lr)) : CallK P w0 fp0 f args L k := fun w hR =>
  (h w (hR.perm (takeL_perm hp)) (hR.perm (takeL_perm hp)).restart).mono fun e w' ⟨v,L1,he,hR',hq⟩ => by
    have hR2 := R.call (hR.perm (takeL_perm hp)) hR'
    obtain ⟨s,hs,hk⟩ := hk v L1 w' hq hR2
    exact ⟨v,s,L1 ++ Lr,he,hs,hR2,hk⟩
theorem CallK_pack2R {P : Program} {w0 : World} {fp0 : List Nat} {L : List Ent} {f : FuncId} {args : List Value} {k : SV → List Ent → Prop} {key1 key2 : Nat} {fp1 fp2 : List Nat} {α β : Type} {fA : α → List Ent} {fB : β → List Ent} {Lr1 Lr : List Ent} {Q : Value → List Ent → Prop} (hp1 : pickE key1 L = some (packE key1 fp1 fA,Lr1)) (hp2 : pickE key2 Lr1 = some (packE key2 fp2 fB,Lr))
    (h : ∀ w,R w0 fp0 (packE key1 fp1 fA :: packE key2 fp2 fB :: Lr) w → R w (fp1 ++ fp2) [packE key1 fp1 fA,packE key2 fp2 fB] w → Calls P f args.toArray w fun e w' => ∃ v L1,e = .returned v ∧ R w (fp1 ++ fp2) L1 w' ∧ Q v L1)
    (hk : ∀ v L1 w',Q v L1 → R w0 fp0 (L1 ++ Lr) w' → ∃ s : SV,s.val = v ∧ k s (L1 ++ Lr)) : CallK P w0 fp0 f args L k := fun w hR => by
  have e1 : fps [packE key1 fp1 fA,packE key2 fp2 fB] = fp1 ++ fp2 := by simp [packE,Ent.fp,fps]
  have hR1 : R w0 fp0 ([packE key1 fp1 fA,packE key2 fp2 fB] ++ Lr) w := hR.perm ((pickE_perm hp1).trans ((pickE_perm hp2).cons _))
  have h0 := hR1.restart
  rw [e1] at h0
  refine (h w hR1 h0).mono fun e w' ⟨v,L1,he,hR',hq⟩ => ?_
  rw [← e1] at hR'
  have hR2 := R.call hR1 hR'
  obtain ⟨s,hs,hk⟩ := hk v L1 w' hq hR2
  exact ⟨v,s,L1 ++ Lr,he,hs,hR2,hk⟩
theorem CallK_pack2U {P : Program} {w0 : World} {fp0 : List Nat} {L : List Ent} {f : FuncId} {args : List Value} {k : SV → List Ent → Prop} {key1 key2 k1' k2' : Nat} {fp1 fp2 : List Nat} {α β α' β' : Type} {fA : α → List Ent} {fB : β → List Ent} {fA' : α' → List Ent} {fB' : β' → List Ent} {Lr1 Lr : List Ent} {r : Value} (hp1 : pickE key1 L = some (packE key1 fp1 fA,Lr1)) (hp2 : pickE key2 Lr1 = some (packE key2 fp2 fB,Lr))
    (h : ∀ w,R w0 fp0 (packE key1 fp1 fA :: packE key2 fp2 fB :: Lr) w → R w (fp1 ++ fp2) [packE key1 fp1 fA,packE key2 fp2 fB] w → Calls P f args.toArray w fun e w' => ∃ v L1,e = .returned v ∧ R w (fp1 ++ fp2) L1 w' ∧ v = r ∧ ∃ g1 g2,L1 = [packE k1' g1 fA',packE k2' g2 fB'])
    (hk : ∀ x g2 w',R w0 fp0 (fA' x ++ packE k2' g2 fB' :: Lr) w' → ∃ s : SV,s.val = r ∧ k s (fA' x ++ packE k2' g2 fB' :: Lr)) : CallK P w0 fp0 f args L k := fun w hR => by
  have e1 : fps [packE key1 fp1 fA,packE key2 fp2 fB] = fp1 ++ fp2 := by simp [packE,Ent.fp,fps]
  have hR1 : R w0 fp0 ([packE key1 fp1 fA,packE key2 fp2 fB] ++ Lr) w := hR.perm ((pickE_perm hp1).trans ((pickE_perm hp2).cons _))
  have h0 := hR1.restart
  rw [e1] at h0
  refine (h w hR1 h0).mono fun e w' ⟨v,L1,he,hR',hv,g1,g2,hL1⟩ => ?_
  subst hv hL1
  rw [← e1] at hR'
  obtain ⟨x,_,hR2⟩ := (R.call hR1 hR').unpack
  obtain ⟨s,hs,hk⟩ := hk x g2 w' hR2
  exact ⟨v,s,_,he,hs,hR2,hk⟩
end Go.EG
/- Rows that are read alone,many of them in one entry. -/
namespace Go.Proofs.Ytoocnmfodhnpbaa
open Go.EG
set_option linter.unusedSimpArgs false
set_option linter.unusedVariables false
structure Frz where
  a : Option Addr
  n : Nat
  c : Nat
  xs : List Value
def frzFp (F : List Frz) : List Nat := F.flatMap fun f => (Value.slice f.a f.n f.c).ownBlock.toList
def frE (key : Nat) (F : List Frz) : Ent := .abs key (frzFp F) fun w => ∀ f ∈ F,roOk f.a f.xs w
section
variable {w0 w : World} {fp0 : List Nat} {L : List Ent}
theorem R.freezeRow {k key n c T sz : Nat} {a : Option Addr} {xs : List Value} {F : List Frz} (h : R w0 fp0 (.own k a n c T sz xs :: frE key F :: L) w) : R w0 fp0 (frE key (⟨a,n,c,xs⟩ :: F) :: L) w := by
  have e : fps (frE key (⟨a,n,c,xs⟩ :: F) :: L) = fps (.own k a n c T sz xs :: frE key F :: L) := by
    simp only [fps_cons,frE,Ent.fp,frzFp,List.flatMap_cons,List.append_assoc]
  have hro : ∀ j v,xs[j]? = some v → ∃ g,a = some ⟨g,0,none⟩ ∧ w.cell? ⟨g,j,none⟩ = some v := fun j v hv => by
    exact cell_own (key := k) (o := ⟨a,n,c,T,sz,xs⟩) h (by simp [ownAt]) hv
  refine ⟨h.os,h.tape,h.output,h.size,h.old,by rw [e]; exact h.nodup,by rw [e]; exact h.range,fun x hx => ?_⟩
  rcases List.mem_cons.1 hx with rfl | hx
  · intro w' hs f hf
    rcases List.mem_cons.1 hf with rfl | hf
    · intro j v hv
      obtain ⟨g,ha,hc⟩ := hro j v hv
      dsimp only at ha ⊢
      refine ⟨g,ha,?_⟩
      rw [← hc]
      exact cell_old (hs g (by simp [frzFp,ha,Value.ownBlock]))
    · have h2 := h.ok (frE key F) (by simp)
      exact h2 w' (fun b hb => hs b (by simp only [frzFp,List.flatMap_cons]; exact List.mem_append_right _ hb)) f hf
  · exact h.ok x (List.mem_cons_of_mem _ (List.mem_cons_of_mem _ hx))
theorem R.freezeNew {key : Nat} (h : R w0 fp0 L w) : R w0 fp0 (frE key [] :: L) w := by
  have e : fps (frE key [] :: L) = fps L := by simp [fps_cons,frE,Ent.fp,frzFp]
  refine ⟨h.os,h.tape,h.output,h.size,h.old,by rw [e]; exact h.nodup,by rw [e]; exact h.range,fun x hx => ?_⟩
  rcases List.mem_cons.1 hx with rfl | hx
  · intro w' _ f hf; cases hf
  · exact h.ok x hx
theorem Ref.freezeRow {k key n c T sz : Nat} {a : Option Addr} {xs : List Value} {F : List Frz} : Ref w0 fp0 (.own k a n c T sz xs :: frE key F :: L) (frE key (⟨a,n,c,xs⟩ :: F) :: L) := fun _ h => R.freezeRow h
theorem Ref.freezeNew (key : Nat) : Ref w0 fp0 L (frE key [] :: L) := fun _ h => R.freezeNew h
theorem In.frz {key : Nat} {F : List Frz} {f : Frz} (hR : R w0 fp0 L w) (hm : frE key F ∈ L) (hf : f ∈ F) : In w [] f.a f.xs := by
  by_cases hx : f.xs = []
  · exact .inl hx
  · have hro := Ent.abs_ok (hR.ok _ hm) f hf
    obtain ⟨g,ha,hc⟩ := hro 0 _ (List.getElem?_eq_getElem (List.length_pos_iff.2 hx))
    refine .inr ⟨g,0,ha,?_,by simp,fun j v hv => ?_⟩
    · unfold World.cell? at hc
      rcases Nat.lt_or_ge g w.heap.size with h | h
      · exact h
      · rw [Array.getElem?_eq_none h] at hc
        simp at hc
    · obtain ⟨g',ha',hc'⟩ := hro j v hv
      rw [ha] at ha'
      simp only [Option.some.injEq,Addr.mk.injEq,and_true] at ha'
      subst ha'
      rw [Nat.zero_add]; exact hc'
end
end Go.Proofs.Ytoocnmfodhnpbaa
/- What a rule reaches,and the grammar that is handed out. Plain Lean: no program in sight. -/
namespace Go.Proofs.Ytoocnmfodhnpbaa
open Go.EG
set_option linter.unusedSimpArgs false
set_option linter.unusedVariables false
structure Rch (S : Sto) (id : Int) (L : List Int) : Prop where
  asc : L.Pairwise (· < ·)
  pos : ∀ x ∈ L,1 ≤ x ∧ x ≤ id
  cls : ∀ x ∈ L,∀ y ∈ refsL (atE S.E x).r,y ∈ L
  top : id ≠ 0 → id ∈ L
  rea : ∀ x ∈ L,x ≠ id → ∃ z ∈ L,x ∈ refsL (atE S.E z).r
def posn (L : List Int) (x : Int) : Int := if x ∈ L then (L.idxOf x : Int) + 1 else 0
def ren (L : List Int) (r : Rul) : Rul := { r with a := posn L r.a,b := posn L r.b }
def xg (S : Sto) (L : List Int) : List Rul := L.map fun x => ren L (atE S.E x).r
theorem xg_length (S : Sto) (L : List Int) : (xg S L).length = L.length := by simp [xg]
theorem asc_get {L : List Int} (h : L.Pairwise (· < ·)) {i j : Nat} (hij : i < j) (hj : j < L.length) : L.getD i 0 < L.getD j 0 := by
  rw [List.pairwise_iff_getElem] at h
  have := h i j (by omega) hj hij
  simpa [List.getD_eq_getElem?_getD,List.getElem?_eq_getElem (show i < L.length by omega),List.getElem?_eq_getElem hj] using this
theorem getD_mem {L : List Int} {i : Nat} (hi : i < L.length) : L.getD i 0 ∈ L := by
  rw [List.getD_eq_getElem?_getD,List.getElem?_eq_getElem hi]
  exact List.getElem_mem hi
theorem idxOf_getD {L : List Int} {x : Int} (h : x ∈ L) : L.idxOf x < L.length ∧ L.getD (L.idxOf x) 0 = x := by
  have hl := List.idxOf_lt_length_of_mem h
  refine ⟨hl,?_⟩
  rw [List.getD_eq_getElem?_getD,List.getElem?_eq_getElem hl]
  simp
theorem asc_idx {L : List Int} (h : L.Pairwise (· < ·)) {i : Nat} {x : Int} (hi : i < L.length) (hx : x ∈ L) (hlt : x < L.getD i 0) : L.idxOf x < i := by
  obtain ⟨h1,h2⟩ := idxOf_getD hx
  refine Decidable.byContradiction fun hc => ?_
  by_cases he : L.idxOf x = i
  · rw [he] at h2; omega
  · have := asc_get h (show i < L.idxOf x by omega) h1
    omega
theorem posn_mem {L : List Int} {x : Int} (h : x ∈ L) : posn L x = (L.idxOf x : Int) + 1 := if_pos h
theorem posn_not {L : List Int} {x : Int} (h : x ∉ L) : posn L x = 0 := if_neg h
theorem refs_two {r : Rul} (h : r.k = 2) : refsL r = [r.a,r.b] := if_pos h
theorem refs_one {r : Rul} (h : r.k = 3) : refsL r = [r.a] := by rw [refsL,if_neg (by omega),if_pos h]
theorem WF.okAt {S : Sto} (hw : WF S) {x : Int} (h1 : 1 ≤ x) (h2 : x ≤ S.E.length) : okR (atE S.E x).r x := by
  have := hw.rul (x.toNat - 1) (by omega)
  unfold atE
  rw [if_neg (by omega)]
  rw [show ((x.toNat - 1 : Nat) : Int) + 1 = x by omega] at this
  exact this
theorem WF.letAt {S : Sto} (hw : WF S) {x : Int} (h1 : 1 ≤ x) (h2 : x ≤ S.E.length) : 0 ≤ (atE S.E x).r.l ∧ (atE S.E x).r.l < 256 := by
  have := hw.let_ (x.toNat - 1) (by omega)
  unfold atE
  rw [if_neg (by omega)]
  exact this
theorem WF.tmAt {S : Sto} (hw : WF S) {x : Int} (h1 : 1 ≤ x) (h2 : x ≤ S.E.length) : tm S.E x = mkT S.E (atE S.E x).r := by
  have := hw.tms (x.toNat - 1) (by omega)
  unfold tm atE
  rw [if_neg (by omega)]
  exact this
theorem take_snoc {α : Type} {L : List α} {i : Nat} {d : α} (h : i < L.length) : L.take (i + 1) = L.take i ++ [L.getD i d] := by
  rw [List.take_add_one,List.getElem?_eq_getElem h,List.getD_eq_getElem?_getD,List.getElem?_eq_getElem h]
  rfl
theorem getD_map {α β : Type} {L : List α} {f : α → β} {i : Nat} {d : α} {e : β} (h : i < L.length) : (L.map f).getD i e = f (L.getD i d) := by
  rw [List.getD_eq_getElem?_getD,List.getD_eq_getElem?_getD,List.getElem?_map,List.getElem?_eq_getElem h]
  rfl
theorem Rch.term {S : Sto} (hw : WF S) {id : Int} {L : List Int} (h : Rch S id L) (hk : id ≤ S.E.length) {i : Nat} (hi : i < L.length) :
    gT ((L.take i).map (tm S.E)) (ren L (atE S.E (L.getD i 0)).r) = tm S.E (L.getD i 0) := by
  have hm := getD_mem hi
  obtain ⟨p1,p2⟩ := h.pos _ hm
  have ho := hw.okAt p1 (by omega)
  rw [hw.tmAt p1 (by omega)]
  have key : ∀ y,y ∈ refsL (atE S.E (L.getD i 0)).r → y < L.getD i 0 → mAt ((L.take i).map (tm S.E)) (posn L y) = tm S.E y := by
    intro y hy hlt
    have hyL := h.cls _ hm y hy
    have hx := asc_idx h.asc hi hyL hlt
    rw [posn_mem hyL]
    unfold mAt
    rw [if_neg (by omega),show ((L.idxOf y : Int) + 1).toNat - 1 = L.idxOf y by omega,getD_map (d := 0) (by rw [List.length_take]; omega),List.getD_eq_getElem?_getD,List.getElem?_take,if_pos hx,← List.getD_eq_getElem?_getD,(idxOf_getD hyL).2]
  generalize (atE S.E (L.getD i 0)).r = r at *
  unfold gT mkT ren
  rcases ho with ⟨hk1,_⟩ | ⟨hk2,_,_,_,ha,_,hb⟩ | ⟨hk3,_,_,_,_,ha⟩
  · simp only [hk1,if_true]
  · simp only [hk2]
    rw [key r.a (by rw [refs_two hk2]; simp) ha,key r.b (by rw [refs_two hk2]; simp) hb]
  · simp only [hk3]
    rw [key r.a (by rw [refs_one hk3]; simp) ha,if_neg (by decide),if_neg (by decide),if_neg (by decide),if_neg (by decide)]
theorem Rch.ok {S : Sto} (hw : WF S) {id : Int} {L : List Int} (h : Rch S id L) (hk : id ≤ S.E.length) {i : Nat} (hi : i < L.length) : okR ((xg S L).getD i rul0) (i + 1) := by
  have hm := getD_mem hi
  obtain ⟨p1,p2⟩ := h.pos _ hm
  have ho := hw.okAt p1 (by omega)
  have hn : (0 : Int) ∉ L := fun h0 => by have := (h.pos 0 h0).1; omega
  have key : ∀ y,y ∈ refsL (atE S.E (L.getD i 0)).r → y < L.getD i 0 → 1 ≤ posn L y ∧ posn L y < (i : Int) + 1 := by
    intro y hy hlt
    have hyL := h.cls _ hm y hy
    have hx := asc_idx h.asc hi hyL hlt
    rw [posn_mem hyL]
    omega
  rw [xg,getD_map (d := 0) hi]
  generalize (atE S.E (L.getD i 0)).r = r at *
  unfold okR ren
  rcases ho with ⟨hk1,e1,e2,e3,e4⟩ | ⟨hk2,e1,e2,_,ha,_,hb⟩ | ⟨hk3,e1,e2,e3,_,ha⟩
  · refine .inl ⟨hk1,?_,?_,e3,by omega⟩
    · show posn L r.a = 0; rw [e1]; exact posn_not hn
    · show posn L r.b = 0; rw [e2]; exact posn_not hn
  · have k1 := key r.a (by rw [refs_two hk2]; simp) ha
    have k2 := key r.b (by rw [refs_two hk2]; simp) hb
    exact .inr (.inl ⟨hk2,e1,e2,k1.1,k1.2,k2.1,k2.2⟩)
  · have k1 := key r.a (by rw [refs_one hk3]; simp) ha
    refine .inr (.inr ⟨hk3,e1,?_,e3,k1.1,k1.2⟩)
    show posn L r.b = 0; rw [e2]; exact posn_not hn
theorem Rch.let_ {S : Sto} (hw : WF S) {id : Int} {L : List Int} (h : Rch S id L) (hk : id ≤ S.E.length) {i : Nat} (hi : i < L.length) : 0 ≤ ((xg S L).getD i rul0).l ∧ ((xg S L).getD i rul0).l < 256 := by
  obtain ⟨p1,p2⟩ := h.pos _ (getD_mem hi)
  rw [xg,getD_map (d := 0) hi]
  exact hw.letAt p1 (by omega)
theorem Rch.last {S : Sto} {id : Int} {L : List Int} (h : Rch S id L) (h0 : id ≠ 0) : 0 < L.length ∧ L.getD (L.length - 1) 0 = id := by
  have hm := h.top h0
  obtain ⟨h1,h2⟩ := idxOf_getD hm
  refine ⟨by omega,?_⟩
  by_cases he : L.idxOf id = L.length - 1
  · rw [← he]; exact h2
  · have := asc_get h.asc (show L.idxOf id < L.length - 1 by omega) (by omega)
    have := (h.pos _ (getD_mem (show L.length - 1 < L.length by omega))).2
    omega
theorem Rch.len {S : Sto} {id : Int} {L : List Int} (h : Rch S id L) : (L.length : Int) ≤ id ∨ L = [] := by
  cases hL : L with
  | nil => exact .inr rfl
  | cons x t =>
    refine .inl ?_
    have : ∀ i,i < L.length → (i : Int) + 1 ≤ L.getD i 0 := by
      intro i
      induction i with
      | zero => intro hi; have := (h.pos _ (getD_mem hi)).1; omega
      | succ i ih =>
        intro hi
        have h1 := ih (by omega)
        have h2 := asc_get h.asc (show i < i + 1 by omega) hi
        omega
    have hl : 0 < L.length := by rw [hL]; simp
    have h1 := this (L.length - 1) (by omega)
    have h2 := (h.pos _ (getD_mem (show L.length - 1 < L.length by omega))).2
    rw [← hL]
    omega
theorem Rch.small {S : Sto} (hw : WF S) {id : Int} {L : List Int} (h : Rch S id L) (hk : known S id) : L.length ≤ 1048576 := by
  have := hw.small
  have := hk.2
  rcases h.len with h | h
  · omega
  · rw [h]; simp
structure Bfs (S : Sto) (id : Int) (i : Nat) (L : List Int) : Prop where
  nod : L.Nodup
  pos : ∀ x ∈ L,1 ≤ x ∧ x ≤ id
  cls : ∀ j,j < i → ∀ y ∈ refsL (atE S.E (L.getD j 0)).r,y ∈ L
  top : id ∈ L
  rea : ∀ x ∈ L,x ≠ id → ∃ z ∈ L,x ∈ refsL (atE S.E z).r
theorem Bfs.start {S : Sto} {id : Int} (h : 1 ≤ id) : Bfs S id 0 [id] :=
  ⟨by simp,fun x hx => by rw [List.mem_singleton] at hx; subst hx; omega,fun j hj => absurd hj (by omega),by simp,fun x hx hn => absurd (List.mem_singleton.1 hx) hn⟩
theorem nodup_len : ∀ {n : Nat} {L : List Int},L.Nodup → (∀ x ∈ L,1 ≤ x ∧ x ≤ n) → L.length ≤ n
  | 0,[],_,_ => Nat.le_refl _
  | 0,x :: t,_,h => absurd (h x (by simp)) (by omega)
  | n + 1,L,hn,h => by
    have h1 : (L.erase ((n : Int) + 1)).length ≤ n := nodup_len (hn.erase _) fun x hx => by
      have h2 := h x (List.mem_of_mem_erase hx)
      have h3 : x ≠ (n : Int) + 1 := fun he => by
        subst he
        exact absurd hx (List.Nodup.not_mem_erase hn)
      omega
    by_cases hm : ((n : Int) + 1) ∈ L
    · rw [List.length_erase_of_mem hm] at h1
      omega
    · rw [List.erase_of_not_mem hm] at h1
      omega
theorem Bfs.len {S : Sto} {id : Int} {i : Nat} {L : List Int} (h : Bfs S id i L) (h0 : 0 ≤ id) : L.length ≤ id.toNat :=
  nodup_len h.nod fun x hx => by have := h.pos x hx; omega
theorem Bfs.snoc {S : Sto} {id : Int} {i : Nat} {L : List Int} (h : Bfs S id i L) (hi : i ≤ L.length) {x z : Int} (hx : x ∉ L) (h1 : 1 ≤ x) (h2 : x ≤ id) (hz : z ∈ L) (hr : x ∈ refsL (atE S.E z).r) : Bfs S id i (L ++ [x]) := by
  refine ⟨?_,?_,?_,by simp [h.top],?_⟩
  · rw [List.nodup_append]
    exact ⟨h.nod,by simp,fun a ha b hb => by rw [List.mem_singleton] at hb; subst hb; exact fun e => hx (e ▸ ha)⟩
  · intro y hy
    rcases List.mem_append.1 hy with hy | hy
    · exact h.pos y hy
    · rw [List.mem_singleton] at hy; subst hy; exact ⟨h1,h2⟩
  · intro j hj y hy
    rw [getD_append_left (by omega)] at hy
    exact List.mem_append_left _ (h.cls j hj y hy)
  · intro y hy hn
    rcases List.mem_append.1 hy with hy | hy
    · obtain ⟨w,hw,hwr⟩ := h.rea y hy hn
      exact ⟨w,List.mem_append_left _ hw,hwr⟩
    · rw [List.mem_singleton] at hy; subst hy
      exact ⟨z,List.mem_append_left _ hz,hr⟩
theorem Bfs.next {S : Sto} {id : Int} {i : Nat} {L : List Int} (h : Bfs S id i L) (hr : ∀ y ∈ refsL (atE S.E (L.getD i 0)).r,y ∈ L) : Bfs S id (i + 1) L :=
  ⟨h.nod,h.pos,fun j hj => by
    by_cases he : j = i
    · subst he; exact hr
    · exact h.cls j (by omega),h.top,h.rea⟩
theorem Bfs.done {S : Sto} {id : Int} {L : List Int} (h : Bfs S id L.length L) : Rch S id (L.mergeSort (· ≤ ·)) := by
  have hp : (L.mergeSort (· ≤ ·)).Perm L := List.mergeSort_perm L _
  have hs : (L.mergeSort (fun x y : Int => decide (x ≤ y))).Pairwise (fun a b => decide (a ≤ b) = true) :=
    List.pairwise_mergeSort (fun a b c h1 h2 => by simp at *; omega) (fun a b => by simp; omega) L
  have hn : (L.mergeSort (· ≤ ·)).Nodup := hp.nodup_iff.2 h.nod
  refine ⟨?_,fun x hx => h.pos x (hp.mem_iff.1 hx),fun x hx y hy => ?_,fun _ => hp.mem_iff.2 h.top,fun x hx hne => ?_⟩
  · refine (hs.and hn).imp ?_
    rintro a b ⟨h1,h2⟩
    have h1 : a ≤ b := by simpa using h1
    omega
  · have hx := hp.mem_iff.1 hx
    obtain ⟨h1,h2⟩ := idxOf_getD hx
    exact hp.mem_iff.2 (h.cls (L.idxOf x) h1 y (by rw [h2]; exact hy))
  · obtain ⟨z,hz,hr⟩ := h.rea x (hp.mem_iff.1 hx) hne
    exact ⟨z,hp.mem_iff.2 hz,hr⟩
theorem Rch.nil {S : Sto} : Rch S 0 [] := ⟨.nil,fun _ h => by simp at h,fun _ h => by simp at h,fun h => absurd rfl h,fun _ h => by simp at h⟩
end Go.Proofs.Ytoocnmfodhnpbaa
/- A row of one's own,sorted by the library. No condition. -/
namespace Go.EG
open Go Go.Sort
set_option linter.unusedVariables false
def SortsI (P : Program) (f : FuncId) : Prop :=
  ∀ (blk off cap : Nat) (zs : List Int) (w : World),Holds (Value.int .i64) w blk off zs.toArray → blk < w.heap.size → zs.length < 4611686018427387904 →
    Calls P f #[.slice (some ⟨blk,off,none⟩) zs.length cap] w fun e w' => e = .returned (.tuple #[]) ∧ ∃ n os,w' = grow (putRow (Value.int .i64) (Sort.ahead w n) blk off (zs.mergeSort fun x y => decide (x ≤ y)).toArray) os
theorem R_sorted {w0 w : World} {fp0 : List Nat} {L : List Ent} {key : Nat} {a : Option Addr} {n c T : Nat} {zs : List Int} (hR : R w0 fp0 L w) (hb : ownAt key L = some ⟨a,n,c,T,1,ints .i64 zs⟩) (hn : zs.length = n) (h0 : 0 < n) :
    ∃ blk,a = some ⟨blk,0,none⟩ ∧ Holds (Value.int .i64) w blk 0 zs.toArray ∧ blk < w.heap.size ∧
      ∀ m os,R w0 fp0 (setOwn key a n c (ints .i64 (zs.mergeSort fun x y => decide (x ≤ y))) L) (grow (putRow (Value.int .i64) (Sort.ahead w m) blk 0 (zs.mergeSort fun x y => decide (x ≤ y)).toArray) os) := by
  obtain ⟨L',h1,h2⟩ := ownAt_perm hb
  have hR' := hR.perm h1
  have hrow : w.ownsRow 0 T 1 (.slice a n c) n (ints .i64 zs) := hR'.ok (.own key a n c T 1 (ints .i64 zs)) (List.mem_cons_self ..)
  rcases hrow.2 with ⟨hv,h⟩ | ⟨g,cap,cur,hv,hbase,hg,r3,r4,r5,r6⟩
  · omega
  · simp only [Value.slice.injEq,true_and] at hv
    obtain ⟨rfl,rfl⟩ := hv
    subst hn
    have hlt : g < w.heap.size := (Array.getElem?_eq_some_iff.1 hg).1
    refine ⟨g,rfl,holds_of_blockI hg (by simpa [ints] using r6),hlt,fun m os => ?_⟩
    obtain ⟨g1,g2,g3,g4,g5⟩ := grownBy_sortedI (w := w) (g := g) (n := m) (os := os) (zs.mergeSort fun x y => decide (x ≤ y)).toArray
    refine (R.grow (e' := .own key (some ⟨g,0,none⟩) zs.length c T 1 (ints .i64 (zs.mergeSort fun x y => decide (x ≤ y)))) hR' (fun x hx => .inl hx) (by simp [Ent.fp,Value.ownBlock]) ?_ ?_ ?_ ?_ ?_ ?_).perm (h2 _ _ _ _).symm
    · exact ownsRow_sortedI (by simp) hbase hg r3 r4 r5
    · simp [grow,putRow,mapBlock,Sort.ahead]
    · rfl
    · rfl
    · rfl
    · intro b hb' hne
      exact g5 b hb' (by simpa [Ent.fp,Value.ownBlock,eq_comm] using hne)
theorem CallK_sort {P : Program} {w0 : World} {fp0 : List Nat} {L : List Ent} {f : FuncId} {key : Nat} {a : Option Addr} {n c T : Nat} {zs : List Int} {k : SV → List Ent → Prop} (hs : SortsI P f) (hb : ownAt key L = some ⟨a,n,c,T,1,ints .i64 zs⟩) (hn : zs.length = n) (h0 : 0 < n) (hsz : n < 4611686018427387904)
    (hk : k (.v (.tuple #[])) (setOwn key a n c (ints .i64 (zs.mergeSort fun x y => decide (x ≤ y))) L)) : CallK P w0 fp0 f [.slice a n c] L k := by
  intro w hR
  obtain ⟨blk,rfl,hH,hlt,hend⟩ := R_sorted hR hb hn h0
  subst hn
  exact (hs blk 0 c zs w hH hlt hsz).mono fun e w' ⟨he,m,os,hw⟩ => ⟨_,.v (.tuple #[]),_,he,rfl,hw ▸ hend m os,hk⟩
end Go.EG
/- Counts of letters,the first occurrence of a letter,of what a grammar derives. Plain Lean: no program in sight. -/
namespace Go.Proofs.Ytoocnmfodhnpbaa
open Go.EG
set_option linter.unusedSimpArgs false
set_option linter.unusedVariables false
structure Gr (g : List Rul) (ms : List Tm) : Prop where
  len : ms.length = g.length
  most : g.length ≤ 1048576
  ok : ∀ i,i < g.length → okR (g.getD i rul0) (i + 1)
  let_ : ∀ i,i < g.length → 0 ≤ (g.getD i rul0).l ∧ (g.getD i rul0).l < 256
  fit : ∀ i,i < g.length → 1 ≤ (ms.getD i .nil).len ∧ (ms.getD i .nil).len ≤ LM
  term : ∀ i,i < g.length → ms.getD i .nil = gT ms (g.getD i rul0)
theorem Gr.cases {g : List Rul} {ms : List Tm} (h : Gr g ms) {i : Nat} (hi : i < g.length) :
    (((g.getD i rul0).k = 1 ∧ (g.getD i rul0).a = 0 ∧ (g.getD i rul0).b = 0 ∧ ∃ l : Nat,l < 256 ∧ (g.getD i rul0).l = l ∧ mAt ms ((i : Int) + 1) = .lt l) ∨
     ((g.getD i rul0).k = 2 ∧ ∃ p q : Nat,p < i ∧ q < i ∧ (g.getD i rul0).a = (p : Int) + 1 ∧ (g.getD i rul0).b = (q : Int) + 1 ∧ mAt ms ((i : Int) + 1) = .pr (mAt ms ((p : Int) + 1)) (mAt ms ((q : Int) + 1)) ∧ (mAt ms ((p : Int) + 1)).len + (mAt ms ((q : Int) + 1)).len ≤ LM) ∨
     ((g.getD i rul0).k = 3 ∧ (g.getD i rul0).b = 0 ∧ ∃ p k : Nat,p < i ∧ 2 ≤ k ∧ (g.getD i rul0).a = (p : Int) + 1 ∧ (g.getD i rul0).t = (k : Int) ∧ mAt ms ((i : Int) + 1) = .pw (mAt ms ((p : Int) + 1)) k ∧ k * (mAt ms ((p : Int) + 1)).len ≤ LM)) ∧
    1 ≤ (mAt ms ((i : Int) + 1)).len ∧ (mAt ms ((i : Int) + 1)).len ≤ LM := by
  have e : mAt ms ((i : Int) + 1) = ms.getD i .nil := by
    unfold mAt
    rw [if_neg (by omega),show ((i : Int) + 1).toNat - 1 = i by omega]
  have ht := h.term i hi
  have ho := h.ok i hi
  have hl := h.let_ i hi
  have hf := h.fit i hi
  rw [← e] at ht hf
  refine ⟨?_,hf⟩
  generalize g.getD i rul0 = r at *
  unfold gT at ht
  rcases ho with ⟨h1,h2,h3,_⟩ | ⟨h1,h2,h3,h4,h5,h6,h7⟩ | ⟨h1,h2,h3,h4,h5,h6⟩
  · rw [if_pos h1] at ht
    exact .inl ⟨h1,h2,h3,r.l.toNat,by omega,by omega,ht⟩
  · rw [if_neg (by omega),if_pos h1] at ht
    refine .inr (.inl ⟨h1,(r.a - 1).toNat,(r.b - 1).toNat,by omega,by omega,by omega,by omega,?_,?_⟩)
    · rw [ht]; congr 2 <;> omega
    · have := hf.2
      rw [ht,Tm.len_pr] at this
      rw [show (((r.a - 1).toNat : Nat) : Int) + 1 = r.a by omega,show (((r.b - 1).toNat : Nat) : Int) + 1 = r.b by omega]
      exact this
  · rw [if_neg (by omega),if_neg (by omega)] at ht
    refine .inr (.inr ⟨h1,h3,(r.a - 1).toNat,r.t.toNat,by omega,by omega,by omega,by omega,?_,?_⟩)
    · rw [ht]; congr 2; omega
    · have := hf.2
      rw [ht,Tm.len_pw] at this
      rw [show (((r.a - 1).toNat : Nat) : Int) + 1 = r.a by omega]
      exact this
theorem Rch.gr {S : Sto} (hw : WF S) {id : Int} {L : List Int} (h : Rch S id L) (hk : id ≤ S.E.length) : Gr (xg S L) (L.map (tm S.E)) := by
  have hlen : L.length ≤ 1048576 := by
    have := hw.small
    rcases h.len with h | h
    · omega
    · rw [h]; simp
  refine ⟨by rw [xg_length,List.length_map],by rw [xg_length]; exact hlen,fun i hi => h.ok hw hk (by rwa [xg_length] at hi),fun i hi => h.let_ hw hk (by rwa [xg_length] at hi),fun i hi => ?_,fun i hi => ?_⟩
  · rw [xg_length] at hi
    obtain ⟨p1,p2⟩ := h.pos _ (getD_mem hi)
    rw [getD_map (d := 0) hi]
    exact ⟨hw.pos1 p1 (by omega),hw.le (by omega)⟩
  · rw [xg_length] at hi
    rw [getD_map (d := 0) hi,← h.term hw hk hi,xg,getD_map (d := 0) hi]
    have ho := h.ok hw hk hi
    rw [xg,getD_map (d := 0) hi] at ho
    have key : ∀ y : Int,y < (i : Int) + 1 → mAt ((L.take i).map (tm S.E)) y = mAt (L.map (tm S.E)) y := fun y hy => by
      conv => rhs; rw [← List.take_append_drop i L,List.map_append]
      unfold mAt
      split
      · rfl
      · rw [getD_append_left (by rw [List.length_map,List.length_take]; omega)]
    generalize ren L (atE S.E (L.getD i 0)).r = r at *
    unfold gT
    rcases ho with ⟨h1,h2,h3,_⟩ | ⟨h1,h2,h3,h4,h5,h6,h7⟩ | ⟨h1,h2,h3,h4,h5,h6⟩
    · rw [if_pos h1,if_pos h1]
    · rw [if_neg (by omega),if_pos h1,if_neg (by omega),if_pos h1,key _ h5,key _ h7]
    · rw [if_neg (by omega),if_neg (by omega),if_neg (by omega),if_neg (by omega),key _ h6]
theorem Rch.top_ {S : Sto} {id : Int} {L : List Int} (h : Rch S id L) (h0 : 0 ≤ id) : mAt (L.map (tm S.E)) L.length = tm S.E id := by
  by_cases hz : id = 0
  · subst hz
    have : L = [] := by
      cases hL : L with
      | nil => rfl
      | cons x t => exact absurd (h.pos x (by rw [hL]; simp)) (by omega)
    subst this; rfl
  · obtain ⟨h1,h2⟩ := h.last hz
    unfold mAt
    rw [if_neg (by omega),show ((L.length : Nat) : Int).toNat - 1 = L.length - 1 by omega,getD_map (d := 0) (by omega),h2]
def cnt (p : Nat → Bool) (t : List Nat) : Nat := t.countP p
theorem cnt_append (p : Nat → Bool) (s t : List Nat) : cnt p (s ++ t) = cnt p s + cnt p t := List.countP_append
theorem cnt_le (p : Nat → Bool) (t : List Nat) : cnt p t ≤ t.length := List.countP_le_length
theorem cnt_rep (p : Nat → Bool) (t : List Nat) : ∀ k,cnt p (rep k t) = k * cnt p t
  | 0 => by simp [rep,cnt]
  | k + 1 => by
    have := cnt_rep p t k
    rw [rep_succ,cnt_append,this,Nat.succ_mul,Nat.add_comm]
theorem cnt_one (p : Nat → Bool) (l : Nat) : cnt p [l] = if p l then 1 else 0 := by simp [cnt,List.countP_cons]
theorem cnt_nil (p : Nat → Bool) : cnt p [] = 0 := rfl
theorem cnt_take_pair (p : Nat → Bool) {s t : List Nat} {i : Nat} (h : s.length ≤ i) : cnt p ((s ++ t).take i) = cnt p s + cnt p (t.take (i - s.length)) := by
  rw [List.take_append,List.take_of_length_le h,cnt_append]
theorem take_pair_left {s t : List Nat} {i : Nat} (h : i ≤ s.length) : (s ++ t).take i = s.take i := by
  rw [List.take_append,show i - s.length = 0 by omega,List.take_zero,List.append_nil]
theorem take_rep {t : List Nat} {k i : Nat} (ht : 0 < t.length) (h : i < k * t.length) : (rep k t).take i = rep (i / t.length) t ++ t.take (i % t.length) := by
  have hq : i / t.length < k := (Nat.div_lt_iff_lt_mul ht).2 h
  have e := Nat.div_add_mod i t.length
  have hm := Nat.mod_lt i ht
  rw [Nat.mul_comm] at e
  have h1 : (rep k t).take i = (rep k t).take (i / t.length * t.length) ++ ((rep k t).drop (i / t.length * t.length)).take (i % t.length) := by
    rw [← List.take_add,e]
  rw [h1,rep_take_mul (by omega),rep_drop_mul (by omega)]
  congr 1
  obtain ⟨m,hm'⟩ : ∃ m,k - i / t.length = m + 1 := ⟨k - i / t.length - 1,by omega⟩
  rw [hm',rep_succ,take_pair_left (by omega)]
theorem cnt_take_rep (p : Nat → Bool) {t : List Nat} {k i : Nat} (ht : 0 < t.length) (h : i < k * t.length) : cnt p ((rep k t).take i) = i / t.length * cnt p t + cnt p (t.take (i % t.length)) := by
  rw [take_rep ht h,cnt_append,cnt_rep]
theorem cnt_sub (p : Nat → Bool) (t : List Nat) (i n : Nat) : cnt p (t.take (i + n)) = cnt p (t.take i) + cnt p (sub t i n) := by
  rw [List.take_add,cnt_append]; rfl
theorem idx_left {b : Nat} {s : List Nat} (h : b ∈ s) (t : List Nat) : (s ++ t).idxOf b = s.idxOf b := by rw [List.idxOf_append,if_pos h]
theorem idx_right {b : Nat} {s : List Nat} (h : b ∉ s) (t : List Nat) : (s ++ t).idxOf b = t.idxOf b + s.length := by rw [List.idxOf_append,if_neg h]
def fst1 (b : Nat) (t : List Nat) : Int := if b ∈ t then (t.idxOf b : Int) else -1
theorem fst1_pos {b : Nat} {t : List Nat} (h : b ∈ t) : fst1 b t = (t.idxOf b : Int) ∧ t.idxOf b < t.length := ⟨if_pos h,List.idxOf_lt_length_of_mem h⟩
theorem fst1_neg {b : Nat} {t : List Nat} (h : b ∉ t) : fst1 b t = -1 := if_neg h
theorem fst1_ge {b : Nat} {t : List Nat} : 0 ≤ fst1 b t ↔ b ∈ t := by
  unfold fst1
  split
  · rename_i h; exact ⟨fun _ => h,fun _ => by omega⟩
  · rename_i h; exact ⟨fun h0 => by omega,fun h0 => absurd h0 h⟩
theorem fst1_append (b : Nat) (s t : List Nat) : fst1 b (s ++ t) = if 0 ≤ fst1 b s then fst1 b s else if 0 ≤ fst1 b t then s.length + fst1 b t else -1 := by
  by_cases hs : b ∈ s
  · rw [if_pos (fst1_ge.2 hs),(fst1_pos hs).1,(fst1_pos (List.mem_append_left _ hs)).1,idx_left hs]
  · rw [if_neg (fun h => hs (fst1_ge.1 h))]
    by_cases ht : b ∈ t
    · rw [if_pos (fst1_ge.2 ht),(fst1_pos ht).1,(fst1_pos (List.mem_append_right _ ht)).1,idx_right hs]
      omega
    · rw [if_neg (fun h => ht (fst1_ge.1 h)),fst1_neg (by simp [hs,ht])]
theorem mem_rep {b : Nat} {t : List Nat} : ∀ {k : Nat},b ∈ rep k t ↔ 0 < k ∧ b ∈ t
  | 0 => by simp [rep]
  | k + 1 => by
    rw [rep_succ,List.mem_append,mem_rep]
    constructor
    · rintro (h | h)
      · exact ⟨by omega,h⟩
      · exact ⟨by omega,h.2⟩
    · exact fun h => .inl h.2
theorem fst1_rep (b : Nat) (t : List Nat) {k : Nat} (h : 0 < k) : fst1 b (rep k t) = fst1 b t := by
  obtain ⟨m,rfl⟩ : ∃ m,k = m + 1 := ⟨k - 1,by omega⟩
  by_cases ht : b ∈ t
  · rw [(fst1_pos ht).1,(fst1_pos (mem_rep.2 ⟨h,ht⟩)).1,rep_succ,idx_left ht]
  · rw [fst1_neg ht,fst1_neg (fun hm => ht (mem_rep.1 hm).2)]
def fin (b i base : Nat) (later : Int) (t : List Nat) : Int := if 0 ≤ fst1 b (t.drop i) then base + i + fst1 b (t.drop i) else later
def upto (f : Nat → Int) (k i : Nat) : List Int := (List.range (k + 1)).map fun x => if x ≤ i then f x else 0
theorem upto_length (f : Nat → Int) (k i : Nat) : (upto f k i).length = k + 1 := by simp [upto]
theorem upto_get {f : Nat → Int} {k i x : Nat} (h : x ≤ i) (hk : x ≤ k) : (ints .i64 (upto f k i))[x]? = some (.int .i64 (f x)) := by
  simp [upto,ints,List.getElem?_range,show x < k + 1 by omega,h]
theorem upto_next {f : Nat → Int} {k i : Nat} : (upto f k i).set (i + 1) (f (i + 1)) = upto f k (i + 1) := by
  refine List.ext_getElem (by simp [upto]) fun x h1 h2 => ?_
  rw [List.getElem_set]
  simp only [upto,List.getElem_map,List.getElem_range]
  by_cases hx : i + 1 = x
  · subst hx; simp
  · rw [if_neg hx]
    by_cases h : x ≤ i
    · rw [if_pos h,if_pos (by omega)]
    · rw [if_neg h,if_neg (by omega)]
theorem upto_stay {f : Nat → Int} {k i : Nat} (h : f (i + 1) = 0) : upto f k i = upto f k (i + 1) := by
  refine List.ext_getElem (by simp [upto]) fun x h1 h2 => ?_
  simp only [upto,List.getElem_map,List.getElem_range]
  by_cases hx : x = i + 1
  · subst hx; rw [if_neg (by omega),if_pos (by omega),h]
  · by_cases h : x ≤ i
    · rw [if_pos h,if_pos (by omega)]
    · rw [if_neg h,if_neg (by omega)]
theorem upto_zero {f : Nat → Int} {k : Nat} (h : f 0 = 0) : List.replicate (k + 1) 0 = upto f k 0 := by
  refine List.ext_getElem (by simp [upto]) fun x h1 h2 => ?_
  simp only [upto,List.getElem_map,List.getElem_range,List.getElem_replicate]
  by_cases hx : x ≤ 0
  · rw [if_pos hx,show x = 0 by omega,h]
  · rw [if_neg hx]
theorem upto_set {f : Nat → Int} {k i : Nat} (h : i + 1 ≤ k) {v : Int} (hv : v = f (i + 1)) : splice (ints .i64 (upto f k i)) (i + 1) [.int .i64 v] = ints .i64 (upto f k (i + 1)) := by
  rw [splice_ints (by rw [upto_length]; omega),hv,upto_next]
theorem upto_len {f : Nat → Int} {k i x : Nat} (h : x ≤ k) : x + 1 ≤ (ints .i64 (upto f k i)).length := by rw [ints_length,upto_length]; omega
def rowN (ms : List Tm) (x : Nat) : Int := ((mAt ms x).len : Nat)
def rowF (b : Nat) (ms : List Tm) (x : Nat) : Int := if x = 0 then 0 else fst1 b (mAt ms x).txt
def rowC (p : Nat → Bool) (ms : List Tm) (x : Nat) : Int := (cnt p (mAt ms x).txt : Nat)
theorem rowN_zero (ms : List Tm) : rowN ms 0 = 0 := rfl
theorem rowC_zero (p : Nat → Bool) (ms : List Tm) : rowC p ms 0 = 0 := rfl
theorem rowF_succ (b : Nat) (ms : List Tm) (x : Nat) : rowF b ms (x + 1) = fst1 b (mAt ms ((x : Int) + 1)).txt := by
  unfold rowF
  rw [if_neg (by omega)]
  congr 3
theorem rowN_succ (ms : List Tm) (x : Nat) : rowN ms (x + 1) = ((mAt ms ((x : Int) + 1)).len : Nat) := by
  unfold rowN
  congr 3
theorem rowC_succ (p : Nat → Bool) (ms : List Tm) (x : Nat) : rowC p ms (x + 1) = (cnt p (mAt ms ((x : Int) + 1)).txt : Nat) := by
  unfold rowC
  congr 3
theorem Gr.rows {g : List Rul} {ms : List Tm} (h : Gr g ms) (b : Nat) (p : Nat → Bool) {i : Nat} (hi : i < g.length) :
    ((g.getD i rul0).k = 1 ∧ ∃ l : Nat,l < 256 ∧ (g.getD i rul0).l = l ∧ rowN ms (i + 1) = 1 ∧ rowF b ms (i + 1) = (if l = b then 0 else -1) ∧ rowC p ms (i + 1) = (if p l then 1 else 0)) ∨
    ((g.getD i rul0).k = 2 ∧ ∃ x y : Nat,x < i ∧ y < i ∧ (g.getD i rul0).a = (x : Int) + 1 ∧ (g.getD i rul0).b = (y : Int) + 1 ∧ rowN ms (i + 1) = rowN ms (x + 1) + rowN ms (y + 1) ∧ rowF b ms (i + 1) = (if 0 ≤ rowF b ms (x + 1) then rowF b ms (x + 1) else if 0 ≤ rowF b ms (y + 1) then rowN ms (x + 1) + rowF b ms (y + 1) else -1) ∧ rowC p ms (i + 1) = rowC p ms (x + 1) + rowC p ms (y + 1)) ∨
    ((g.getD i rul0).k = 3 ∧ ∃ x k : Nat,x < i ∧ 2 ≤ k ∧ (g.getD i rul0).a = (x : Int) + 1 ∧ (g.getD i rul0).t = (k : Int) ∧ rowN ms (i + 1) = rowN ms (x + 1) * k ∧ rowF b ms (i + 1) = rowF b ms (x + 1) ∧ rowC p ms (i + 1) = rowC p ms (x + 1) * k) := by
  obtain ⟨hc,_⟩ := h.cases hi
  rcases hc with ⟨h1,_,_,l,h2,h3,h4⟩ | ⟨h1,x,y,h2,h3,h4,h5,h6,_⟩ | ⟨h1,_,x,k,h2,h3,h4,h5,h6,_⟩
  · refine .inl ⟨h1,l,h2,h3,?_,?_,?_⟩
    · rw [rowN_succ,h4]; rfl
    · rw [rowF_succ,h4]
      by_cases hl : l = b
      · rw [if_pos hl,hl]; simp [fst1,Tm.txt]
      · rw [if_neg hl]; exact fst1_neg (by simp [Tm.txt]; exact Ne.symm hl)
    · rw [rowC_succ,h4,Tm.txt,cnt_one]; split <;> rfl
  · refine .inr (.inl ⟨h1,x,y,h2,h3,h4,h5,?_,?_,?_⟩)
    · rw [rowN_succ,rowN_succ,rowN_succ,h6,Tm.len_pr]; push_cast; rfl
    · rw [rowF_succ,rowF_succ,rowF_succ,rowN_succ,h6,Tm.txt,fst1_append]; rfl
    · rw [rowC_succ,rowC_succ,rowC_succ,h6,Tm.txt,cnt_append]; push_cast; rfl
  · refine .inr (.inr ⟨h1,x,k,h2,h3,h4,h5,?_,?_,?_⟩)
    · rw [rowN_succ,rowN_succ,h6,Tm.len_pw]; push_cast; rw [Int.mul_comm]
    · rw [rowF_succ,rowF_succ,h6,Tm.txt,fst1_rep _ _ (by omega)]
    · rw [rowC_succ,rowC_succ,h6,Tm.txt,cnt_rep]; push_cast; rw [Int.mul_comm]
theorem Gr.rowN_le {g : List Rul} {ms : List Tm} (h : Gr g ms) {i : Nat} (hi : i < g.length) : 1 ≤ rowN ms (i + 1) ∧ rowN ms (i + 1) ≤ 1152921504606846976 := by
  have h2 := (h.cases hi).2
  rw [rowN_succ]
  have : (mAt ms ((i : Int) + 1)).len ≤ 1152921504606846976 := h2.2
  omega
theorem rowC_le (p : Nat → Bool) (ms : List Tm) (x : Nat) : 0 ≤ rowC p ms x ∧ rowC p ms x ≤ rowN ms x := by
  unfold rowC rowN Tm.len
  have := cnt_le p (mAt ms x).txt
  omega
end Go.Proofs.Ytoocnmfodhnpbaa
/- Sets of letters: the program. -/
namespace Go.Proofs.Ytoocnmfodhnpbaa
open Go.EG
attribute [local irreducible] CallK QCall Go.Calls
set_option linter.unusedSimpArgs false
set_option linter.unusedVariables false
set_option maxRecDepth 20000
set_option maxHeartbeats 4000000
structure Let4 where
  s0 : Nat
  s1 : Nat
  s2 : Nat
  s3 : Nat
abbrev l4C (s : Let4) : List Value := [.int .u64 s.s0,.int .u64 s.s1,.int .u64 s.s2,.int .u64 s.s3]
abbrev l4V (s : Let4) : Value := .agg #[.int .u64 s.s0,.int .u64 s.s1,.int .u64 s.s2,.int .u64 s.s3]
def Let4.w (s : Let4) (i : Nat) : Nat := if i = 0 then s.s0 else if i = 1 then s.s1 else if i = 2 then s.s2 else s.s3
def Let4.has (s : Let4) (b : Nat) : Bool := decide (s.w (b / 64) / 2 ^ (b % 64) % 2 = 1)
structure Let4.Ok (s : Let4) : Prop where
  h0 : s.s0 < 18446744073709551616
  h1 : s.s1 < 18446744073709551616
  h2 : s.s2 < 18446744073709551616
  h3 : s.s3 < 18446744073709551616
theorem l4div {x : Nat} (k : Nat) (h : x < 18446744073709551616) : (x : Int) / ((2 ^ k : Nat) : Int) = ((x / 2 ^ k : Nat) : Int) ∧ x / 2 ^ k < 18446744073709551616 :=
  ⟨by push_cast; rfl,Nat.lt_of_le_of_lt (Nat.div_le_self _ _) h⟩
theorem l4and (x : Nat) : (((x : Int).toNat &&& (1 : Int).toNat : Nat) : Int) = ((x % 2 : Nat) : Int) := by
  rw [Int.toNat_natCast,show (1 : Int).toNat = 1 from rfl,Nat.and_one_is_mod]
theorem Let4.has_i {s : Let4} {b i x : Nat} (h : b / 64 = i) (hx : s.w i = x) : s.has b = decide (x / 2 ^ (b % 64) % 2 = 1) := by
  unfold Let4.has
  rw [h,hx]
theorem calls_Has (s : Let4) (hs : s.Ok) (b : Nat) (hb : b < 256) (w : World) : Calls Try.prog fn_letterset_Has #[l4V s,.int .u8 b] w fun e w' => e = .returned (.bool (s.has b)) ∧ Ext w w' := by
  refine pure_call [.v (l4V s),.v (.int .u8 b)] w ok_letterset_Has (by simp) ?_
  have h4 : b / 64 = 0 ∨ b / 64 = 1 ∨ b / 64 = 2 ∨ b / 64 = 3 := by omega
  have hm : ((b : Int) % 64).toNat = b % 64 := by omega
  have hm0 : (b : Int).tmod 64 = (b : Int) % 64 := Int.tmod_eq_emod_of_nonneg (by omega)
  have hbk : 0 ≤ (b : Int) % 64 ∧ (b : Int) % 64 ≤ biK .u64 := ⟨by omega,show (b : Int) % 64 ≤ 64 by omega⟩
  rcases h4 with h4 | h4 | h4 | h4
  · have e : ((b : Int) / 64).toNat = 0 := by omega
    obtain ⟨q1,q2⟩ := l4div (b % 64) hs.h0
    rw [Let4.has_i h4 (x := s.s0) (by simp [Let4.w])]
    generalize s.s0 / 2 ^ (b % 64) = y at *
    have q3 := l4and y
    (repeat' ((conv => whnf); first | rw [e] | rw [hm] | rw [q1] | (refine bcase_prop (fun h => ?_) (fun h => ?_) <;> try (exfalso; omega)) | (refine bcase_nprop (fun h => ?_) (fun h => ?_) <;> try (exfalso; omega)) | (refine bcase_intro (fun h => ?_) (fun h => ?_) <;> (try simp only [Bool.not_eq_true',Bool.not_eq_false',decide_eq_true_eq,decide_eq_false_iff_not,Bool.not_eq_true,Bool.not_eq_false,Decidable.not_not] at h)) | refine pay ?_ | refine And.intro (by first | exact hbk) ?_ | intro _)); (all_goals (conv => whnf))
    refine ⟨?_⟩
    show Value.bool _ = _
    rw [q3]
    congr 1
    rw [decide_eq_decide]
    omega
  · have e : ((b : Int) / 64).toNat = 1 := by omega
    obtain ⟨q1,q2⟩ := l4div (b % 64) hs.h1
    rw [Let4.has_i h4 (x := s.s1) (by simp [Let4.w])]
    generalize s.s1 / 2 ^ (b % 64) = y at *
    have q3 := l4and y
    (repeat' ((conv => whnf); first | rw [e] | rw [hm] | rw [q1] | (refine bcase_prop (fun h => ?_) (fun h => ?_) <;> try (exfalso; omega)) | (refine bcase_nprop (fun h => ?_) (fun h => ?_) <;> try (exfalso; omega)) | (refine bcase_intro (fun h => ?_) (fun h => ?_) <;> (try simp only [Bool.not_eq_true',Bool.not_eq_false',decide_eq_true_eq,decide_eq_false_iff_not,Bool.not_eq_true,Bool.not_eq_false,Decidable.not_not] at h)) | refine pay ?_ | refine And.intro (by first | exact hbk) ?_ | intro _)); (all_goals (conv => whnf))
    refine ⟨?_⟩
    show Value.bool _ = _
    rw [q3]
    congr 1
    rw [decide_eq_decide]
    omega
  · have e : ((b : Int) / 64).toNat = 2 := by omega
    obtain ⟨q1,q2⟩ := l4div (b % 64) hs.h2
    rw [Let4.has_i h4 (x := s.s2) (by simp [Let4.w])]
    generalize s.s2 / 2 ^ (b % 64) = y at *
    have q3 := l4and y
    (repeat' ((conv => whnf); first | rw [e] | rw [hm] | rw [q1] | (refine bcase_prop (fun h => ?_) (fun h => ?_) <;> try (exfalso; omega)) | (refine bcase_nprop (fun h => ?_) (fun h => ?_) <;> try (exfalso; omega)) | (refine bcase_intro (fun h => ?_) (fun h => ?_) <;> (try simp only [Bool.not_eq_true',Bool.not_eq_false',decide_eq_true_eq,decide_eq_false_iff_not,Bool.not_eq_true,Bool.not_eq_false,Decidable.not_not] at h)) | refine pay ?_ | refine And.intro (by first | exact hbk) ?_ | intro _)); (all_goals (conv => whnf))
    refine ⟨?_⟩
    show Value.bool _ = _
    rw [q3]
    congr 1
    rw [decide_eq_decide]
    omega
  · have e : ((b : Int) / 64).toNat = 3 := by omega
    obtain ⟨q1,q2⟩ := l4div (b % 64) hs.h3
    rw [Let4.has_i h4 (x := s.s3) (by simp [Let4.w])]
    generalize s.s3 / 2 ^ (b % 64) = y at *
    have q3 := l4and y
    (repeat' ((conv => whnf); first | rw [e] | rw [hm] | rw [q1] | (refine bcase_prop (fun h => ?_) (fun h => ?_) <;> try (exfalso; omega)) | (refine bcase_nprop (fun h => ?_) (fun h => ?_) <;> try (exfalso; omega)) | (refine bcase_intro (fun h => ?_) (fun h => ?_) <;> (try simp only [Bool.not_eq_true',Bool.not_eq_false',decide_eq_true_eq,decide_eq_false_iff_not,Bool.not_eq_true,Bool.not_eq_false,Decidable.not_not] at h)) | refine pay ?_ | refine And.intro (by first | exact hbk) ?_ | intro _)); (all_goals (conv => whnf))
    refine ⟨?_⟩
    show Value.bool _ = _
    rw [q3]
    congr 1
    rw [decide_eq_decide]
    omega
theorem calls_r16Has (s : Let4) (hs : s.Ok) (b : Nat) (hb : b < 256) (w : World) : Calls Try.prog fn_evergreenref16_Has #[l4V s,.int .u8 b] w fun e w' => e = .returned (.bool (s.has b)) ∧ Ext w w' := by
  refine pure_call [.v (l4V s),.v (.int .u8 b)] w ok_evergreenref16_Has (by simp) ?_
  have h4 : b / 64 = 0 ∨ b / 64 = 1 ∨ b / 64 = 2 ∨ b / 64 = 3 := by omega
  have hm : ((b : Int) % 64).toNat = b % 64 := by omega
  have hm0 : (b : Int).tmod 64 = (b : Int) % 64 := Int.tmod_eq_emod_of_nonneg (by omega)
  have hbk : 0 ≤ (b : Int) % 64 ∧ (b : Int) % 64 ≤ biK .u64 := ⟨by omega,show (b : Int) % 64 ≤ 64 by omega⟩
  rcases h4 with h4 | h4 | h4 | h4
  · have e : ((b : Int) / 64).toNat = 0 := by omega
    obtain ⟨q1,q2⟩ := l4div (b % 64) hs.h0
    rw [Let4.has_i h4 (x := s.s0) (by simp [Let4.w])]
    generalize s.s0 / 2 ^ (b % 64) = y at *
    (repeat' ((conv => whnf); first | rw [e] | rw [hm] | rw [q1] | (refine bcase_prop (fun h => ?_) (fun h => ?_) <;> try (exfalso; omega)) | (refine bcase_nprop (fun h => ?_) (fun h => ?_) <;> try (exfalso; omega)) | (refine bcase_intro (fun h => ?_) (fun h => ?_) <;> (try simp only [Bool.not_eq_true',Bool.not_eq_false',decide_eq_true_eq,decide_eq_false_iff_not,Bool.not_eq_true,Bool.not_eq_false,Decidable.not_not] at h)) | refine pay ?_ | refine And.intro (by first | exact hbk) ?_ | intro _)); (all_goals (conv => whnf))
    refine ⟨?_⟩
    show Value.bool _ = _
    congr 1
    rw [decide_eq_decide]
    omega
  · have e : ((b : Int) / 64).toNat = 1 := by omega
    obtain ⟨q1,q2⟩ := l4div (b % 64) hs.h1
    rw [Let4.has_i h4 (x := s.s1) (by simp [Let4.w])]
    generalize s.s1 / 2 ^ (b % 64) = y at *
    (repeat' ((conv => whnf); first | rw [e] | rw [hm] | rw [q1] | (refine bcase_prop (fun h => ?_) (fun h => ?_) <;> try (exfalso; omega)) | (refine bcase_nprop (fun h => ?_) (fun h => ?_) <;> try (exfalso; omega)) | (refine bcase_intro (fun h => ?_) (fun h => ?_) <;> (try simp only [Bool.not_eq_true',Bool.not_eq_false',decide_eq_true_eq,decide_eq_false_iff_not,Bool.not_eq_true,Bool.not_eq_false,Decidable.not_not] at h)) | refine pay ?_ | refine And.intro (by first | exact hbk) ?_ | intro _)); (all_goals (conv => whnf))
    refine ⟨?_⟩
    show Value.bool _ = _
    congr 1
    rw [decide_eq_decide]
    omega
  · have e : ((b : Int) / 64).toNat = 2 := by omega
    obtain ⟨q1,q2⟩ := l4div (b % 64) hs.h2
    rw [Let4.has_i h4 (x := s.s2) (by simp [Let4.w])]
    generalize s.s2 / 2 ^ (b % 64) = y at *
    (repeat' ((conv => whnf); first | rw [e] | rw [hm] | rw [q1] | (refine bcase_prop (fun h => ?_) (fun h => ?_) <;> try (exfalso; omega)) | (refine bcase_nprop (fun h => ?_) (fun h => ?_) <;> try (exfalso; omega)) | (refine bcase_intro (fun h => ?_) (fun h => ?_) <;> (try simp only [Bool.not_eq_true',Bool.not_eq_false',decide_eq_true_eq,decide_eq_false_iff_not,Bool.not_eq_true,Bool.not_eq_false,Decidable.not_not] at h)) | refine pay ?_ | refine And.intro (by first | exact hbk) ?_ | intro _)); (all_goals (conv => whnf))
    refine ⟨?_⟩
    show Value.bool _ = _
    congr 1
    rw [decide_eq_decide]
    omega
  · have e : ((b : Int) / 64).toNat = 3 := by omega
    obtain ⟨q1,q2⟩ := l4div (b % 64) hs.h3
    rw [Let4.has_i h4 (x := s.s3) (by simp [Let4.w])]
    generalize s.s3 / 2 ^ (b % 64) = y at *
    (repeat' ((conv => whnf); first | rw [e] | rw [hm] | rw [q1] | (refine bcase_prop (fun h => ?_) (fun h => ?_) <;> try (exfalso; omega)) | (refine bcase_nprop (fun h => ?_) (fun h => ?_) <;> try (exfalso; omega)) | (refine bcase_intro (fun h => ?_) (fun h => ?_) <;> (try simp only [Bool.not_eq_true',Bool.not_eq_false',decide_eq_true_eq,decide_eq_false_iff_not,Bool.not_eq_true,Bool.not_eq_false,Decidable.not_not] at h)) | refine pay ?_ | refine And.intro (by first | exact hbk) ?_ | intro _)); (all_goals (conv => whnf))
    refine ⟨?_⟩
    show Value.bool _ = _
    congr 1
    rw [decide_eq_decide]
    omega
end Go.Proofs.Ytoocnmfodhnpbaa
