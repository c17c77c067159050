/- Machines that came in, small ones; a table of a store of results: the program. -/
import Derived.Test.YtoocnmfodhnpbaaK8
import Derived.Test.YtoocnmfodhnpbaaK9
import Derived.Test.YtoocnmfodhnpbaaK5
import Derived.Test.YtoocnmfodhnpbaaK2
import Derived.Test.YtoocnmfodhnpbaaRows
import Derived.Test.YtoocnmfodhnpbaaK4
import Derived.Test.YtoocnmfodhnpbaaK7
import Derived.Laws.IdiomArrays
import Derived.Shelf.SlGeneric
import Derived.Ground.SlgmProg
import Derived.Shelf.SortM.Plain
import Derived.Test.YtoocnmfodhnpbaaProg
import Derived.Shelf.SortM.SortNone
namespace Go.Proofs.Ytoocnmfodhnpbaa
open Go.EG
attribute [local irreducible] CallK QCall Go.Calls
set_option linter.unusedSimpArgs false
set_option linter.unusedVariables false
set_option maxRecDepth 20000
set_option maxHeartbeats 4000000
structure IA where
  m : MA
  H : List Int
  ha : Option Addr
  hc : Nat
  back : Bool
abbrev IA.cells (x : IA) : List Value := [.int .i64 x.m.start,.slice x.m.ca x.m.cls.length x.m.cc,.slice x.m.na x.m.nr.length x.m.nc,.slice x.m.aa x.m.acc.length x.m.ac,.slice x.ha x.H.length x.hc,.bool x.back]
abbrev IA.v (x : IA) : Value := .agg x.cells.toArray
structure IIn (w : World) (x : IA) : Prop where
  m : McI w [] x.m
  h : In w [] x.ha (ints .i64 x.H)
  ln : x.m.nr.length ≤ 9223372036854775807
  lr : ∀ r ∈ x.m.nr,r.xs.length ≤ 9223372036854775807
  lh : x.H.length ≤ 9223372036854775807
def Sml (x : IA) : Prop := x.m.nr.length ≤ 40 ∧ tabE x.m x.H = 0
def beg33Q (g : List Rul) (x : IA) (pick : Int) (D : Int → Prop) (v : Value) (L1 : List Ent) : Prop :=
  ∃ bt b a1 c1 a2 c2 fp1 fp2,v = .tuple #[pS bt,stV (gE g).length a1 c1 a2 c2,.int .i64 (gId g pick),.bool true] ∧ L1 = [packE 78 fp1 (fX bt b ⟨x.m.m,x.H,x.back,D⟩ (gS g).E),packE 77 fp2 (fS b (gS g)),.own 801 a1 (gE g).length c1 ty_api_Rule 5 (ruE (gE g)),.own 802 a2 (gE g).length c2 ty_int 1 (leE (gE g))]
theorem calls_begun33 (x : IA) (hs : Sml x) (D : Int → Prop) (g : List Rul) (hg : MIn g) (hl : g.length ≤ 40) (pick : Int) (hp : -9223372036854775808 ≤ pick ∧ pick ≤ 9223372036854775807) (a : Option Addr) (c : Nat) (w : World) (hx : IIn w x) (hin : In w [] a (rulsC g)) :
    Calls Try.prog fn_evergreenlaw33_begun #[x.v,.slice a g.length c,.int .i64 pick] w fun e w' => ∃ v L1,e = .returned v ∧ R w [] L1 w' ∧ beg33Q g x pick D v L1 := by
  refine new_call [.v x.v,.v (.slice a g.length c),.v (.int .i64 pick)] ok_evergreenlaw33_begun (by simp) ?_
  have c1 := fun w => calls_New 1000 77 w
  rw [show clipS 1000 = 1000 from rfl] at c1
  have c2 := fun b key fp w hR hin => calls_lBuildN b g hg hl a c key fp w hR hin
  have c3 := fun w h => calls_rBuild g hg hl a c w h
  have c4 := fun bs w' hm hh => calls_TabNew 78 bs D (gS g).E (w := w') x.m hm x.H x.ha x.hc hh x.back hs.2
  have p1 := calls_Pick pick (g.length + 1) (by omega) (by omega) hp
  have hres := (bst_all hg hl).len
  have i1 := pickF_lt (n := pick) (many := g.length + 1) (by omega)
  have r1 : (ints .i64 (buildF [] [0] g).2)[pickF pick (g.length + 1)]? = some (.int .i64 (gId g pick)) := ints_getD (by omega)
  have hxm := hx.m
  have hxh := hx.h
  clear hs hx
  obtain ⟨m,H,ha,hc,back⟩ := x
  dsimp only [IA.v,IA.cells] at *
  (repeat' ((conv => whnf); first | (refine CallK_new (fun w hR => c1 w) ?_; rintro _ _ ⟨bn,fpn,rfl,rfl⟩; refine ⟨.v _,rfl,?_⟩) | rw [Int.toNat_natCast] | rw [Nat.mul_one] | (first | refine puK p1 ?_ | refine quK p1 ?_) | refine ⟨_,rdO 804 rfl r1,?_⟩ | (refine CallK_pack (key := 77) rfl (fun w hR h0 => c2 _ _ _ _ h0 (inCast1 hin hR)) ?_; rintro _ _ ⟨a5,c5,fp5,hn5,rfl,rfl⟩; refine ⟨.v _,rfl,?_⟩) | ((refine CallK_new (fun w' hR => c4 _ w' (hxm.cast hR) (hxh.cast hR (by simp))) ?_); rintro _ _ ⟨bt,fpt,rfl,rfl⟩; refine ⟨.v _,rfl,?_⟩) | ((refine CallK_new (fun w hR => c3 w (hin.cast hR (by simp))) ?_); rintro _ _ ⟨a1,c1,a2,c2,a3,c3,rfl,rfl⟩; refine ⟨.v _,rfl,?_⟩) | refine ⟨_,⟨rfl,trivial⟩,?_⟩ | refine VC_drop 7 ?_ | (refine bcase_prop (fun h => ?_) (fun h => ?_) <;> try (exfalso; omega)) | (refine bcase_nprop (fun h => ?_) (fun h => ?_) <;> try (exfalso; omega)) | (refine bcase_intro (fun h => ?_) (fun h => ?_) <;> (try simp only [Bool.not_eq_true',Bool.not_eq_false',decide_eq_true_eq,decide_eq_false_iff_not,Bool.not_eq_true,Bool.not_eq_false,Decidable.not_not] at h)) | refine pay ?_ | refine And.intro (by first | exact hn5 | exact Thin.ref (by (repeat (first | exact Thin.nil _ | exact Thin.refl _ | refine Thin.keep rfl (fun _ h => h) ?_ | refine Thin.skip ?_)))) ?_ | intro _)); (all_goals (conv => whnf))
  all_goals first | (exfalso; omega) | skip
  exact ⟨⟨_,Ref.takes [78,77,801,802] rfl (.packE (.packE (.keep rfl (fun _ h => h) (.keep rfl (fun _ h => h) (.nil _))))),bt,_,a1,c1,a2,c2,_,_,rfl,rfl⟩⟩
end Go.Proofs.Ytoocnmfodhnpbaa
/- A table that came in: what the given statements say of it. No condition. -/
namespace Go.Proofs.Ytoocnmfodhnpbaa
open Go.ChangeShapes Go.WideShapes Go.ChangeAt Go.RowKit Go.EG
set_option linter.unusedVariables false
section
variable {H : Type} {enc : TypeId × Value → H} {w : World} {base : Nat} {spare : Nat → Bool} {held : Bool}
end
end Go.Proofs.Ytoocnmfodhnpbaa
/- The machine of a set of letters: the program. -/
namespace Go.Proofs.Ytoocnmfodhnpbaa
open Go.EG
attribute [local irreducible] CallK QCall Go.Calls
set_option linter.unusedSimpArgs false
set_option linter.unusedVariables false
set_option maxRecDepth 20000
set_option maxHeartbeats 4000000
def letR1 (f : Nat → Bool) (i : Nat) : List Int := (List.range 256).map fun j => if j < i ∧ f j = true then 1 else 0
theorem letR1_len (f : Nat → Bool) (i : Nat) : (letR1 f i).length = 256 := by simp [letR1]
theorem letR1_zero (f : Nat → Bool) : letR1 f 0 = List.replicate 256 0 := by
  unfold letR1
  rw [List.eq_replicate_iff]
  refine ⟨by simp,fun x hx => ?_⟩
  obtain ⟨j,_,rfl⟩ := List.mem_map.1 hx
  simp
theorem letR1_get (f : Nat → Bool) (i : Nat) {j : Nat} (h : j < 256) : (letR1 f i).getD j 0 = if j < i ∧ f j = true then 1 else 0 := by
  simp [letR1,List.getD_eq_getElem?_getD,List.getElem?_range h]
theorem letR1_no (f : Nat → Bool) {i : Nat} (hf : f i = false) : letR1 f (i + 1) = letR1 f i := by
  unfold letR1
  refine List.map_congr_left fun j _ => ?_
  by_cases h : j = i
  · subst h; simp [hf]
  · have : (j < i + 1) ↔ (j < i) := by omega
    simp [this]
theorem letR1_yes (f : Nat → Bool) {i : Nat} (hi : i < 256) (hf : f i = true) : (letR1 f i).set i 1 = letR1 f (i + 1) := by
  refine List.ext_getElem? fun j => ?_
  rw [List.getElem?_set]
  by_cases h : i = j
  · subst h
    rw [if_pos rfl,if_pos (by rw [letR1_len]; exact hi)]
    simp [letR1,List.getElem?_range hi,hf]
  · rw [if_neg h]
    unfold letR1
    rw [List.getElem?_map,List.getElem?_map]
    cases hj : (List.range 256)[j]? with
    | none => rfl
    | some v =>
      have hv : v = j := by
        have := List.getElem?_eq_some_iff.1 hj
        obtain ⟨h1,h2⟩ := this
        rw [List.getElem_range] at h2; exact h2.symm
      subst hv
      have : (v < i + 1) ↔ (v < i) := by omega
      simp [this]
def letM (f : Nat → Bool) : Mch := ⟨0,letR1 f 256,[[0,1],[0,1]],[false,true]⟩
theorem letM_ok (f : Nat → Bool) : MOk (letM f) 2 := by
  have hl : (letM f).nx.length = 2 := rfl
  have hs : (letM f).start = 0 := rfl
  refine ⟨letR1_len f 256,by omega,by omega,rfl,⟨by omega,by omega⟩,by omega,?_,?_⟩
  · intro r hr
    have : r = [0,1] := by simpa [letM] using hr
    subst this
    exact ⟨rfl,fun q hq => by simp at hq; omega⟩
  · intro c hc
    obtain ⟨j,_,rfl⟩ := List.mem_map.1 hc
    split <;> decide
theorem letM_chk (f : Nat → Bool) : chkM (letM f) = 0 := by
  have h := letM_ok f
  have hF : Frm (letM f) ((letM f).nx.getD 0 []).length := ⟨h.cls,h.pos,h.acc,h.start,h.k1,h.row,h.letter⟩
  rw [chkM_ok hF]; rfl
theorem letM_stp (f : Nat → Bool) {q b : Nat} (hq : q < 2) (hb : b < 256) : stp (letM f) q b = if f b = true then 1 else 0 := by
  have h1 : (letM f).cls.getD b 0 = if b < 256 ∧ f b = true then 1 else 0 := letR1_get f 256 hb
  have h2 : (letM f).nx.getD q [] = [0,1] := by
    rcases (show q = 0 ∨ q = 1 by omega) with rfl | rfl <;> rfl
  unfold stp
  rw [h1,h2]
  cases f b
  · rw [if_neg (by simp),if_neg (by simp)]; rfl
  · rw [if_pos ⟨hb,rfl⟩,if_pos rfl]; rfl
def newLM (key : Nat) (f : Nat → Bool) (v : Value) (L1 : List Ent) : Prop := ∃ y F,v = MA.v y ∧ L1 = [frE key F] ∧ MFz F y ∧ y.m = letM f
theorem calls_Letters33 (key : Nat) (s : Let4) (hs : s.Ok) (w : World) :
    Calls Try.prog fn_evergreenlaw33_Letters #[l4V s] w fun e w' => ∃ v L1,e = .returned v ∧ R w [] L1 w' ∧ newLM key s.has v L1 := by
  refine new_call [.v (l4V s)] ok_evergreenlaw33_Letters (by simp) ?_
  have z1 : (List.replicate 256 [Value.int .i64 0]).flatten = ints .i64 (letR1 s.has 0) := by
    rw [letR1_zero,← flat_zeros]
  (repeat' ((conv => whnf); first | refine ⟨_,⟨rfl,trivial⟩,?_⟩ | (refine bcase_prop (fun h => ?_) (fun h => ?_) <;> try (exfalso; omega)) | (refine bcase_nprop (fun h => ?_) (fun h => ?_) <;> try (exfalso; omega)) | (refine bcase_intro (fun h => ?_) (fun h => ?_) <;> (try simp only [Bool.not_eq_true',Bool.not_eq_false',decide_eq_true_eq,decide_eq_false_iff_not,Bool.not_eq_true,Bool.not_eq_false,Decidable.not_not] at h)) | refine pay ?_ | intro _)); (all_goals (conv => whnf))
  rename_i b1 b2 b5 b6 b7 b8 b9 b3
  refine VC_loop Nat (fun i => [(1,.ptr 1 b1 0),(2,.ptr 2 b2 0),(3,.ptr 3 b3 0),(11,.v (.int .i64 i))])
    (fun i => [.own 5 (some ⟨b5,0,none⟩) 256 256 ty_int 1 (ints .i64 (letR1 s.has i)),.own 6 (some ⟨b6,0,none⟩) 2 2 ty_int 1 (ints .i64 [0,1]),.own 7 (some ⟨b7,0,none⟩) 2 2 ty_int 1 (ints .i64 [0,1]),.own 8 (some ⟨b8,0,none⟩) 2 2 ty_Sl_int 1 [.slice (some ⟨b6,0,none⟩) 2 2,.slice (some ⟨b7,0,none⟩) 2 2],.own 9 (some ⟨b9,0,none⟩) 2 2 ty_bool 1 [.bool false,.bool true],.box 1 b1 [.int .u64 s.s0,.int .u64 s.s1,.int .u64 s.s2,.int .u64 s.s3] ty_api_Letters,.box 2 b2 [.int .i64 0,.slice none 0 0,.slice none 0 0,.slice none 0 0] ty_api_Machine,.box 3 b3 [.int .i64 0,.slice (some ⟨b5,0,none⟩) 256 256,.slice (some ⟨b8,0,none⟩) 2 2,.slice (some ⟨b9,0,none⟩) 2 2] ty_api_Machine])
    (fun i => i ≤ 256) (fun i => 256 - i) 0 (Nat.zero_le _) (by (repeat ((conv => whnf); refine And.intro (by first | exact rfl | exact vint_eq (by omega) | exact vint_eq (by (dsimp only; omega)) | exact vsl_eq (by omega) | exact vsl_eq (by first | (dsimp only; omega) | (simp; done) | (simp; omega))) ?_)); exact trivial) (Ref.takes [5,6,7,8,9,1,2,3] rfl (.own rfl z1 (Thin.refl _))) ?_
  intro i hi
  by_cases hlt : i < 256
  · have c1 := calls_r16Has s hs i hlt
    have m1 : (i : Int) % 256 = i := Int.emod_eq_of_lt (by omega) (by omega)
    have q0 : ((i : Nat) : Int).toNat = i := by omega
    have hll := letR1_len s.has i
    have bb : i + 1 ≤ (ints .i64 (letR1 s.has i)).length := by rw [ints_length]; omega
    cases hf : s.has i
    · rw [hf] at c1
      have hn := letR1_no s.has hf
      (repeat' ((conv => whnf); first | rw [m1] | rw [q0] | (first | refine puK c1 ?_ | refine quK c1 ?_) | refine ⟨_,⟨rfl,trivial⟩,?_⟩ | (refine bcase_prop (fun h => ?_) (fun h => ?_) <;> try (exfalso; omega)) | (refine bcase_nprop (fun h => ?_) (fun h => ?_) <;> try (exfalso; omega)) | (refine bcase_intro (fun h => ?_) (fun h => ?_) <;> (try simp only [Bool.not_eq_true',Bool.not_eq_false',decide_eq_true_eq,decide_eq_false_iff_not,Bool.not_eq_true,Bool.not_eq_false,Decidable.not_not] at h)) | refine pay ?_ | intro _)); (all_goals (conv => whnf))
      all_goals first | (exfalso; omega) | skip
      exact loop_next (i + 1) (by omega) (by omega) (by (repeat ((conv => whnf); refine And.intro (by first | exact rfl | exact vint_eq (by omega) | exact vint_eq (by (dsimp only; omega)) | exact vsl_eq (by omega) | exact vsl_eq (by first | (dsimp only; omega) | (simp; done) | (simp; omega))) ?_)); exact trivial) (Ref.takes [5,6,7,8,9,1,2,3] rfl (.own rfl (by rw [hn]) (Thin.refl _)))
    · rw [hf] at c1
      have hn := letR1_yes s.has hlt hf
      have s1 : splice (ints .i64 (letR1 s.has i)) i [.int .i64 1] = ints .i64 (letR1 s.has (i + 1)) := by rw [splice_ints (by omega),hn]
      (repeat' ((conv => whnf); first | rw [m1] | rw [q0] | rw [s1] | (first | refine puK c1 ?_ | refine quK c1 ?_) | refine ⟨.sl 5 _ _ _,⟨rfl,rfl,rfl,rfl⟩,?_⟩ | refine ⟨_,⟨rfl,trivial⟩,?_⟩ | (refine bcase_prop (fun h => ?_) (fun h => ?_) <;> try (exfalso; omega)) | (refine bcase_nprop (fun h => ?_) (fun h => ?_) <;> try (exfalso; omega)) | (refine bcase_intro (fun h => ?_) (fun h => ?_) <;> (try simp only [Bool.not_eq_true',Bool.not_eq_false',decide_eq_true_eq,decide_eq_false_iff_not,Bool.not_eq_true,Bool.not_eq_false,Decidable.not_not] at h)) | refine pay ?_ | refine And.intro (by first | exact ⟨rfl,bb⟩) ?_ | intro _)); (all_goals (conv => whnf))
      all_goals first | (exfalso; omega) | skip
      exact loop_next (i + 1) (by omega) (by omega) (by (repeat ((conv => whnf); refine And.intro (by first | exact rfl | exact vint_eq (by omega) | exact vint_eq (by (dsimp only; omega)) | exact vsl_eq (by omega) | exact vsl_eq (by first | (dsimp only; omega) | (simp; done) | (simp; omega))) ?_)); exact trivial) (Ref.takes [5,6,7,8,9,1,2,3] rfl (Thin.refl _))
  · obtain rfl : i = 256 := by omega
    (repeat' ((conv => whnf); first | refine ⟨_,⟨rfl,trivial⟩,?_⟩ | (refine bcase_prop (fun h => ?_) (fun h => ?_) <;> try (exfalso; omega)) | (refine bcase_nprop (fun h => ?_) (fun h => ?_) <;> try (exfalso; omega)) | (refine bcase_intro (fun h => ?_) (fun h => ?_) <;> (try simp only [Bool.not_eq_true',Bool.not_eq_false',decide_eq_true_eq,decide_eq_false_iff_not,Bool.not_eq_true,Bool.not_eq_false,Decidable.not_not] at h)) | refine pay ?_ | intro _)); (all_goals (conv => whnf))
    all_goals first | (exfalso; omega) | skip
    refine ⟨⟨_,((Ref.takes [5,6,7,8,9] rfl (Thin.refl _)).trans (Ref.freezeNew 79)).trans (((Ref.takes [5,79,6,7,8,9] rfl (Thin.refl _)).trans Ref.freezeRow).trans (((Ref.takes [6,79,7,8,9] rfl (Thin.refl _)).trans Ref.freezeRow).trans (((Ref.takes [7,79,8,9] rfl (Thin.refl _)).trans Ref.freezeRow).trans (((Ref.takes [8,79,9] rfl (Thin.refl _)).trans Ref.freezeRow).trans (((Ref.takes [9,79] rfl (Thin.refl _)).trans Ref.freezeRow).trans (Thin.ref (Thin.abs (k' := key) (.nil _)))))))),
      ⟨0,letR1 s.has 256,some ⟨b5,0,none⟩,256,[⟨[0,1],some ⟨b6,0,none⟩,2⟩,⟨[0,1],some ⟨b7,0,none⟩,2⟩],some ⟨b8,0,none⟩,2,[false,true],some ⟨b9,0,none⟩,2⟩,_,?_,rfl,⟨?_,?_,?_,?_⟩,?_⟩⟩
    · dsimp only [MA.v,MA.cells]; rw [letR1_len]; rfl
    · exact FIn.head.tail.tail.tail.tail
    · exact FIn.head.tail
    · exact FIn.head
    · intro r hr
      simp only [List.mem_cons,List.not_mem_nil,or_false] at hr
      rcases hr with rfl | rfl
      · exact FIn.head.tail.tail.tail
      · exact FIn.head.tail.tail
    · rfl
end Go.Proofs.Ytoocnmfodhnpbaa
/- The example of the chapter: the program. -/
namespace Go.Proofs.Ytoocnmfodhnpbaa
open Go.EG
attribute [local irreducible] CallK QCall Go.Calls
set_option linter.unusedSimpArgs false
set_option linter.unusedVariables false
set_option maxRecDepth 20000
set_option maxHeartbeats 4000000
theorem letM_E (f : Nat → Bool) : ∀ (t : List Nat) (q : Nat),q < 2 → (∀ b ∈ t,b < 256) → runE (letM f) q t = match t.getLast? with | none => q | some b => if f b = true then 1 else 0
  | [],q,_,_ => rfl
  | [b],q,hq,hb => by
    show stp (letM f) q b = _
    rw [letM_stp f hq (hb b (by simp))]; rfl
  | b :: c :: t,q,hq,hb => by
    show runE (letM f) (stp (letM f) q b) (c :: t) = _
    have hs : stp (letM f) q b < 2 := by
      rw [letM_stp f hq (hb b (by simp))]; split <;> decide
    rw [letM_E f (c :: t) _ hs (fun x hx => hb x (List.mem_cons_of_mem _ hx))]
    rw [List.getLast?_cons_cons]
    cases h : (c :: t).getLast? with
    | none => simp at h
    | some z => rfl
theorem letM_H (f : Nat → Bool) (h : Nat) : ∀ (t : List Nat) (q : Nat),q < 2 → (∀ b ∈ t,b < 256) → runH (letM f) [0,(h : Int)] q t = h * t.countP f
  | [],q,_,_ => by simp [runH]
  | b :: t,q,hq,hb => by
    have hs : stp (letM f) q b < 2 := by
      rw [letM_stp f hq (hb b (by simp))]; split <;> decide
    show (([0,(h : Int)] : List Int).getD (stp (letM f) q b) 0).toNat + runH (letM f) [0,(h : Int)] (stp (letM f) q b) t = _
    rw [letM_H f h t _ hs (fun x hx => hb x (List.mem_cons_of_mem _ hx)),letM_stp f hq (hb b (by simp)),List.countP_cons]
    cases f b
    · simp
    · simp [Nat.mul_add,Nat.add_comm]
def allD (S : Sto) (i : Int) : Prop := 1 ≤ i ∧ i ≤ S.E.length
theorem allD_clo {S : Sto} (hw : WF S) : Clo S (allD S) := by
  intro i h
  obtain ⟨ho,_⟩ := hw.at_ h.1 h.2
  unfold allD at *
  refine ⟨h.1,h.2,fun hk => ?_,fun hk => ?_⟩
  · rcases ho with ho | ho | ho <;> omega
  · rcases ho with ho | ho | ho <;> omega
theorem allD_known {S : Sto} {n : Int} : n = 0 ∨ ¬ known S n ∨ allD S n := by
  by_cases h : known S n
  · by_cases h0 : n = 0
    · exact .inl h0
    · have := h.1
      exact .inr (.inr ⟨by omega,h.2⟩)
  · exact .inr (.inl h)
def gB : List Rul := [⟨1,97,0,0,0⟩,⟨1,98,0,0,0⟩,⟨2,0,1,2,0⟩,⟨3,0,1,0,2⟩,⟨2,0,3,4,0⟩]
abbrev tB : Tm := .pr (.pr (.lt 97) (.lt 98)) (.pw (.lt 97) 2)
theorem gB_chk : chk 1 gB = 0 := by decide
theorem gB_rul : ∀ i,i < gB.length → okR (gB.getD i rul0) (i + 1) := fun i hi => by
  have := (chk_zero.1 gB_chk) i hi
  rwa [show (1 : Int) + (i : Int) = i + 1 by omega] at this
theorem gB_let : ∀ i,i < gB.length → 0 ≤ (gB.getD i rul0).l ∧ (gB.getD i rul0).l < 256 := by decide
theorem gB_gram : Gram gB := ⟨gB_rul,gB_let,by decide⟩
theorem gB_imp : ∃ S to,stImp ⟨10,[]⟩ [0] gB = some (S,to) ∧ WF S ∧ known S (to.getD 5 0) ∧ tm S.E (to.getD 5 0) = tB := by
  obtain ⟨S,to,h1,h2,_,h4,_⟩ := stImp_ok (g := gB) (WF.new 10 (by decide)) (Rel.start _) (fun i hi => by
    have := gB_rul i hi
    rwa [show (([] : List Tm).length : Int) + 1 + (i : Int) = i + 1 by simp; omega]) gB_let (by decide) (by decide)
  obtain ⟨a,b,c⟩ := h4.at_ 5 (by decide) (by decide)
  exact ⟨S,to,h1,h2,⟨by omega,b⟩,c⟩
def sB : Let4 := ⟨0,8589934592,0,0⟩
theorem sB_ok : sB.Ok := ⟨by decide,by decide,by decide,by decide⟩
theorem tabE_let {y : MA} {f : Nat → Bool} (hy : y.m = letM f) {h : Int} (hh : 0 ≤ h ∧ h ≤ 1048576) : tabE y [0,h] = 0 := by
  refine tabE_ok (by rw [hy]; exact letM_chk f) ⟨?_,by simp; omega⟩
  have : y.m.nx.length = y.nr.length := List.length_map ..
  rw [← this,hy]; rfl
theorem MFz.in_ {w0 w : World} {fp0 : List Nat} {L Lr : List Ent} {key : Nat} {F : List Frz} {x : MA} (hR : R w0 fp0 L w) (hm : pickE key L = some (frE key F,Lr)) (h : MFz F x) : McI w [] x := by
  have hm' := (pickE_perm hm).mem_iff.2 (List.mem_cons_self (a := frE key F) (l := Lr))
  exact ⟨FIn.in_ hR hm' h.cls,FIn.in_ hR hm' h.nx,FIn.in_ hR hm' h.acc,fun r hr => FIn.in_ hR hm' (h.row r hr)⟩
theorem calls_awake33 (w : World) : Calls Try.prog fn_evergreenlaw33_awake #[] w fun e w' => e = .returned (.bool true) ∧ Ext w w' := by
  refine pure_call [] w ok_evergreenlaw33_awake (by simp) ?_
  have c1 := fun w => calls_New 10 77 w
  rw [show clipS 10 = 10 from rfl] at c1
  obtain ⟨S,to,himp,hw,hk,ht⟩ := gB_imp
  have c2 := fun b key fp w hR a c hin => calls_Import b ⟨10,[]⟩ (WF.new 10 (by decide)) gB gB_gram S to himp (by decide) a c key fp w hR hin
  have hl : gB.length = 5 := rfl
  rw [hl] at c2
  generalize to.getD 5 0 = n at *
  have c3 := fun w => calls_Letters33 79 sB sB_ok w
  have hT : TbOk ⟨letM sB.has,[0,1],false,allD S⟩ 2 := ⟨letM_ok _,rfl,fun h hh => by simp at hh; omega⟩
  have q0 : askOk ⟨letM sB.has,[0,1],false,allD S⟩ S n 0 := ⟨hk,by decide,by show (0 : Int) < ((2 : Nat) : Int); decide⟩
  have c5 := fun bt b => calls_THits bt b ⟨letM sB.has,[0,1],false,allD S⟩ hT S hw (allD_clo hw) n 0 allD_known
  have c6 := fun bt b => calls_TPart bt b ⟨letM sB.has,[0,1],false,allD S⟩ hT S hw (allD_clo hw) n 1 2 0 allD_known
  have r1 : runH (letM sB.has) [0,1] 0 (ori false tB.txt) = 3 := by
    have := letM_H sB.has 1 tB.txt 0 (by decide) (by decide)
    exact this.trans (by decide)
  have r2 : runH (letM sB.has) [0,1] 0 (ori false ((tB.txt.drop 1).take 2)) = 1 := by
    have := letM_H sB.has 1 ((tB.txt.drop 1).take 2) 0 (by decide) (by decide)
    exact this.trans (by decide)
  have r3 : runE (letM sB.has) 0 (ori false ((tB.txt.drop 1).take 2)) = 1 := by
    have := letM_E sB.has ((tB.txt.drop 1).take 2) 0 (by decide) (by decide)
    exact this.trans (by decide)
  have e5 : hitV ⟨letM sB.has,[0,1],false,allD S⟩ S n 0 = .tuple #[.int .i64 3,.nilIface] := by
    unfold hitV
    rw [if_pos q0,ht]
    dsimp only
    rw [show (0 : Int).toNat = 0 from rfl,r1,if_pos (by decide)]; rfl
  have e6 : prtV ⟨letM sB.has,[0,1],false,allD S⟩ S n 1 2 0 = .tuple #[.int .i64 1,.int .i64 1,.nilIface] := by
    unfold prtV
    rw [if_pos q0,ht,if_pos (by decide)]
    dsimp only
    rw [show (0 : Int).toNat = 0 from rfl,show (1 : Int).toNat = 1 from rfl,show (2 : Int).toNat = 2 from rfl,r2,r3,if_pos (by decide)]; rfl
  simp only [e5] at c5
  simp only [e6] at c6
  have c4 := fun bs (y : MA) (hy : y.m = letM sB.has) (w' : World) hm ha hc hh => calls_TabNew 78 bs (allD S) S.E (w := w') y hm [0,1] ha hc hh false (tabE_let (f := sB.has) hy (by decide))
  have c4 := fun bs (y : MA) (hy : y.m = letM sB.has) (w' : World) hm ha hc hh => by
    have := c4 bs y hy w' hm ha hc hh
    rw [hy] at this
    exact this
  (repeat' ((conv => whnf); first | (refine CallK_new (fun w hR => c1 w) ?_; rintro _ _ ⟨bn,fpn,rfl,rfl⟩; refine ⟨.v _,rfl,?_⟩) | (refine CallK_pack (key := 77) rfl (fun w hR h0 => c2 _ _ _ _ h0 _ _ (In.beside (key := 22) hR rfl)) ?_; rintro _ _ ⟨rfl,fp',rfl⟩; refine ⟨.v _,rfl,?_⟩) | ((refine CallK_new (fun w' hR => c3 w') ?_); rintro _ _ ⟨y,F,rfl,rfl,hF,hy⟩; refine ⟨.v _,rfl,?_⟩) | ((refine CallK_new (fun w' hR => c4 _ y hy w' (hF.in_ (key := 79) hR rfl) _ _ (In.ownR (key := 31) hR rfl)) ?_); rintro _ _ ⟨bt,fpt,rfl,rfl⟩; refine ⟨.v _,rfl,?_⟩) | (refine CallK_pack2 (key1 := 78) (key2 := 77) rfl rfl (fun w hR h0 => c5 _ _ _ _ _ _ _ h0) ?_; rintro _ _ ⟨rfl,fp1',fp2',rfl⟩; refine ⟨.v _,rfl,?_⟩) | (refine CallK_pack2 (key1 := 78) (key2 := 77) rfl rfl (fun w hR h0 => c6 _ _ _ _ _ _ _ h0) ?_; rintro _ _ ⟨rfl,fp1',fp2',rfl⟩; refine ⟨.v _,rfl,?_⟩) | refine ⟨_,⟨rfl,trivial⟩,?_⟩ | (refine bcase_prop (fun h => ?_) (fun h => ?_) <;> try (exfalso; omega)) | (refine bcase_nprop (fun h => ?_) (fun h => ?_) <;> try (exfalso; omega)) | (refine bcase_intro (fun h => ?_) (fun h => ?_) <;> (try simp only [Bool.not_eq_true',Bool.not_eq_false',decide_eq_true_eq,decide_eq_false_iff_not,Bool.not_eq_true,Bool.not_eq_false,Decidable.not_not] at h)) | refine pay ?_ | intro _)); (all_goals (conv => whnf))
  all_goals first | (exfalso; omega) | exact ⟨rfl⟩ | skip
end Go.Proofs.Ytoocnmfodhnpbaa
/- What a rule reaches,and Export: the program. -/
namespace Go.Proofs.Ytoocnmfodhnpbaa
open Go.EG
attribute [local irreducible] CallK QCall Go.Calls
set_option linter.unusedSimpArgs false
set_option linter.unusedVariables false
set_option maxRecDepth 20000
set_option maxHeartbeats 4000000
def seenM (L : List Int) : List (Value × Value) := L.map fun x => (.int .i64 x,.bool true)
theorem keyEq_int {x y : Int} : keyEq (.int .i64 x) (.int .i64 y) = true ↔ x = y := by simp [keyEq]
theorem seen_none {L : List Int} {y : Int} (h : y ∉ L) : mget (seenM L) (.int .i64 y) = none := by
  induction L with
  | nil => rfl
  | cons x L ih =>
    simp only [seenM,List.map_cons,mget]
    rw [if_neg (fun hk => h (by rw [keyEq_int.1 hk]; simp))]
    exact ih (fun hm => h (by simp [hm]))
theorem seen_some {L : List Int} {y : Int} (h : y ∈ L) : mget (seenM L) (.int .i64 y) = some (.bool true) := by
  induction L with
  | nil => simp at h
  | cons x L ih =>
    simp only [seenM,List.map_cons,mget]
    by_cases hx : y = x
    · rw [if_pos (keyEq_int.2 hx)]
    · rw [if_neg (fun hk => hx (keyEq_int.1 hk))]
      exact ih (by simpa [hx] using h)
theorem seen_set {L : List Int} {y : Int} (h : y ∉ L) : mset (seenM L) (.int .i64 y) (.bool true) = seenM (L ++ [y]) := by
  induction L with
  | nil => rfl
  | cons x L ih =>
    have hx : ¬ keyEq (.int .i64 y) (.int .i64 x) = true := fun hk => h (by rw [keyEq_int.1 hk]; simp)
    have ih := ih (fun hm => h (by simp [hm]))
    simp only [seenM,List.map_cons,mset,if_neg hx,List.cons_append] at ih ⊢
    rw [ih]
def numM : Nat → List Int → List (Value × Value)
  | _,[] => []
  | n,x :: L => (.int .i64 x,.int .i64 ((n + 1 : Nat) : Int)) :: numM (n + 1) L
theorem num_none : ∀ {n : Nat} {L : List Int} {y : Int},y ∉ L → mget (numM n L) (.int .i64 y) = none
  | _,[],_,_ => rfl
  | n,x :: L,y,h => by
    simp only [numM,mget]
    rw [if_neg (fun hk => h (by rw [keyEq_int.1 hk]; simp))]
    exact num_none (fun hm => h (by simp [hm]))
theorem num_some : ∀ {n : Nat} {L : List Int} {y : Int},y ∈ L → mget (numM n L) (.int .i64 y) = some (.int .i64 ((n + L.idxOf y + 1 : Nat) : Int))
  | _,[],_,h => by simp at h
  | n,x :: L,y,h => by
    simp only [numM,mget]
    by_cases hx : y = x
    · subst hx
      rw [if_pos (keyEq_int.2 rfl)]; simp
    · rw [if_neg (fun hk => hx (keyEq_int.1 hk)),num_some (n := n + 1) (by simpa [hx] using h)]
      have e : (x :: L).idxOf y = L.idxOf y + 1 := by
        rw [List.idxOf_cons,show (x == y) = false from beq_false_of_ne (Ne.symm hx)]; rfl
      rw [e]
      congr 2; push_cast; omega
theorem num_set : ∀ {n : Nat} {L : List Int} {y : Int},y ∉ L → mset (numM n L) (.int .i64 y) (.int .i64 ((n + L.length + 1 : Nat) : Int)) = numM n (L ++ [y])
  | _,[],_,_ => rfl
  | n,x :: L,y,h => by
    have hx : ¬ keyEq (.int .i64 y) (.int .i64 x) = true := fun hk => h (by rw [keyEq_int.1 hk]; simp)
    have ih := num_set (n := n + 1) (L := L) (y := y) (fun hm => h (by simp [hm]))
    simp only [numM,mset,if_neg hx,List.cons_append]
    rw [← ih,List.length_cons,show n + 1 + L.length + 1 = n + (L.length + 1) + 1 by omega]
def rchQ (key b : Nat) (S : Sto) (id : Int) (v : Value) (L1 : List Ent) : Prop :=
  ∃ L a c fp',Rch S id L ∧ v = .slice a L.length c ∧ L1 = [packE key fp' (fS b S),.own 811 a L.length c ty_api_ID 1 (ints .i64 L)]
structure RchG where
  i : Nat
  L : List Int
  a : Option Addr
  c : Nat
structure RchJ where
  j : Nat
  L : List Int
  a : Option Addr
  c : Nat
theorem calls_reach (hs : SortsI Try.prog fn_slices_Sort_Sl_api_ID_api_ID) (b : Nat) (S : Sto) (hw : WF S) (id : Int) (h1 : 1 ≤ id) (h2 : id ≤ S.E.length) (key : Nat) (fp : List Nat) (w : World) (hR : StR w key fp b S) :
    Calls Try.prog fn_P_intern_Store_reach #[pS b,.int .i64 id] w fun e w' => ∃ v L1,e = .returned v ∧ R w fp L1 w' ∧ rchQ key b S id v L1 := by
  refine pack_call [.ptr 1000 b 0,.v (.int .i64 id)] ok_P_intern_Store_reach (by simp) hR ?_
  rintro ⟨a,c,mb⟩ hfp hR'
  have hsm := hw.small
  rw [fS_eq] at hR' ⊢
  have hne := own_ne (key := 1001) hR' rfl (by omega)
  have m0 : mset ([] : List (Value × Value)) (.int .i64 id) (.bool true) = seenM [id] := rfl
  (repeat' ((conv => whnf); first | rw [m0] | (refine bcase_prop (fun h => ?_) (fun h => ?_) <;> try (exfalso; omega)) | (refine bcase_nprop (fun h => ?_) (fun h => ?_) <;> try (exfalso; omega)) | (refine bcase_intro (fun h => ?_) (fun h => ?_) <;> (try simp only [Bool.not_eq_true',Bool.not_eq_false',decide_eq_true_eq,decide_eq_false_iff_not,Bool.not_eq_true,Bool.not_eq_false,Decidable.not_not] at h)) | refine pay ?_ | refine And.intro (by first | exact ⟨rfl,rfl,_,rfl⟩) ?_ | intro _)); (all_goals (conv => whnf))
  rename_i bI bm
  refine VC_loop RchG (fun x => [(0,.ptr 1000 b 0),(5,.sl 13 x.a x.L.length x.c),(6,.mp 14 bm),(7,.v (.int .i64 x.i))])
    (fun x => [.mapE 14 bm (.int .i64) (seenM x.L),.own 13 x.a x.L.length x.c ty_api_ID 1 (ints .i64 x.L),.box 1000 b [.int .i64 S.most,.slice a S.E.length c,.map (some mb)] ty_intern_Store,.own 1001 a S.E.length c ty_intern_entry 13 (ents S.E),.mapE 1002 mb kkR (mapOf S.E)])
    (fun x => x.i ≤ x.L.length ∧ Bfs S id x.i x.L) (fun x => id.toNat - x.i) ⟨0,[id],_,1⟩ ⟨Nat.zero_le _,Bfs.start h1⟩ (by (repeat ((conv => whnf); refine And.intro (by first | exact rfl | exact vint_eq (by omega) | exact vint_eq (by (dsimp only; omega)) | exact vsl_eq (by omega) | exact vsl_eq (by first | (dsimp only; omega) | (simp; done) | (simp; omega))) ?_)); exact trivial) (Thin.ref (by (repeat (first | exact Thin.nil _ | exact Thin.refl _ | refine Thin.keep rfl (fun _ h => h) ?_ | refine Thin.skip ?_)))) ?_
  rintro ⟨i,L,ar,cr⟩ ⟨hi,hB⟩
  dsimp only at hi hB ⊢
  have hlen := hB.len (by omega)
  by_cases hlt : i < L.length
  · have hmem := getD_mem hlt
    obtain ⟨p1,p2⟩ := hB.pos _ hmem
    generalize hx : L.getD i 0 = x at *
    have hat := ents_rule (E := S.E) (i := x.toNat - 1) (by omega)
    have hxe : ((x - 1).toNat) = x.toNat - 1 := by omega
    have hae : S.E.getD (x.toNat - 1) ent0 = atE S.E x := (atE_pos (by omega)).symm
    rw [hae] at hat
    have hr1 : (ints .i64 L)[i]? = some (.int .i64 x) := by rw [← hx]; exact ints_getD hlt
    have c1 := calls_Refs (atE S.E x).r
    have hok := hw.okAt p1 (by omega)
    have hrl := refsL_len (atE S.E x).r
    have hrr := okR_refs hok
    generalize hzs : refsL (atE S.E x).r = zs at *
    (repeat' ((conv => whnf); first | rw [hxe] | rw [Int.toNat_natCast] | rw [Nat.mul_one] | rw [intOf_ints hlt,hx] | refine ⟨ruC (atE S.E x).r,rfl,Rd.own (key := 1001) rfl (Nat.succ_pos _) hat,?_⟩ | refine CallK_slice 900 (fun w hR => c1 w) ?_ | refine ⟨_,⟨rfl,trivial⟩,?_⟩ | (refine bcase_prop (fun h => ?_) (fun h => ?_) <;> try (exfalso; omega)) | (refine bcase_nprop (fun h => ?_) (fun h => ?_) <;> try (exfalso; omega)) | (refine bcase_intro (fun h => ?_) (fun h => ?_) <;> (try simp only [Bool.not_eq_true',Bool.not_eq_false',decide_eq_true_eq,decide_eq_false_iff_not,Bool.not_eq_true,Bool.not_eq_false,Decidable.not_not] at h)) | refine pay ?_ | refine And.intro (by first | exact hne | exact isK_ints hlt) ?_ | intro _)); (all_goals (conv => whnf))
    rename_i a9 c9
    refine VC_loop RchJ (fun y => [(0,.ptr 1000 b 0),(5,.sl 13 y.a y.L.length y.c),(6,.mp 14 bm),(7,.v (.int .i64 i)),(35,.sl 900 a9 zs.length c9),(36,.v (.int .i64 zs.length)),(37,.v (.int .i64 y.j))])
      (fun y => [.own 900 a9 zs.length c9 ty_api_ID 1 (ints .i64 zs),.mapE 14 bm (.int .i64) (seenM y.L),.own 13 y.a y.L.length y.c ty_api_ID 1 (ints .i64 y.L),.box 1000 b [.int .i64 S.most,.slice a S.E.length c,.map (some mb)] ty_intern_Store,.own 1001 a S.E.length c ty_intern_entry 13 (ents S.E),.mapE 1002 mb kkR (mapOf S.E)])
      (fun y => y.j ≤ zs.length ∧ Bfs S id i y.L ∧ (i < y.L.length ∧ y.L.getD i 0 = x) ∧ ∀ k,k < y.j → zs.getD k 0 ∈ y.L) (fun y => zs.length - y.j) ⟨0,L,ar,cr⟩ ⟨Nat.zero_le _,hB,⟨hlt,hx⟩,fun k hk => absurd hk (Nat.not_lt_zero k)⟩ (by (repeat ((conv => whnf); refine And.intro (by first | exact rfl | exact vint_eq (by omega) | exact vint_eq (by (dsimp only; omega)) | exact vsl_eq (by omega) | exact vsl_eq (by first | (dsimp only; omega) | (simp; done) | (simp; omega))) ?_)); exact trivial) (Thin.ref (by (repeat (first | exact Thin.nil _ | exact Thin.refl _ | refine Thin.keep rfl (fun _ h => h) ?_ | refine Thin.skip ?_)))) ?_
    clear hlen hB hi
    rintro ⟨j,M,am,cm⟩ ⟨hj,hB,⟨hiM,hxM⟩,hM⟩
    dsimp only at hj hB hiM hxM hM ⊢
    have hlen := hB.len (by omega)
    by_cases hlj : j < zs.length
    · have hy := hrr j hlj
      have hyz : zs.getD j 0 ∈ refsL (atE S.E x).r := by rw [hzs]; exact getD_mem hlj
      generalize hyx : zs.getD j 0 = y at *
      have hxm : x ∈ M := by rw [← hxM]; exact getD_mem hiM
      by_cases hyM : y ∈ M
      · have hm := seen_some hyM
        (repeat' ((conv => whnf); first | rw [Int.toNat_natCast] | rw [Nat.mul_one] | rw [intOf_ints hlj,hyx] | refine lk_some hm ?_ | refine ⟨.mp 14 _,⟨rfl,rfl⟩,?_⟩ | (refine bcase_prop (fun h => ?_) (fun h => ?_) <;> try (exfalso; omega)) | (refine bcase_nprop (fun h => ?_) (fun h => ?_) <;> try (exfalso; omega)) | (refine bcase_intro (fun h => ?_) (fun h => ?_) <;> (try simp only [Bool.not_eq_true',Bool.not_eq_false',decide_eq_true_eq,decide_eq_false_iff_not,Bool.not_eq_true,Bool.not_eq_false,Decidable.not_not] at h)) | refine pay ?_ | refine And.intro (by first | exact isK_ints hlj | exact ⟨rfl,rfl,_,rfl⟩) ?_ | intro _)); (all_goals (conv => whnf))
        refine loop_next ⟨j + 1,M,am,cm⟩ ⟨by ((try dsimp only); omega),hB,⟨hiM,hxM⟩,fun k hk => ?_⟩ (by ((try dsimp only); omega)) (by (repeat ((conv => whnf); refine And.intro (by first | exact rfl | exact vint_eq (by omega) | exact vint_eq (by (dsimp only; omega)) | exact vsl_eq (by omega) | exact vsl_eq (by first | (dsimp only; omega) | (simp; done) | (simp; omega))) ?_)); exact trivial) (Ref.refl _)
        rcases (show k < j ∨ k = j by have : k < j + 1 := hk; omega) with hk | rfl
        · exact hM k hk
        · rw [hyx]; exact hyM
      · have hm := seen_none hyM
        have hs := seen_set hyM
        (repeat' ((conv => whnf); first | rw [hs] | rw [Int.toNat_natCast] | rw [Nat.mul_one] | rw [intOf_ints hlj,hyx] | refine lk_none hm ?_ | refine ⟨.mp 14 _,⟨rfl,rfl⟩,?_⟩ | (refine bcase_prop (fun h => ?_) (fun h => ?_) <;> try (exfalso; omega)) | (refine bcase_nprop (fun h => ?_) (fun h => ?_) <;> try (exfalso; omega)) | (refine bcase_intro (fun h => ?_) (fun h => ?_) <;> (try simp only [Bool.not_eq_true',Bool.not_eq_false',decide_eq_true_eq,decide_eq_false_iff_not,Bool.not_eq_true,Bool.not_eq_false,Decidable.not_not] at h)) | refine pay ?_ | refine And.intro (by first | exact isK_ints hlj | exact ⟨rfl,rfl,_,rfl⟩ | exact ⟨by unfold maxLen; omega,by omega⟩) ?_ | intro _)); (all_goals (conv => whnf))
        rename_i a' c'
        have hMl : (M ++ [y]).length = M.length + 1 := by simp
        refine loop_next ⟨j + 1,M ++ [y],a',c'⟩ ⟨by ((try dsimp only); omega),hB.snoc (by omega) hyM (by omega) (by omega) hxm hyz,⟨by ((try dsimp only); omega),by rw [getD_append_left hiM]; exact hxM⟩,fun k hk => ?_⟩ (by ((try dsimp only); omega)) ?_ ?_
        · rcases (show k < j ∨ k = j by have : k < j + 1 := hk; omega) with hk | rfl
          · exact List.mem_append_left _ (hM k hk)
          · rw [hyx]; exact List.mem_append_right _ (by simp)
        · dsimp only
          rw [hMl]
          (repeat ((conv => whnf); refine And.intro (by first | exact rfl | exact vint_eq (by omega) | exact vint_eq (by (dsimp only; omega)) | exact vsl_eq (by omega) | exact vsl_eq (by first | (dsimp only; omega) | (simp; done) | (simp; omega))) ?_)); exact trivial
        · dsimp only
          rw [hMl,← Go.EG.ints_snoc]
          exact Thin.ref (.skip (Thin.refl _))
    · have hjz : j = zs.length := by omega
      (repeat' ((conv => whnf); first | (refine bcase_prop (fun h => ?_) (fun h => ?_) <;> try (exfalso; omega)) | (refine bcase_nprop (fun h => ?_) (fun h => ?_) <;> try (exfalso; omega)) | (refine bcase_intro (fun h => ?_) (fun h => ?_) <;> (try simp only [Bool.not_eq_true',Bool.not_eq_false',decide_eq_true_eq,decide_eq_false_iff_not,Bool.not_eq_true,Bool.not_eq_false,Decidable.not_not] at h)) | refine pay ?_ | intro _)); (all_goals (conv => whnf))
      refine loop_next ⟨i + 1,M,am,cm⟩ ⟨by ((try dsimp only); omega),hB.next fun y hy => ?_⟩ (by ((try dsimp only); omega)) (by (repeat ((conv => whnf); refine And.intro (by first | exact rfl | exact vint_eq (by omega) | exact vint_eq (by (dsimp only; omega)) | exact vsl_eq (by omega) | exact vsl_eq (by first | (dsimp only; omega) | (simp; done) | (simp; omega))) ?_)); exact trivial) (Thin.ref (.skip (Thin.refl _)))
      rw [hxM,hzs] at hy
      obtain ⟨k,hk,rfl⟩ := List.getElem_of_mem hy
      have := hM k (by omega)
      rwa [List.getD_eq_getElem?_getD,List.getElem?_eq_getElem hk] at this
  · have hil : i = L.length := by omega
    subst hil
    have hpos : 0 < L.length := List.length_pos_of_mem hB.top
    have hbig : L.length < 4611686018427387904 := by omega
    (repeat' ((conv => whnf); first | refine CallK_sort (key := 13) (zs := L) hs rfl rfl hpos hbig ?_ | refine ⟨_,⟨rfl,trivial⟩,?_⟩ | (refine bcase_prop (fun h => ?_) (fun h => ?_) <;> try (exfalso; omega)) | (refine bcase_nprop (fun h => ?_) (fun h => ?_) <;> try (exfalso; omega)) | (refine bcase_intro (fun h => ?_) (fun h => ?_) <;> (try simp only [Bool.not_eq_true',Bool.not_eq_false',decide_eq_true_eq,decide_eq_false_iff_not,Bool.not_eq_true,Bool.not_eq_false,Decidable.not_not] at h)) | refine pay ?_ | intro _)); (all_goals (conv => whnf))
    have hml : (L.mergeSort (· ≤ ·)).length = L.length := List.length_mergeSort L
    exact ⟨⟨_,(Thin.ref (.skip (.own (k' := 811) hml.symm rfl (Thin.refl _)))).trans ((Ref.perm (List.perm_append_comm (l₁ := [_]))).trans (Ref.packs (key := key) (f := fS b S) (a,c,mb) (Thin.refl _))),L.mergeSort (· ≤ ·),ar,cr,fps (fS b S (a,c,mb)),hB.done,by rw [hml],rfl⟩⟩
theorem calls_reach0 (b : Nat) (w : World) (key : Nat) (fp : List Nat) (S : Sto) (hR : StR w key fp b S) :
    Calls Try.prog fn_P_intern_Store_reach #[pS b,.int .i64 0] w fun e w' => ∃ v L1,e = .returned v ∧ R w fp L1 w' ∧ rchQ key b S 0 v L1 := by
  refine part_call [.ptr 1000 b 0,.v (.int .i64 0)] ok_P_intern_Store_reach (by simp) hR ?_
  (repeat' ((conv => whnf); first | (refine bcase_prop (fun h => ?_) (fun h => ?_) <;> try (exfalso; omega)) | (refine bcase_nprop (fun h => ?_) (fun h => ?_) <;> try (exfalso; omega)) | (refine bcase_intro (fun h => ?_) (fun h => ?_) <;> (try simp only [Bool.not_eq_true',Bool.not_eq_false',decide_eq_true_eq,decide_eq_false_iff_not,Bool.not_eq_true,Bool.not_eq_false,Decidable.not_not] at h)) | refine pay ?_ | intro _)); (all_goals (conv => whnf))
  exact ⟨⟨_,(Ref.ownNil 811 ty_api_ID 1).trans (Ref.perm (.swap _ _ _)),[],none,0,fp,Rch.nil,rfl,rfl⟩⟩
theorem calls_reachT (hs : SortsI Try.prog fn_slices_Sort_Sl_api_ID_api_ID) (b : Nat) (S : Sto) (hw : WF S) (id : Int) (hk : known S id) (key : Nat) (fp : List Nat) (w : World) (hR : StR w key fp b S) :
    Calls Try.prog fn_P_intern_Store_reach #[pS b,.int .i64 id] w fun e w' => ∃ v L1,e = .returned v ∧ R w fp L1 w' ∧ rchQ key b S id v L1 := by
  by_cases h0 : id = 0
  · subst h0; exact calls_reach0 b w key fp S hR
  · exact calls_reach hs b S hw id (by have := hk.1; omega) hk.2 key fp w hR
def xpQ (key b : Nat) (S : Sto) (id : Int) (v : Value) (L1 : List Ent) : Prop :=
  ∃ L a c fp',Rch S id L ∧ v = .tuple #[.slice a (xg S L).length c,.nilIface] ∧ L1 = [packE key fp' (fS b S),.own 812 a (xg S L).length c ty_api_Rule 5 (rulsC (xg S L))]
structure XpG where
  i : Nat
  a : Option Addr
  c : Nat
theorem calls_Export (hs : SortsI Try.prog fn_slices_Sort_Sl_api_ID_api_ID) (b : Nat) (S : Sto) (hw : WF S) (id : Int) (hk : known S id) (key : Nat) (fp : List Nat) (w : World) (hR : StR w key fp b S) :
    Calls Try.prog fn_P_intern_Store_Export #[pS b,.int .i64 id] w fun e w' => ∃ v L1,e = .returned v ∧ R w fp L1 w' ∧ xpQ key b S id v L1 := by
  refine part_call [.v (pS b),.v (.int .i64 id)] ok_P_intern_Store_Export (by simp) (hR.key 77) ?_
  have c1 := calls_knownT b S hk
  have c2 := calls_reachT hs b S hw id hk
  have hsm := hw.small
  (repeat' ((conv => whnf); first | refine SC.go 77 c1 rfl fun fp' => ?_ | (refine CallK_packO (key := 77) 77 (fS b S) rfl (fun w hR h0 => c2 _ _ _ h0) ?_; rintro _ _ ⟨L,aL,cL,fp',hL,rfl,rfl⟩; refine ⟨_,_,rfl,?_⟩; rintro ⟨a,c,mb⟩ w' hRu; rw [fS_eq] at hRu ⊢; have hLl := hL.small hw hk; refine ⟨.v _,rfl,?_⟩) | (refine bcase_prop (fun h => ?_) (fun h => ?_) <;> try (exfalso; omega)) | (refine bcase_nprop (fun h => ?_) (fun h => ?_) <;> try (exfalso; omega)) | (refine bcase_intro (fun h => ?_) (fun h => ?_) <;> (try simp only [Bool.not_eq_true',Bool.not_eq_false',decide_eq_true_eq,decide_eq_false_iff_not,Bool.not_eq_true,Bool.not_eq_false,Decidable.not_not] at h)) | refine pay ?_ | refine And.intro (by first | exact ⟨by omega,by omega,by omega,by unfold maxLen; omega⟩) ?_ | intro _)); (all_goals (conv => whnf))
  rename_i bm b8
  refine VC_loop XpG (fun x => [(0,.ptr 1000 b 0),(7,.mp 25 bm),(8,.sl 28 x.a x.i x.c),(29,.v (.slice aL L.length cL)),(30,.v (.int .i64 L.length)),(31,.v (.int .i64 x.i))])
    (fun x => [.own 28 x.a x.i x.c ty_api_Rule 5 (rulsC ((xg S L).take x.i)),.mapE 25 bm (.int .i64) (numM 0 (L.take x.i)),.box 1000 b [.int .i64 S.most,.slice a S.E.length c,.map (some mb)] ty_intern_Store,.own 1001 a S.E.length c ty_intern_entry 13 (ents S.E),.mapE 1002 mb kkR (mapOf S.E),.own 811 aL L.length cL ty_api_ID 1 (ints .i64 L)])
    (fun x => x.i ≤ L.length) (fun x => L.length - x.i) ⟨0,_,_⟩ (Nat.zero_le _) (by (repeat ((conv => whnf); refine And.intro (by first | exact rfl | exact vint_eq (by omega) | exact vint_eq (by (dsimp only; omega)) | exact vsl_eq (by omega) | exact vsl_eq (by first | (dsimp only; omega) | (simp; done) | (simp; omega))) ?_)); exact trivial) (Thin.ref (Thin.refl _)) ?_
  rintro ⟨i,a8,c8⟩ hi
  dsimp only at hi ⊢
  by_cases hlt : i < L.length
  · have hmem := getD_mem hlt
    obtain ⟨p1,p2⟩ := hL.pos _ hmem
    have hid := hk.2
    have hne := own_ne (key := 1001) hRu rfl (by omega)
    have hneL := own_ne (key := 811) hRu rfl (by omega)
    have hx0 : L.getD i 0 ∉ L.take i := fun hm => by
      obtain ⟨j,hj,he⟩ := List.getElem_of_mem hm
      rw [List.length_take] at hj
      have := asc_get hL.asc (i := j) (j := i) (by omega) hlt
      rw [List.getElem_take] at he
      rw [show L.getD j 0 = L[j] by rw [List.getD_eq_getElem?_getD,List.getElem?_eq_getElem (by omega)]; rfl] at this
      omega
    have hnum := num_set (n := 0) hx0
    rw [← take_snoc (d := 0) hlt,List.length_take,Nat.min_eq_left (by omega)] at hnum
    have hsn : rulsC ((xg S L).take i) ++ ruC (ren L (atE S.E (L.getD i 0)).r) = rulsC ((xg S L).take (i + 1)) := by
      rw [rulsC_snoc,take_snoc (d := rul0) (by rw [xg_length]; exact hlt),xg,getD_map (d := 0) hlt]
    have hok := hw.okAt p1 (by omega)
    have hlk : ∀ y,y ∈ refsL (atE S.E (L.getD i 0)).r → y < L.getD i 0 → mget (numM 0 (L.take (i + 1))) (.int .i64 y) = some (.int .i64 (posn L y)) := by
      intro y hy hlt'
      have hyL := hL.cls _ hmem y hy
      have hx := asc_idx hL.asc hlt hyL hlt'
      have hyt : y ∈ L.take (i + 1) := by
        have h2 := idxOf_getD hyL
        rw [List.mem_take_iff_getElem]
        refine ⟨L.idxOf y,by omega,?_⟩
        have := h2.2
        rw [List.getD_eq_getElem?_getD,List.getElem?_eq_getElem h2.1] at this
        exact this
      rw [num_some hyt,posn_mem hyL]
      have : (L.take (i + 1)).idxOf y = L.idxOf y := by
        conv => rhs; rw [← List.take_append_drop (i + 1) L]
        rw [List.idxOf_append,if_pos hyt]
      rw [this]
      congr 2
      push_cast; omega
    have hl0 : mget (numM 0 (L.take (i + 1))) (.int .i64 0) = none := num_none fun h0 => by
      have := (hL.pos 0 (List.mem_of_mem_take h0)).1; omega
    have hn0 : posn L 0 = 0 := posn_not fun h0 => by have := (hL.pos 0 h0).1; omega
    have hr1 : (ints .i64 L)[i]? = some (.int .i64 (L.getD i 0)) := ints_getD hlt
    have hat := ents_rule (E := S.E) (i := (L.getD i 0).toNat - 1) (by omega)
    have hxe : ((L.getD i 0 - 1).toNat) = (L.getD i 0).toNat - 1 := by omega
    have hae : S.E.getD ((L.getD i 0).toNat - 1) ent0 = atE S.E (L.getD i 0) := (atE_pos (by omega)).symm
    rw [hae] at hat
    have hc1 : (i : Int) + 1 = ((0 + i + 1 : Nat) : Int) := by omega
    generalize hx : L.getD i 0 = x at *
    generalize hrr : (atE S.E x).r = r at *
    obtain ⟨rk,rl,ra,rb,rt⟩ := r
    have h3 := hok
    unfold okR at h3
    rcases h3 with ⟨k1,k2,k3,_⟩ | ⟨k1,k2,k3,k4,k5,k6,k7⟩ | ⟨k1,k2,k3,k4,k5,k6⟩
    · simp only at k1 k2 k3
      subst k1 k2 k3
      simp only [ren,hn0] at hsn
      (repeat' ((conv => whnf); first | rw [hc1,hnum] | rw [hxe] | rw [Int.toNat_natCast] | rw [Nat.mul_one] | refine ⟨_,rdO 811 rfl hr1,?_⟩ | refine ⟨ruC ⟨_,_,_,_,_⟩,rfl,Rd.own (key := 1001) rfl (Nat.succ_pos _) hat,?_⟩ | refine lk_none hl0 ?_ | refine ⟨.mp 25 _,⟨rfl,rfl⟩,?_⟩ | refine ⟨_,⟨rfl,trivial⟩,?_⟩ | refine stop_and ?_ ?_ | (refine bcase_prop (fun h => ?_) (fun h => ?_) <;> try (exfalso; omega)) | (refine bcase_nprop (fun h => ?_) (fun h => ?_) <;> try (exfalso; omega)) | (refine bcase_intro (fun h => ?_) (fun h => ?_) <;> (try simp only [Bool.not_eq_true',Bool.not_eq_false',decide_eq_true_eq,decide_eq_false_iff_not,Bool.not_eq_true,Bool.not_eq_false,Decidable.not_not] at h)) | refine pay ?_ | refine And.intro (by first | exact hne | exact hneL | exact fun h => absurd h Bool.false_ne_true | exact fun _ => Ref.refl _ | exact ⟨rfl,rfl,_,rfl⟩ | exact ⟨by unfold maxLen; omega,by omega⟩) ?_ | intro _)); (all_goals (conv => whnf))
      all_goals
        rename_i a' c'
        exact loop_next ⟨i + 1,a',c'⟩ (by ((try dsimp only); omega)) (by ((try dsimp only); omega)) (by (repeat ((conv => whnf); refine And.intro (by first | exact rfl | exact vint_eq (by omega) | exact vint_eq (by (dsimp only; omega)) | exact vsl_eq (by omega) | exact vsl_eq (by first | (dsimp only; omega) | (simp; done) | (simp; omega))) ?_)); exact trivial) (Thin.ref (.skip (.skip (.own rfl hsn (Thin.refl _)))))
    · simp only at k1
      subst k1
      have ha := hlk ra (by rw [refs_two rfl]; simp) k5
      have hb := hlk rb (by rw [refs_two rfl]; simp) k7
      simp only [ren] at hsn
      (repeat' ((conv => whnf); first | rw [hc1,hnum] | rw [hxe] | rw [Int.toNat_natCast] | rw [Nat.mul_one] | refine ⟨_,rdO 811 rfl hr1,?_⟩ | refine ⟨ruC ⟨_,_,_,_,_⟩,rfl,Rd.own (key := 1001) rfl (Nat.succ_pos _) hat,?_⟩ | refine lk_some ha ?_ | refine lk_some hb ?_ | refine ⟨.mp 25 _,⟨rfl,rfl⟩,?_⟩ | refine ⟨_,⟨rfl,trivial⟩,?_⟩ | refine stop_and ?_ ?_ | (refine bcase_prop (fun h => ?_) (fun h => ?_) <;> try (exfalso; omega)) | (refine bcase_nprop (fun h => ?_) (fun h => ?_) <;> try (exfalso; omega)) | (refine bcase_intro (fun h => ?_) (fun h => ?_) <;> (try simp only [Bool.not_eq_true',Bool.not_eq_false',decide_eq_true_eq,decide_eq_false_iff_not,Bool.not_eq_true,Bool.not_eq_false,Decidable.not_not] at h)) | refine pay ?_ | refine And.intro (by first | exact hne | exact hneL | exact fun h => absurd h Bool.false_ne_true | exact fun _ => Ref.refl _ | exact ⟨rfl,rfl,_,rfl⟩ | exact ⟨by unfold maxLen; omega,by omega⟩) ?_ | intro _)); (all_goals (conv => whnf))
      all_goals
        rename_i a' c'
        exact loop_next ⟨i + 1,a',c'⟩ (by ((try dsimp only); omega)) (by ((try dsimp only); omega)) (by (repeat ((conv => whnf); refine And.intro (by first | exact rfl | exact vint_eq (by omega) | exact vint_eq (by (dsimp only; omega)) | exact vsl_eq (by omega) | exact vsl_eq (by first | (dsimp only; omega) | (simp; done) | (simp; omega))) ?_)); exact trivial) (Thin.ref (.skip (.skip (.own rfl hsn (Thin.refl _)))))
    · simp only at k1 k3
      subst k1 k3
      have ha := hlk ra (by rw [refs_one rfl]; simp) k6
      simp only [ren,hn0] at hsn
      (repeat' ((conv => whnf); first | rw [hc1,hnum] | rw [hxe] | rw [Int.toNat_natCast] | rw [Nat.mul_one] | refine ⟨_,rdO 811 rfl hr1,?_⟩ | refine ⟨ruC ⟨_,_,_,_,_⟩,rfl,Rd.own (key := 1001) rfl (Nat.succ_pos _) hat,?_⟩ | refine lk_none hl0 ?_ | refine lk_some ha ?_ | refine ⟨.mp 25 _,⟨rfl,rfl⟩,?_⟩ | refine ⟨_,⟨rfl,trivial⟩,?_⟩ | refine stop_and ?_ ?_ | (refine bcase_prop (fun h => ?_) (fun h => ?_) <;> try (exfalso; omega)) | (refine bcase_nprop (fun h => ?_) (fun h => ?_) <;> try (exfalso; omega)) | (refine bcase_intro (fun h => ?_) (fun h => ?_) <;> (try simp only [Bool.not_eq_true',Bool.not_eq_false',decide_eq_true_eq,decide_eq_false_iff_not,Bool.not_eq_true,Bool.not_eq_false,Decidable.not_not] at h)) | refine pay ?_ | refine And.intro (by first | exact hne | exact hneL | exact fun h => absurd h Bool.false_ne_true | exact fun _ => Ref.refl _ | exact ⟨rfl,rfl,_,rfl⟩ | exact ⟨by unfold maxLen; omega,by omega⟩) ?_ | intro _)); (all_goals (conv => whnf))
      all_goals
        rename_i a' c'
        exact loop_next ⟨i + 1,a',c'⟩ (by ((try dsimp only); omega)) (by ((try dsimp only); omega)) (by (repeat ((conv => whnf); refine And.intro (by first | exact rfl | exact vint_eq (by omega) | exact vint_eq (by (dsimp only; omega)) | exact vsl_eq (by omega) | exact vsl_eq (by first | (dsimp only; omega) | (simp; done) | (simp; omega))) ?_)); exact trivial) (Thin.ref (.skip (.skip (.own rfl hsn (Thin.refl _)))))
  · have hil : i = L.length := by omega
    subst hil
    have hxl : (xg S L).length = L.length := xg_length S L
    have hxt : (xg S L).take L.length = xg S L := List.take_of_length_le (by rw [hxl]; exact Nat.le_refl _)
    (repeat' ((conv => whnf); first | (refine bcase_prop (fun h => ?_) (fun h => ?_) <;> try (exfalso; omega)) | (refine bcase_nprop (fun h => ?_) (fun h => ?_) <;> try (exfalso; omega)) | (refine bcase_intro (fun h => ?_) (fun h => ?_) <;> (try simp only [Bool.not_eq_true',Bool.not_eq_false',decide_eq_true_eq,decide_eq_false_iff_not,Bool.not_eq_true,Bool.not_eq_false,Decidable.not_not] at h)) | refine pay ?_ | intro _)); (all_goals (conv => whnf))
    refine ⟨⟨_,(Thin.ref (.own (k' := 812) hxl.symm (congrArg rulsC hxt) (.skip (.keep rfl (fun _ h => h) (.keep rfl (fun _ h => h) (.keep rfl (fun _ h => h) (.nil _))))))).trans ((Ref.perm (List.perm_append_comm (l₁ := [_]))).trans (Ref.packs (key := key) (f := fS b S) (a,c,mb) (Thin.refl _))),L,a8,c8,fps (fS b S (a,c,mb)),hL,by rw [hxl],rfl⟩⟩
end Go.Proofs.Ytoocnmfodhnpbaa
/- The rules that roots reach: the program. -/
namespace Go.Proofs.Ytoocnmfodhnpbaa
open Go.EG
attribute [local irreducible] CallK QCall Go.Calls
set_option linter.unusedSimpArgs false
set_option linter.unusedVariables false
set_option maxRecDepth 20000
set_option maxHeartbeats 4000000
inductive Rc (S : Sto) (rs : List Int) : Int → Prop
  | root {x : Int} : x ∈ rs → x ≠ 0 → Rc S rs x
  | ref {x y : Int} : Rc S rs y → x ∈ refsL (atE S.E y).r → Rc S rs x
structure Bf (S : Sto) (i : Nat) (L : List Int) : Prop where
  nod : L.Nodup
  pos : ∀ x ∈ L,1 ≤ x ∧ x ≤ S.E.length
  cls : ∀ j,j < i → ∀ y ∈ refsL (atE S.E (L.getD j 0)).r,y ∈ L
structure RcG where
  i : Nat
  L : List Int
  a : Option Addr
  c : Nat
  fp : List Nat
end Go.Proofs.Ytoocnmfodhnpbaa
/- Counts and first occurrences: the program. -/
namespace Go.Proofs.Ytoocnmfodhnpbaa
open Go.EG
attribute [local irreducible] CallK QCall Go.Calls
set_option linter.unusedSimpArgs false
set_option linter.unusedVariables false
set_option maxRecDepth 20000
set_option maxHeartbeats 4000000
end Go.Proofs.Ytoocnmfodhnpbaa
/- Finding a letter: the program. -/
namespace Go.Proofs.Ytoocnmfodhnpbaa
open Go.EG
attribute [local irreducible] CallK QCall Go.Calls
set_option linter.unusedSimpArgs false
set_option linter.unusedVariables false
set_option maxRecDepth 20000
set_option maxHeartbeats 4000000
structure FdG where
  x : Nat
  f : Nat
  base : Nat
  later : Int
end Go.Proofs.Ytoocnmfodhnpbaa
/- Find,Count: the program. -/
namespace Go.Proofs.Ytoocnmfodhnpbaa
open Go.EG
attribute [local irreducible] CallK QCall Go.Calls
set_option linter.unusedSimpArgs false
set_option linter.unusedVariables false
set_option maxRecDepth 20000
set_option maxHeartbeats 4000000
structure BfG where
  x : Nat
  f : Nat
  s : Nat
theorem calls_before (g : List Rul) (ms : List Tm) (hg : Gr g ms) (p : Nat → Bool) (i : Nat) (hi : i ≤ (mAt ms g.length).len) (a a1 a2 : Option Addr) (c c1 c2 : Nat) (w : World) (hin : In w [] a (rulsC g)) (hin1 : In w [] a1 (ints .i64 (upto (rowN ms) g.length g.length))) (hin2 : In w [] a2 (ints .i64 (upto (rowC p ms) g.length g.length))) :
    Calls Try.prog fn_access_before #[.slice a g.length c,.slice a1 (g.length + 1) c1,.slice a2 (g.length + 1) c2,.int .i64 i] w fun e w' => e = .returned (.int .i64 (cnt p ((mAt ms g.length).txt.take i) : Nat)) ∧ Ext w w' := by
  refine pure_call [.v (.slice a g.length c),.v (.slice a1 (g.length + 1) c1),.v (.slice a2 (g.length + 1) c2),.v (.int .i64 i)] w ok_access_before (by simp) ?_
  have hmost := hg.most
  have hne1 : a1 ≠ none := hin1.ne' (k := 0) (by rw [ints_length,upto_length]; omega)
  have hne2 : a2 ≠ none := hin2.ne' (k := 0) (by rw [ints_length,upto_length]; omega)
  have hLM : LM = 1152921504606846976 := rfl
  have htl : (mAt ms g.length).len ≤ LM := by
    by_cases h0 : 0 < g.length
    · have := (hg.cases (i := g.length - 1) (by omega)).2.2
      rwa [show ((g.length - 1 : Nat) : Int) + 1 = (g.length : Nat) by omega] at this
    · have : g.length = 0 := by omega
      rw [this]; exact Nat.zero_le _
  have htot : cnt p ((mAt ms g.length).txt.take i) ≤ LM := Nat.le_trans (cnt_le _ _) (Nat.le_trans (by rw [List.length_take]; exact Nat.min_le_right _ _) htl)
  generalize hT : cnt p ((mAt ms g.length).txt.take i) = tot at *
  generalize hN : g.length = N at *
  (repeat' ((conv => whnf); first | (refine bcase_prop (fun h => ?_) (fun h => ?_) <;> try (exfalso; omega)) | (refine bcase_nprop (fun h => ?_) (fun h => ?_) <;> try (exfalso; omega)) | (refine bcase_intro (fun h => ?_) (fun h => ?_) <;> (try simp only [Bool.not_eq_true',Bool.not_eq_false',decide_eq_true_eq,decide_eq_false_iff_not,Bool.not_eq_true,Bool.not_eq_false,Decidable.not_not] at h)) | refine pay ?_ | intro _)); (all_goals (conv => whnf))
  refine VC_loop BfG (fun x => [(0,.v (.slice a N c)),(1,.v (.slice a1 (N + 1) c1)),(2,.v (.slice a2 (N + 1) c2)),(3,.v (.int .i64 x.f)),(9,.v (.int .i64 x.x)),(10,.v (.int .i64 x.s))])
    (fun _ => []) (fun x => x.x ≤ N ∧ x.f ≤ (mAt ms x.x).len ∧ x.s + cnt p ((mAt ms x.x).txt.take x.f) = tot) (fun x => x.x) ⟨N,i,0⟩ ⟨Nat.le_refl _,hi,by dsimp only; omega⟩ (by (repeat ((conv => whnf); refine And.intro (by first | exact rfl | exact vint_eq (by omega) | exact vint_eq (by (dsimp only; omega)) | exact vsl_eq (by omega) | exact vsl_eq (by first | (dsimp only; omega) | (simp; done) | (simp; omega))) ?_)); exact trivial) (Ref.refl _) ?_
  rintro ⟨x,f,s⟩ ⟨hx,hf,hs⟩
  dsimp only at hx hf hs ⊢
  by_cases hf0 : f = 0
  · subst hf0
    rw [List.take_zero,cnt_nil,Nat.add_zero] at hs
    (repeat' ((conv => whnf); first | (refine bcase_prop (fun h => ?_) (fun h => ?_) <;> try (exfalso; omega)) | (refine bcase_nprop (fun h => ?_) (fun h => ?_) <;> try (exfalso; omega)) | (refine bcase_intro (fun h => ?_) (fun h => ?_) <;> (try simp only [Bool.not_eq_true',Bool.not_eq_false',decide_eq_true_eq,decide_eq_false_iff_not,Bool.not_eq_true,Bool.not_eq_false,Decidable.not_not] at h)) | refine pay ?_ | intro _)); (all_goals (conv => whnf))
    all_goals first | (exfalso; omega) | skip
    refine ⟨?_⟩
    rw [hs]
  have hf1 : (0 : Int) < f := by omega
  obtain ⟨y,rfl⟩ : ∃ y,x = y + 1 := by
    cases x with
    | zero => have : (mAt ms ((0 : Nat) : Int)).len = 0 := rfl; omega
    | succ y => exact ⟨y,rfl⟩
  have hy1 : ((y + 1 : Nat) : Int) = (y : Int) + 1 := by omega
  have rdN := fun {L : List Ent} => hin1.rd (L := L) (upto_get (f := rowN ms) (k := N) (i := N) (x := y + 1) hx hx)
  have rdC := fun {L : List Ent} => hin2.rd (L := L) (upto_get (f := rowC p ms) (k := N) (i := N) (x := y + 1) hx hx)
  rw [rowN_succ] at rdN
  rw [rowC_succ] at rdC
  rw [hy1] at hf hs
  have hxn : ((y + 1 : Nat) : Int).toNat = y + 1 := by omega
  by_cases hfl : f = (mAt ms ((y : Int) + 1)).len
  · rw [List.take_of_length_le (by unfold Tm.len at hfl; omega)] at hs
    (repeat' ((conv => whnf); first | rw [hxn] | rw [Nat.mul_one] | refine ⟨_,rdN,?_⟩ | refine ⟨_,rdC,?_⟩ | (refine bcase_prop (fun h => ?_) (fun h => ?_) <;> try (exfalso; omega)) | (refine bcase_nprop (fun h => ?_) (fun h => ?_) <;> try (exfalso; omega)) | (refine bcase_intro (fun h => ?_) (fun h => ?_) <;> (try simp only [Bool.not_eq_true',Bool.not_eq_false',decide_eq_true_eq,decide_eq_false_iff_not,Bool.not_eq_true,Bool.not_eq_false,Decidable.not_not] at h)) | refine pay ?_ | refine And.intro (by first | exact hne1 | exact hne2) ?_ | intro _)); (all_goals (conv => whnf))
    all_goals first | (exfalso; omega) | skip
    refine ⟨?_⟩
    show Value.int .i64 _ = _
    congr 1
    omega
  have hne : a ≠ none := hin.ne' (k := y * 5) (by rw [rulsC_length]; omega)
  have hyN : y < g.length := by omega
  have rd := fun {L : List Ent} => In.rdn (L := L) (vs := ruC (g.getD y rul0)) (k := y * 5) hin (Nat.succ_pos _) (rulsC_at hyN)
  have hx5 : (((y + 1 : Nat) : Int) - 1).toNat = y := by omega
  obtain ⟨hc,hlen1,_⟩ := hg.cases hyN
  generalize g.getD y rul0 = r at *
  rcases hc with ⟨k1,_,_,l,k2,k3,k4⟩ | ⟨k1,p',q,k2,k3,k4,k5,k6,k7⟩ | ⟨k1,k8,p',k,k2,k3,k4,k5,k6,k7⟩
  · rw [k4] at hf hfl
    exact absurd hf (by simp [Tm.len,Tm.txt] at hfl ⊢; omega)
  · rw [k6] at hf hfl hs
    rw [Tm.len_pr] at hf hfl
    rw [k6,Tm.len_pr] at rdN
    rw [Tm.txt] at hs
    have hp : r.a.toNat = p' + 1 := by omega
    have hq : r.b.toNat = q + 1 := by omega
    have hp1 : ((p' + 1 : Nat) : Int) = (p' : Int) + 1 := by omega
    have hq1 : ((q + 1 : Nat) : Int) = (q : Int) + 1 := by omega
    have l1 := fun {L : List Ent} => hin1.rd (L := L) (upto_get (f := rowN ms) (k := N) (i := N) (x := p' + 1) (by omega) (by omega))
    have m1 := fun {L : List Ent} => hin2.rd (L := L) (upto_get (f := rowC p ms) (k := N) (i := N) (x := p' + 1) (by omega) (by omega))
    rw [rowN_succ] at l1
    rw [rowC_succ] at m1
    have hTp : (mAt ms ((p' : Int) + 1)).len = (mAt ms ((p' : Int) + 1)).txt.length := rfl
    have hCp := cnt_le p (mAt ms ((p' : Int) + 1)).txt
    by_cases hlt : f < (mAt ms ((p' : Int) + 1)).len
    · have hlt' : (f : Int) < ((mAt ms ((p' : Int) + 1)).len : Nat) := by omega
      rw [List.take_append_of_le_length (by omega)] at hs
      (repeat' ((conv => whnf); first | rw [hxn] | rw [hx5] | rw [hp] | rw [hq] | rw [Nat.mul_one] | refine ⟨ruC r,rfl,rd,?_⟩ | refine ⟨_,rdN,?_⟩ | refine ⟨_,l1,?_⟩ | refine ⟨_,m1,?_⟩ | (refine bcase_prop (fun h => ?_) (fun h => ?_) <;> try (exfalso; omega)) | (refine bcase_nprop (fun h => ?_) (fun h => ?_) <;> try (exfalso; omega)) | (refine bcase_intro (fun h => ?_) (fun h => ?_) <;> (try simp only [Bool.not_eq_true',Bool.not_eq_false',decide_eq_true_eq,decide_eq_false_iff_not,Bool.not_eq_true,Bool.not_eq_false,Decidable.not_not] at h)) | refine pay ?_ | refine And.intro (by first | exact hne | exact hne1 | exact hne2) ?_ | intro _)); (all_goals (conv => whnf))
      all_goals first | (exfalso; omega) | skip
      refine loop_next ⟨p' + 1,f,s⟩ ⟨by ((try dsimp only); omega),?_,?_⟩ (by ((try dsimp only); omega)) (by (repeat ((conv => whnf); refine And.intro (by first | exact rfl | exact vint_eq (by omega) | exact vint_eq (by (dsimp only; omega)) | exact vsl_eq (by omega) | exact vsl_eq (by first | (dsimp only; omega) | (simp; done) | (simp; omega))) ?_)); exact trivial) (Thin.ref (.skip (Thin.refl _)))
      · dsimp only; rw [hp1]; omega
      · dsimp only; rw [hp1]; exact hs
    · rw [cnt_take_pair p (by omega)] at hs
      have hcc : cnt p ((mAt ms ((q : Int) + 1)).txt.take (f - (mAt ms ((p' : Int) + 1)).txt.length)) ≤ LM := by omega
      (repeat' ((conv => whnf); first | rw [hxn] | rw [hx5] | rw [hp] | rw [hq] | rw [Nat.mul_one] | refine ⟨ruC r,rfl,rd,?_⟩ | refine ⟨_,rdN,?_⟩ | refine ⟨_,l1,?_⟩ | refine ⟨_,m1,?_⟩ | (refine bcase_prop (fun h => ?_) (fun h => ?_) <;> try (exfalso; omega)) | (refine bcase_nprop (fun h => ?_) (fun h => ?_) <;> try (exfalso; omega)) | (refine bcase_intro (fun h => ?_) (fun h => ?_) <;> (try simp only [Bool.not_eq_true',Bool.not_eq_false',decide_eq_true_eq,decide_eq_false_iff_not,Bool.not_eq_true,Bool.not_eq_false,Decidable.not_not] at h)) | refine pay ?_ | refine And.intro (by first | exact hne | exact hne1 | exact hne2) ?_ | intro _)); (all_goals (conv => whnf))
      all_goals first | (exfalso; omega) | skip
      refine loop_next ⟨q + 1,f - (mAt ms ((p' : Int) + 1)).len,s + cnt p (mAt ms ((p' : Int) + 1)).txt⟩ ⟨by ((try dsimp only); omega),?_,?_⟩ (by ((try dsimp only); omega)) ?_ (Thin.ref (.skip (Thin.refl _)))
      · dsimp only; rw [hq1]; omega
      · dsimp only; rw [hq1,hTp]; omega
      · dsimp only
        (repeat ((conv => whnf); refine And.intro (by first | exact rfl | exact vint_eq (by omega) | exact vint_eq (by (dsimp only; omega)) | exact vsl_eq (by omega) | exact vsl_eq (by first | (dsimp only; omega) | (simp; done) | (simp; omega))) ?_)); exact trivial
  · rw [k6] at hf hfl hs
    rw [Tm.len_pw] at hf hfl
    rw [k6,Tm.len_pw] at rdN
    have hp : r.a.toNat = p' + 1 := by omega
    have hp1 : ((p' + 1 : Nat) : Int) = (p' : Int) + 1 := by omega
    have l1 := fun {L : List Ent} => hin1.rd (L := L) (upto_get (f := rowN ms) (k := N) (i := N) (x := p' + 1) (by omega) (by omega))
    have m1 := fun {L : List Ent} => hin2.rd (L := L) (upto_get (f := rowC p ms) (k := N) (i := N) (x := p' + 1) (by omega) (by omega))
    rw [rowN_succ] at l1
    rw [rowC_succ] at m1
    have hpl := (hg.cases (i := p') (by omega)).2.1
    have hpl' : 0 < (mAt ms ((p' : Int) + 1)).txt.length := hpl
    have hfk : f < k * (mAt ms ((p' : Int) + 1)).len := by omega
    rw [Tm.txt,cnt_take_rep p hpl' hfk] at hs
    have hCp := cnt_le p (mAt ms ((p' : Int) + 1)).txt
    have hdm := Nat.div_add_mod f (mAt ms ((p' : Int) + 1)).len
    have hdf := Nat.div_le_self f (mAt ms ((p' : Int) + 1)).len
    have hml := Nat.mod_lt f (show (mAt ms ((p' : Int) + 1)).len > 0 from hpl)
    have hTp : (mAt ms ((p' : Int) + 1)).len = (mAt ms ((p' : Int) + 1)).txt.length := rfl
    have hq1 : (f : Int) / ((mAt ms ((p' : Int) + 1)).len : Nat) = ((f / (mAt ms ((p' : Int) + 1)).len : Nat) : Int) := by push_cast; rfl
    have hq2 : (f : Int) % ((mAt ms ((p' : Int) + 1)).len : Nat) = ((f % (mAt ms ((p' : Int) + 1)).len : Nat) : Int) := by push_cast; rfl
    rw [← hTp] at hs
    have hm1 : ((f / (mAt ms ((p' : Int) + 1)).len : Nat) : Int) * ((cnt p (mAt ms ((p' : Int) + 1)).txt : Nat) : Int) = ((f / (mAt ms ((p' : Int) + 1)).len * cnt p (mAt ms ((p' : Int) + 1)).txt : Nat) : Int) := by push_cast; rfl
    generalize hC : cnt p (mAt ms ((p' : Int) + 1)).txt = C at *
    generalize hd : f / (mAt ms ((p' : Int) + 1)).len = d at *
    generalize hfm : f % (mAt ms ((p' : Int) + 1)).len = fm at *
    generalize hdC : d * C = dC at *
    have hcc : dC ≤ LM := by omega
    (repeat' ((conv => whnf); first | rw [hxn] | rw [hx5] | rw [hp] | rw [hq1] | rw [hq2] | rw [hm1] | rw [Nat.mul_one] | refine ⟨ruC r,rfl,rd,?_⟩ | refine ⟨_,rdN,?_⟩ | refine ⟨_,l1,?_⟩ | refine ⟨_,m1,?_⟩ | (refine bcase_prop (fun h => ?_) (fun h => ?_) <;> try (exfalso; omega)) | (refine bcase_nprop (fun h => ?_) (fun h => ?_) <;> try (exfalso; omega)) | (refine bcase_intro (fun h => ?_) (fun h => ?_) <;> (try simp only [Bool.not_eq_true',Bool.not_eq_false',decide_eq_true_eq,decide_eq_false_iff_not,Bool.not_eq_true,Bool.not_eq_false,Decidable.not_not] at h)) | refine pay ?_ | refine And.intro (by first | exact hne | exact hne1 | exact hne2) ?_ | intro _)); (all_goals (conv => whnf))
    all_goals first | (exfalso; omega) | skip
    all_goals
      refine loop_next ⟨p' + 1,fm,s + dC⟩ ⟨by ((try dsimp only); omega),?_,?_⟩ (by ((try dsimp only); omega)) ?_ (Thin.ref (.skip (Thin.refl _)))
      · dsimp only; rw [hp1]; omega
      · dsimp only; rw [hp1]; omega
      · dsimp only
        (repeat ((conv => whnf); refine And.intro (by first | exact rfl | exact vint_eq (by omega) | exact vint_eq (by (dsimp only; omega)) | exact vsl_eq (by omega) | exact vsl_eq (by first | (dsimp only; omega) | (simp; done) | (simp; omega))) ?_)); exact trivial
end Go.Proofs.Ytoocnmfodhnpbaa
/- Count: the program. -/
namespace Go.Proofs.Ytoocnmfodhnpbaa
open Go.EG
attribute [local irreducible] CallK QCall Go.Calls
set_option linter.unusedSimpArgs false
set_option linter.unusedVariables false
set_option maxRecDepth 20000
set_option maxHeartbeats 4000000
def xpN (key b : Nat) (S : Sto) (id : Int) (v : Value) (L1 : List Ent) : Prop :=
  ∃ L a c fp',Rch S id L ∧ (0 < (xg S L).length → a ≠ none) ∧ v = .tuple #[.slice a (xg S L).length c,.nilIface] ∧ L1 = [packE key fp' (fS b S),.own 812 a (xg S L).length c ty_api_Rule 5 (rulsC (xg S L))]
theorem calls_ExportN (hs : SortsI Try.prog fn_slices_Sort_Sl_api_ID_api_ID) (b : Nat) (S : Sto) (hw : WF S) (id : Int) (hk : known S id) (key : Nat) (fp : List Nat) (w : World) (hR : StR w key fp b S) :
    Calls Try.prog fn_P_intern_Store_Export #[pS b,.int .i64 id] w fun e w' => ∃ v L1,e = .returned v ∧ R w fp L1 w' ∧ xpN key b S id v L1 :=
  (calls_Export hs b S hw id hk key fp w hR).mono fun e w' ⟨v,L1,he,hR',L,a,c,fp',hL,hv,h1⟩ => by
    subst h1
    exact ⟨v,_,he,hR',L,a,c,fp',hL,fun h => own_ne hR'.tail (key := 812) rfl h,hv,rfl⟩
def ctRes (S : Sto) (n : Int) (p : Nat → Bool) (i m : Int) : Value := if known S n ∧ 0 ≤ i ∧ 0 ≤ m ∧ i ≤ (tm S.E n).len ∧ m ≤ (tm S.E n).len - i then .tuple #[.int .i64 (cnt p (sub (tm S.E n).txt i.toNat m.toNat) : Nat),.nilIface] else .tuple #[.int .i64 0,errV 1]
theorem calls_Count (hs : SortsI Try.prog fn_slices_Sort_Sl_api_ID_api_ID) (bb : Nat) (S : Sto) (hw : WF S) (n : Int) (s : Let4) (hs4 : s.Ok) (i m : Int) : SC fn_access_Count #[pS bb,.int .i64 n,l4V s,.int .i64 i,.int .i64 m] bb S S (ctRes S n s.has i m) := by
  intro key fp w hR
  refine part_call [.v (pS bb),.v (.int .i64 n),.v (l4V s),.v (.int .i64 i),.v (.int .i64 m)] ok_access_Count (by simp) (hR.key 77) ?_
  have hsm := hw.small
  have c0 := calls_SWeight bb S n hsm
  unfold wtRes at c0
  unfold ctRes
  by_cases hk : known S n
  case neg =>
    rw [if_neg hk] at c0
    rw [if_neg (fun h => hk h.1)]
    (repeat' ((conv => whnf); first | refine ⟨.v _,⟨rfl,trivial⟩,?_⟩ | refine SC.go 77 c0 rfl fun fp' => ?_ | (refine bcase_prop (fun h => ?_) (fun h => ?_) <;> try (exfalso; omega)) | (refine bcase_nprop (fun h => ?_) (fun h => ?_) <;> try (exfalso; omega)) | (refine bcase_intro (fun h => ?_) (fun h => ?_) <;> (try simp only [Bool.not_eq_true',Bool.not_eq_false',decide_eq_true_eq,decide_eq_false_iff_not,Bool.not_eq_true,Bool.not_eq_false,Decidable.not_not] at h)) | refine pay ?_ | intro _)); (all_goals (conv => whnf))
    exact ⟨endP (by (repeat (first | exact Thin.nil _ | exact Thin.refl _ | refine Thin.keep rfl (fun _ h => h) ?_ | refine Thin.skip ?_))) rfl⟩
  rw [if_pos hk] at c0
  have hlen := hw.le hk.2
  have c1 := calls_lRange i m (tm S.E n).txt.length hlen
  unfold rangeRes at c1
  by_cases hi : 0 ≤ i ∧ 0 ≤ m ∧ i ≤ (tm S.E n).len ∧ m ≤ (tm S.E n).len - i
  case neg =>
    rw [if_neg (fun h => hi h.2)]
    have hi' : ¬ (0 ≤ i ∧ 0 ≤ m ∧ i ≤ ((tm S.E n).txt.length : Nat) ∧ m ≤ ((tm S.E n).txt.length : Nat) - i) := hi
    rw [if_neg hi'] at c1
    (repeat' ((conv => whnf); first | refine ⟨.v _,⟨rfl,trivial⟩,?_⟩ | refine SC.go 77 c0 rfl fun fp' => ?_ | (first | refine puK c1 ?_ | refine quK c1 ?_) | (refine bcase_prop (fun h => ?_) (fun h => ?_) <;> try (exfalso; omega)) | (refine bcase_nprop (fun h => ?_) (fun h => ?_) <;> try (exfalso; omega)) | (refine bcase_intro (fun h => ?_) (fun h => ?_) <;> (try simp only [Bool.not_eq_true',Bool.not_eq_false',decide_eq_true_eq,decide_eq_false_iff_not,Bool.not_eq_true,Bool.not_eq_false,Decidable.not_not] at h)) | refine pay ?_ | intro _)); (all_goals (conv => whnf))
    exact ⟨endP (by (repeat (first | exact Thin.nil _ | exact Thin.refl _ | refine Thin.keep rfl (fun _ h => h) ?_ | refine Thin.skip ?_))) rfl⟩
  rw [if_pos ⟨hk,hi⟩]
  have hi' : 0 ≤ i ∧ 0 ≤ m ∧ i ≤ ((tm S.E n).txt.length : Nat) ∧ m ≤ ((tm S.E n).txt.length : Nat) - i := hi
  rw [if_pos hi'] at c1
  have c2 := calls_ExportN hs bb S hw n hk
  obtain ⟨i,rfl⟩ := Int.eq_ofNat_of_zero_le hi.1
  obtain ⟨m,rfl⟩ := Int.eq_ofNat_of_zero_le hi.2.1
  rw [Int.toNat_natCast,Int.toNat_natCast]
  have hTl : (tm S.E n).len = (tm S.E n).txt.length := rfl
  have hLM : LM = 1152921504606846976 := rfl
  have him : i + m ≤ (tm S.E n).len := by omega
  (repeat' ((conv => whnf); first | refine ⟨.v _,⟨rfl,trivial⟩,?_⟩ | refine SC.go 77 c0 rfl fun fp' => ?_ | (first | refine puK c1 ?_ | refine quK c1 ?_)  | (refine bcase_prop (fun h => ?_) (fun h => ?_) <;> try (exfalso; omega)) | (refine bcase_nprop (fun h => ?_) (fun h => ?_) <;> try (exfalso; omega)) | (refine bcase_intro (fun h => ?_) (fun h => ?_) <;> (try simp only [Bool.not_eq_true',Bool.not_eq_false',decide_eq_true_eq,decide_eq_false_iff_not,Bool.not_eq_true,Bool.not_eq_false,Decidable.not_not] at h)) | refine pay ?_ | intro _)); (all_goals (conv => whnf))
  refine CallK_pack (key := 77) rfl (fun w hR h0 => c2 _ _ _ h0) ?_
  rintro _ _ ⟨L,aL,cL,fp',hL,hneL,rfl,rfl⟩
  have hg := hL.gr hw hk.2
  have ht := hL.top_ hk.1
  rw [← xg_length S L] at ht
  generalize xg S L = g at *
  generalize L.map (tm S.E) = ms at *
  have hmost := hg.most
  have hn1 : ((g.length : Int) + 1).toNat = g.length + 1 := by omega
  have hz := flat_zeros (g.length + 1)
  refine ⟨.v _,rfl,?_⟩
  (repeat' ((conv => whnf); first | rw [hn1] | rw [hz] | (refine bcase_prop (fun h => ?_) (fun h => ?_) <;> try (exfalso; omega)) | (refine bcase_nprop (fun h => ?_) (fun h => ?_) <;> try (exfalso; omega)) | (refine bcase_intro (fun h => ?_) (fun h => ?_) <;> (try simp only [Bool.not_eq_true',Bool.not_eq_false',decide_eq_true_eq,decide_eq_false_iff_not,Bool.not_eq_true,Bool.not_eq_false,Decidable.not_not] at h)) | refine pay ?_ | refine And.intro (by first | exact ⟨by omega,by omega,by omega,by unfold maxLen; omega⟩) ?_ | intro _)); (all_goals (conv => whnf))
  rename_i b7 fp0 b12 b51 b55
  refine VC_loop Nat (fun i' => [(3,.v (.int .i64 i)),(4,.v (.int .i64 m)),(7,.ptr 7 b7 0),(15,.v (.slice aL g.length cL)),(16,.sl 51 (some ⟨b51,0,none⟩) (g.length + 1) (g.length + 1)),(17,.sl 55 (some ⟨b55,0,none⟩) (g.length + 1) (g.length + 1)),(56,.v (.slice aL g.length cL)),(57,.v (.int .i64 g.length)),(58,.v (.int .i64 i'))])
    (fun i' => [.own 55 (some ⟨b55,0,none⟩) (g.length + 1) (g.length + 1) ty_int 1 (ints .i64 (upto (rowC s.has ms) g.length i')),.own 51 (some ⟨b51,0,none⟩) (g.length + 1) (g.length + 1) ty_int 1 (ints .i64 (upto (rowN ms) g.length i')),packE 77 fp' (fS bb S),.own 812 aL g.length cL ty_api_Rule 5 (rulsC g),.box 7 b7 (l4C s) ty_api_Letters])
    (fun i' => i' ≤ g.length) (fun i' => g.length - i') 0 (Nat.zero_le _) (by (repeat ((conv => whnf); refine And.intro (by first | exact rfl | exact vint_eq (by omega) | exact vint_eq (by (dsimp only; omega)) | exact vsl_eq (by omega) | exact vsl_eq (by first | (dsimp only; omega) | (simp; done) | (simp; omega))) ?_)); exact trivial) ?_ ?_
  · have e1 : ints .i64 (List.replicate (g.length + 1) 0) = ints .i64 (upto (rowN ms) g.length 0) := by rw [← upto_zero (rowN_zero ms)]
    have e2 : ints .i64 (List.replicate (g.length + 1) 0) = ints .i64 (upto (rowC s.has ms) g.length 0) := by rw [← upto_zero (rowC_zero s.has ms)]
    exact Thin.ref (.own rfl e2 (.own rfl e1 (.keep rfl (fun _ h => h) (.keep rfl (fun _ h => h) (.skip (.keep rfl (fun _ h => h) (.nil _)))))))
  intro x hx
  by_cases hlt : x < g.length
  · have hne : aL ≠ none := hneL (by omega)
    have hat := rulsC_at hlt
    have hni : ((x : Int) + 1).toNat = x + 1 := by omega
    have hrow := hg.rows 0 s.has hlt
    have hNl := hg.rowN_le hlt
    have hCl := rowC_le s.has ms (x + 1)
    have u1 := upto_len (f := rowN ms) (k := g.length) (i := x) (x := x + 1) hlt
    have u2 := upto_len (f := rowC s.has ms) (k := g.length) (i := x) (x := x + 1) hlt
    have hrd : ∀ r : Rul,r = g.getD x rul0 → ((rulsC g).drop (x * 5)).take 5 = ruC r := fun r hr => by rw [hr]; exact hat
    rcases hrow with ⟨k1,l,hl,k2,k4,_,k5⟩ | ⟨k1,y,z,k2,k3,k4,k5,k6,_,k7⟩ | ⟨k1,y,k,k2,k3,k4,k5,k6,_,k7⟩
    · have hrd := hrd _ rfl
      generalize g.getD x rul0 = r at *
      have s1 := upto_set (f := rowN ms) hlt k4.symm
      have c5 := calls_Has s hs4 l hl
      by_cases hlb : s.has l = true
      · rw [if_pos hlb] at k5
        rw [hlb] at c5
        have s2 := upto_set (f := rowC s.has ms) hlt k5.symm
        (repeat' ((conv => whnf); first | rw [Int.toNat_natCast] | rw [Nat.mul_one] | rw [hni] | rw [s1] | rw [s2] | rw [k2] | refine ⟨ruC r,rfl,Rd.own (key := 812) rfl (Nat.succ_pos _) hrd,?_⟩ | (first | refine puK c5 ?_ | refine quK c5 ?_) | (refine bcase_prop (fun h => ?_) (fun h => ?_) <;> try (exfalso; omega)) | (refine bcase_nprop (fun h => ?_) (fun h => ?_) <;> try (exfalso; omega)) | (refine bcase_intro (fun h => ?_) (fun h => ?_) <;> (try simp only [Bool.not_eq_true',Bool.not_eq_false',decide_eq_true_eq,decide_eq_false_iff_not,Bool.not_eq_true,Bool.not_eq_false,Decidable.not_not] at h)) | refine pay ?_ | refine And.intro (by first | exact hne | exact ⟨rfl,u1⟩ | exact ⟨rfl,u2⟩) ?_ | intro _)); (all_goals (conv => whnf))
        all_goals first | (exfalso; omega) | skip
        exact loop_next (x + 1) hlt (by ((try dsimp only); omega)) (by (repeat ((conv => whnf); refine And.intro (by first | exact rfl | exact vint_eq (by omega) | exact vint_eq (by (dsimp only; omega)) | exact vsl_eq (by omega) | exact vsl_eq (by first | (dsimp only; omega) | (simp; done) | (simp; omega))) ?_)); exact trivial) (Thin.ref (.skip (Thin.refl _)))
      · rw [if_neg hlb] at k5
        rw [eq_false_of_ne_true hlb] at c5
        have s2 := upto_stay (k := g.length) k5
        (repeat' ((conv => whnf); first | rw [Int.toNat_natCast] | rw [Nat.mul_one] | rw [hni] | rw [s1] | rw [k2] | refine ⟨ruC r,rfl,Rd.own (key := 812) rfl (Nat.succ_pos _) hrd,?_⟩ | (first | refine puK c5 ?_ | refine quK c5 ?_) | (refine bcase_prop (fun h => ?_) (fun h => ?_) <;> try (exfalso; omega)) | (refine bcase_nprop (fun h => ?_) (fun h => ?_) <;> try (exfalso; omega)) | (refine bcase_intro (fun h => ?_) (fun h => ?_) <;> (try simp only [Bool.not_eq_true',Bool.not_eq_false',decide_eq_true_eq,decide_eq_false_iff_not,Bool.not_eq_true,Bool.not_eq_false,Decidable.not_not] at h)) | refine pay ?_ | refine And.intro (by first | exact hne | exact ⟨rfl,u1⟩ | exact ⟨rfl,u2⟩) ?_ | intro _)); (all_goals (conv => whnf))
        all_goals first | (exfalso; omega) | skip
        exact loop_next (x + 1) hlt (by ((try dsimp only); omega)) (by (repeat ((conv => whnf); refine And.intro (by first | exact rfl | exact vint_eq (by omega) | exact vint_eq (by (dsimp only; omega)) | exact vsl_eq (by omega) | exact vsl_eq (by first | (dsimp only; omega) | (simp; done) | (simp; omega))) ?_)); exact trivial) (Thin.ref (.skip (.own rfl (congrArg _ s2) (Thin.refl _))))
    · have hrd := hrd _ rfl
      generalize g.getD x rul0 = r at *
      have s1 := upto_set (f := rowN ms) hlt k6.symm
      have s2 := upto_set (f := rowC s.has ms) hlt k7.symm
      have hy : (r.a).toNat = y + 1 := by omega
      have hz : (r.b).toNat = z + 1 := by omega
      have hNy := hg.rowN_le (i := y) (by omega)
      have hNz := hg.rowN_le (i := z) (by omega)
      have hCy := rowC_le s.has ms (y + 1)
      have hCz := rowC_le s.has ms (z + 1)
      have l1 := upto_get (f := rowN ms) (k := g.length) (i := x) (x := y + 1) (by omega) (by omega)
      have l2 := upto_get (f := rowN ms) (k := g.length) (i := x) (x := z + 1) (by omega) (by omega)
      have m1 := upto_get (f := rowC s.has ms) (k := g.length) (i := x) (x := y + 1) (by omega) (by omega)
      have m2 := upto_get (f := rowC s.has ms) (k := g.length) (i := x) (x := z + 1) (by omega) (by omega)
      (repeat' ((conv => whnf); first | rw [Int.toNat_natCast] | rw [Nat.mul_one] | rw [hni] | rw [hy] | rw [hz] | rw [s1] | rw [s2] | refine ⟨ruC r,rfl,Rd.own (key := 812) rfl (Nat.succ_pos _) hrd,?_⟩ | refine ldCell l1 ?_ | refine ldCell l2 ?_ | refine ldCell m1 ?_ | refine ldCell m2 ?_ | (refine bcase_prop (fun h => ?_) (fun h => ?_) <;> try (exfalso; omega)) | (refine bcase_nprop (fun h => ?_) (fun h => ?_) <;> try (exfalso; omega)) | (refine bcase_intro (fun h => ?_) (fun h => ?_) <;> (try simp only [Bool.not_eq_true',Bool.not_eq_false',decide_eq_true_eq,decide_eq_false_iff_not,Bool.not_eq_true,Bool.not_eq_false,Decidable.not_not] at h)) | refine pay ?_ | refine And.intro (by first | exact hne | exact ⟨rfl,u1⟩ | exact ⟨rfl,u2⟩) ?_ | intro _)); (all_goals (conv => whnf))
      all_goals first | (exfalso; omega) | skip
      exact loop_next (x + 1) hlt (by ((try dsimp only); omega)) (by (repeat ((conv => whnf); refine And.intro (by first | exact rfl | exact vint_eq (by omega) | exact vint_eq (by (dsimp only; omega)) | exact vsl_eq (by omega) | exact vsl_eq (by first | (dsimp only; omega) | (simp; done) | (simp; omega))) ?_)); exact trivial) (Thin.ref (.skip (Thin.refl _)))
    · have hrd := hrd _ rfl
      generalize g.getD x rul0 = r at *
      have s1 := upto_set (f := rowN ms) hlt k6.symm
      have s2 := upto_set (f := rowC s.has ms) hlt k7.symm
      have hy : (r.a).toNat = y + 1 := by omega
      have hNy := hg.rowN_le (i := y) (by omega)
      have hCy := rowC_le s.has ms (y + 1)
      have l1 := upto_get (f := rowN ms) (k := g.length) (i := x) (x := y + 1) (by omega) (by omega)
      have m1 := upto_get (f := rowC s.has ms) (k := g.length) (i := x) (x := y + 1) (by omega) (by omega)
      (repeat' ((conv => whnf); first | rw [Int.toNat_natCast] | rw [Nat.mul_one] | rw [hni] | rw [hy] | rw [k5] | rw [s1] | rw [s2] | refine ⟨ruC r,rfl,Rd.own (key := 812) rfl (Nat.succ_pos _) hrd,?_⟩ | refine ldCell l1 ?_ | refine ldCell m1 ?_ | (refine bcase_prop (fun h => ?_) (fun h => ?_) <;> try (exfalso; omega)) | (refine bcase_nprop (fun h => ?_) (fun h => ?_) <;> try (exfalso; omega)) | (refine bcase_intro (fun h => ?_) (fun h => ?_) <;> (try simp only [Bool.not_eq_true',Bool.not_eq_false',decide_eq_true_eq,decide_eq_false_iff_not,Bool.not_eq_true,Bool.not_eq_false,Decidable.not_not] at h)) | refine pay ?_ | refine And.intro (by first | exact hne | exact ⟨rfl,u1⟩ | exact ⟨rfl,u2⟩) ?_ | intro _)); (all_goals (conv => whnf))
      all_goals first | (exfalso; omega) | skip
      exact loop_next (x + 1) hlt (by ((try dsimp only); omega)) (by (repeat ((conv => whnf); refine And.intro (by first | exact rfl | exact vint_eq (by omega) | exact vint_eq (by (dsimp only; omega)) | exact vsl_eq (by omega) | exact vsl_eq (by first | (dsimp only; omega) | (simp; done) | (simp; omega))) ?_)); exact trivial) (Thin.ref (.skip (Thin.refl _)))
  · have hxl : x = g.length := by omega
    subst hxl
    have c6 := fun i h w a a1 a2 c c1 c2 h1 h2 h3 => calls_before g ms hg s.has i h a a1 a2 c c1 c2 w h1 h2 h3
    rw [ht] at c6
    have e1 : (i : Int) + (m : Int) = ((i + m : Nat) : Int) := by omega
    have hcs := cnt_sub s.has (tm S.E n).txt i m
    have hcl := cnt_le s.has ((tm S.E n).txt.take (i + m))
    rw [List.length_take] at hcl
    have d1 := c6 (i + m) him
    have d2 := c6 i (by omega)
    generalize cnt s.has ((tm S.E n).txt.take (i + m)) = u at *
    generalize cnt s.has ((tm S.E n).txt.take i) = v at *
    generalize cnt s.has (sub (tm S.E n).txt i m) = z at *
    (repeat' ((conv => whnf); first | rw [e1] | refine CallK_pure (.v _) (fun w hR => d1 w _ _ _ _ _ _ (In.ownR (key := 812) hR rfl) (In.ownR (key := 51) hR rfl) (In.ownR (key := 55) hR rfl)) ?_ | refine CallK_pure (.v _) (fun w hR => d2 w _ _ _ _ _ _ (In.ownR (key := 812) hR rfl) (In.ownR (key := 51) hR rfl) (In.ownR (key := 55) hR rfl)) ?_ | refine ⟨.v _,⟨rfl,trivial⟩,?_⟩ | (refine bcase_prop (fun h => ?_) (fun h => ?_) <;> try (exfalso; omega)) | (refine bcase_nprop (fun h => ?_) (fun h => ?_) <;> try (exfalso; omega)) | (refine bcase_intro (fun h => ?_) (fun h => ?_) <;> (try simp only [Bool.not_eq_true',Bool.not_eq_false',decide_eq_true_eq,decide_eq_false_iff_not,Bool.not_eq_true,Bool.not_eq_false,Decidable.not_not] at h)) | refine pay ?_ | intro _)); (all_goals (conv => whnf))
    all_goals first | (exfalso; omega) | skip
    have ez : (u : Int) - (v : Int) = (z : Int) := by omega
    rw [ez]
    exact ⟨endP (by (repeat (first | exact Thin.nil _ | exact Thin.refl _ | refine Thin.keep rfl (fun _ h => h) ?_ | refine Thin.skip ?_))) rfl⟩
end Go.Proofs.Ytoocnmfodhnpbaa
/- From what the given statements say of an argument to what the walks ask: sets of letters. No condition. -/
namespace Go.Proofs.Ytoocnmfodhnpbaa
open Go.ChangeShapes Go.WideShapes Go.ChangeAt Go.RowKit Go.EG
set_option linter.unusedVariables false
section
variable {H : Type} {enc : TypeId × Value → H} {P : Program} {w : World} {base : Nat} {spare : Nat → Bool} {held : Bool}
theorem list_four {α : Type} : ∀ {l : List α},l.length = 4 → ∃ a b c d,l = [a,b,c,d]
  | [a,b,c,d],_ => ⟨a,b,c,d,rfl⟩
def l4D (H : Type) (s : Let4) : DataW H := .agg [.lit (.int .u64 s.s0),.lit (.int .u64 s.s1),.lit (.int .u64 s.s2),.lit (.int .u64 s.s3)]
theorem open_l4 {r : Reach} {b0 : Nat} {t e : TypeId} {v : Value} {d : DataW H} {ps : List MemPlace} (ht : P.underlying t = some (.array 4 e)) (he : P.underlying e = some (.int .u64)) (hc : P.cellsOf e = 1) (hct : P.cellsOf t = 4) (hval : Value.okWide P w r b0 t v) (hd : DataW.Trod enc P w base spare held t v d ps) :
    ∃ s : Let4,v = l4V s ∧ d = l4D H s ∧ ps = [] ∧ s.Ok := by
  obtain ⟨cs,rfl,hsz,_⟩ : ∃ cs,v = .agg cs ∧ cs.size = P.cellsOf t ∧ Row.okWide P w r b0 t cs := by
    simpa [Value.okWide,ht] using hval
  rw [hct] at hsz
  obtain ⟨l⟩ := cs
  obtain ⟨c0,c1,c2,c3,rfl⟩ := list_four (l := l) (by simpa using hsz)
  obtain ⟨fuel,hf⟩ := hd
  obtain ⟨y0,y1,y2,y3,m,hx,hy0,hy1,hy2,hy3⟩ := trod_array4 ht hc hf
  obtain ⟨x0,e0,rfl,w0⟩ := DataW.trod_int he hy0
  obtain ⟨x1,e1,rfl,w1⟩ := DataW.trod_int he hy1
  obtain ⟨x2,e2,rfl,w2⟩ := DataW.trod_int he hy2
  obtain ⟨x3,e3,rfl,w3⟩ := DataW.trod_int he hy3
  simp only [List.cons.injEq,and_true] at e0 e1 e2 e3
  subst e0 e1 e2 e3
  simp only [Prod.mk.injEq] at hx
  have b0 := wf_u64 w0
  have b1 := wf_u64 w1
  have b2 := wf_u64 w2
  have b3 := wf_u64 w3
  obtain ⟨z0,rfl⟩ := Int.eq_ofNat_of_zero_le b0.1
  obtain ⟨z1,rfl⟩ := Int.eq_ofNat_of_zero_le b1.1
  obtain ⟨z2,rfl⟩ := Int.eq_ofNat_of_zero_le b2.1
  obtain ⟨z3,rfl⟩ := Int.eq_ofNat_of_zero_le b3.1
  exact ⟨⟨z0,z1,z2,z3⟩,rfl,hx.1,by simpa using hx.2,⟨by show z0 < _; omega,by show z1 < _; omega,by show z2 < _; omega,by show z3 < _; omega⟩⟩
theorem shut_l4 {t e : TypeId} {s : Let4} (ht : P.underlying t = some (.array 4 e)) (he : P.underlying e = some (.int .u64)) (hc : P.cellsOf e = 1) (hct : P.cellsOf t = 4) (hs : s.Ok) : DataW.Trod enc P w base spare held t (l4V s) (l4D H s) [] := by
  have k : ∀ {x : Nat},x < 18446744073709551616 → (Lit.int .u64 (x : Int)).wf = true := fun {x} h => by
    simp only [Lit.wf,Bool.and_eq_true,decide_eq_true_eq,IntKind.min,IntKind.max,IntKind.signed,IntKind.bits]
    constructor
    · simp
    · simp; omega
  exact ⟨2,by simp [DataW.trod,Value.cells,ht,he,hc,hct,k hs.h0,k hs.h1,k hs.h2,k hs.h3,l4D,show List.range 4 = [0,1,2,3] from rfl]⟩
end
end Go.Proofs.Ytoocnmfodhnpbaa
/- The library's sort of a row of IDs,laid at this program (written by the kit's tool for plain words). No condition. -/
namespace Go.Proofs
open Go.Shelf
def Try.laysSlgm5_f67_ren : Go.Shelf.Ren := ⟨fun | 5 => 67 | 8 => 90 | 7 => 89 | 19 => 109 | 20 => 110 | 10 => 100 | 11 => 101 | 12 => 102 | 13 => 103 | 14 => 104 | 15 => 105 | 16 => 106 | 17 => 107 | 18 => 108 | 30 => 114 | 31 => 115 | 32 => 116 | 33 => 117 | 34 => 118 | 35 => 119 | 40 => 121 | n => n,fun | 23 => 79 | 25 => 36 | 3 => 3 | 32 => 56 | 22 => 79 | 0 => 0 | 44 => 197 | 46 => 84 | 4 => 4 | 36 => 189 | 35 => 188 | 41 => 194 | 5 => 5 | 9 => 9 | 53 => 200 | 57 => 204 | 63 => 208 | 64 => 49 | n => n,fun | n => n⟩
theorem Try.laysSlgm5_f67 : Go.Proofs.SlLaysM.n5 Try.prog Try.laysSlgm5_f67_ren := {
  mixed := by kernel_rfl
  f5 := ⟨Try.f67.name,by decide,Try.func67.trans (congrArg some (by kernel_rfl))⟩
  f7 := ⟨Try.f89.name,by decide,Try.func89.trans (congrArg some (by kernel_rfl))⟩
  f8 := Try.func90.trans (congrArg some (by kernel_rfl))
  f10 := ⟨Try.f100.name,by decide,Try.func100.trans (congrArg some (by kernel_rfl))⟩
  f11 := ⟨Try.f101.name,by decide,Try.func101.trans (congrArg some (by kernel_rfl))⟩
  f12 := ⟨Try.f102.name,by decide,Try.func102.trans (congrArg some (by kernel_rfl))⟩
  f13 := ⟨Try.f103.name,by decide,Try.func103.trans (congrArg some (by kernel_rfl))⟩
  f14 := ⟨Try.f104.name,by decide,Try.func104.trans (congrArg some (by kernel_rfl))⟩
  f15 := ⟨Try.f105.name,by decide,Try.func105.trans (congrArg some (by kernel_rfl))⟩
  f16 := ⟨Try.f106.name,by decide,Try.func106.trans (congrArg some (by kernel_rfl))⟩
  f17 := ⟨Try.f107.name,by decide,Try.func107.trans (congrArg some (by kernel_rfl))⟩
  f18 := ⟨Try.f108.name,by decide,Try.func108.trans (congrArg some (by kernel_rfl))⟩
  f19 := Try.func109.trans (congrArg some (by kernel_rfl))
  f20 := Try.func110.trans (congrArg some (by kernel_rfl))
  f30 := ⟨Try.f114.name,by decide,Try.func114.trans (congrArg some (by kernel_rfl))⟩
  f31 := Try.func115.trans (congrArg some (by kernel_rfl))
  f32 := Try.func116.trans (congrArg some (by kernel_rfl))
  f33 := ⟨Try.f117.name,by decide,Try.func117.trans (congrArg some (by kernel_rfl))⟩
  f34 := ⟨Try.f118.name,by decide,Try.func118.trans (congrArg some (by kernel_rfl))⟩
  f35 := ⟨Try.f119.name,by decide,Try.func119.trans (congrArg some (by kernel_rfl))⟩
  f40 := ⟨Try.f121.name,by decide,Try.func121.trans (congrArg some (by kernel_rfl))⟩
  t0 := Try.underlying0
  a0 := Try.isAgg0
  z0 := Try.sizeOf0
  v0 := Try.zeroValue0
  t3 := Try.underlying3
  a3 := Try.isAgg3
  z3 := Try.sizeOf3
  v3 := Try.zeroValue3
  t4 := Try.underlying4
  a4 := Try.isAgg4
  z4 := Try.sizeOf4
  v4 := Try.zeroValue4
  t5 := Try.underlying5
  a5 := Try.isAgg5
  z5 := Try.sizeOf5
  v5 := Try.zeroValue5
  t9 := Try.underlying9
  a9 := Try.isAgg9
  z9 := Try.sizeOf9
  v9 := Try.zeroValue9
  t22 := Try.underlying79
  a22 := Try.isAgg79
  z22 := Try.sizeOf79
  v22 := Try.zeroValue79
  t23 := Try.underlying79
  a23 := Try.isAgg79
  z23 := Try.sizeOf79
  v23 := Try.zeroValue79
  t25 := Try.underlying36
  a25 := Try.isAgg36
  z25 := Try.sizeOf36
  v25 := Try.zeroValue36
  t32 := Try.underlying56
  a32 := Try.isAgg56
  z32 := Try.sizeOf56
  v32 := Try.zeroValue56
  t35 := Try.underlying188
  a35 := Try.isAgg188
  z35 := Try.sizeOf188
  v35 := Try.zeroValue188
  t36 := Try.underlying189
  a36 := Try.isAgg189
  z36 := Try.sizeOf189
  v36 := Try.zeroValue189
  t41 := Try.underlying194
  a41 := Try.isAgg194
  z41 := Try.sizeOf194
  v41 := Try.zeroValue194
  t44 := Try.underlying197
  a44 := Try.isAgg197
  z44 := Try.sizeOf197
  v44 := Try.zeroValue197
  t46 := Try.underlying84
  a46 := Try.isAgg84
  z46 := Try.sizeOf84
  v46 := Try.zeroValue84
  t53 := Try.underlying200
  a53 := Try.isAgg200
  z53 := Try.sizeOf200
  v53 := Try.zeroValue200
  t57 := Try.underlying204
  a57 := Try.isAgg204
  z57 := Try.sizeOf204
  v57 := Try.zeroValue204
  t63 := Try.underlying208
  a63 := Try.isAgg208
  z63 := Try.sizeOf208
  v63 := Try.zeroValue208
  t64 := Try.underlying49
  a64 := Try.isAgg49
  z64 := Try.sizeOf49
  v64 := Try.zeroValue49 }
end Go.Proofs
namespace Go.Proofs.Ytoocnmfodhnpbaa
open Go.EG
theorem sortsI : SortsI Try.prog fn_slices_Sort_Sl_api_ID_api_ID := fun blk off cap zs w hH hb hs => AnyM.slices_Sort_int Try.laysSlgm5_f67 blk off cap zs w hH hb hs
end Go.Proofs.Ytoocnmfodhnpbaa
/- Runs over texts and ranges are those of the plain text: the program. -/
namespace Go.Proofs.Ytoocnmfodhnpbaa
open Go.EG
attribute [local irreducible] CallK QCall Go.Calls
set_option linter.unusedSimpArgs false
set_option linter.unusedVariables false
set_option maxRecDepth 20000
set_option maxHeartbeats 4000000
structure TxG where
  i : Nat
  f1 : List Nat
  f2 : List Nat
end Go.Proofs.Ytoocnmfodhnpbaa
/- A range is run over as its two parts are,one after the other: the program. -/
namespace Go.Proofs.Ytoocnmfodhnpbaa
open Go.EG
attribute [local irreducible] CallK QCall Go.Calls
set_option linter.unusedSimpArgs false
set_option linter.unusedVariables false
set_option maxRecDepth 20000
set_option maxHeartbeats 4000000
def pR (T : Tb) (q : Nat) (t : List Nat) : Value := if runH T.M T.H q t ≤ LM then .tuple #[.int .i64 (runE T.M q t),.int .i64 (runH T.M T.H q t),.nilIface] else .tuple #[.int .i64 0,.int .i64 0,errV 2]
theorem prtV_ok {T : Tb} {S : Sto} {n : Int} (hk : known S n) {i m q : Nat} (hv : i + m ≤ (tm S.E n).txt.length) (hq : q < T.M.nx.length) : prtV T S n i m q = pR T q (ori T.back (sub (tm S.E n).txt i m)) := by
  unfold prtV
  rw [if_pos ⟨hk,by omega,by omega⟩,if_pos ⟨by omega,by omega,by omega,by omega⟩,Int.toNat_natCast,Int.toNat_natCast,Int.toNat_natCast]
  rfl
theorem sub_byt {S : Sto} (hw : WF S) {n : Int} (hk : known S n) {back : Bool} {i m : Nat} : ∀ b ∈ ori back (sub (tm S.E n).txt i m),b < 256 := fun b hb =>
  hw.byt _ _ (Nat.le_refl _) hk.2 b (List.mem_of_mem_drop (List.mem_of_mem_take ((ori_mem _).1 hb)))
def umd (x : Int) (L : Nat) : Nat := (x % 18446744073709551616 % (L : Int)).toNat
theorem umd_lt (x : Int) {L : Nat} (h : 0 < L) : umd x L < L := by
  unfold umd
  have h1 := Int.emod_lt_of_pos (x % 18446744073709551616) (show (0 : Int) < (L : Int) by omega)
  omega
theorem umd_eq (x : Int) {L : Nat} (h : 0 < L) : x % 18446744073709551616 % (L : Int) = (umd x L : Nat) := by
  unfold umd
  have h0 := Int.emod_nonneg (x % 18446744073709551616) (show ((L : Int)) ≠ 0 by omega)
  omega
end Go.Proofs.Ytoocnmfodhnpbaa
/- A machine that recognizes the letters of a set counts them: the program. -/
namespace Go.Proofs.Ytoocnmfodhnpbaa
open Go.EG
attribute [local irreducible] CallK QCall Go.Calls
set_option linter.unusedSimpArgs false
set_option linter.unusedVariables false
set_option maxRecDepth 20000
set_option maxHeartbeats 4000000
theorem ori_cnt (f : Nat → Bool) (back : Bool) (t : List Nat) : (ori back t).countP f = t.countP f := by
  cases back
  · rfl
  · simp [ori,List.countP_reverse]
theorem ori_last {back : Bool} {t : List Nat} {i k : Nat} (h : i + k ≤ t.length) (hk : 0 < k) : (ori back (sub t i k)).getLast? = some (t.getD (if back = true then i else i + k - 1) 0) := by
  have hl : (sub t i k).length = k := sub_length h
  have hg : ∀ j,j < k → (sub t i k)[j]? = some (t.getD (i + j) 0) := fun j hj => by
    unfold sub
    rw [List.getElem?_take,if_pos hj,List.getElem?_drop,List.getD_eq_getElem?_getD,List.getElem?_eq_getElem (by omega)]; rfl
  cases back
  · rw [if_neg (by decide)]
    show (sub t i k).getLast? = _
    rw [List.getLast?_eq_getElem?,hl,hg (k - 1) (by omega),show i + (k - 1) = i + k - 1 by omega]
  · rw [if_pos rfl]
    show (sub t i k).reverse.getLast? = _
    rw [List.getLast?_reverse,List.head?_eq_getElem?,hg 0 hk,Nat.add_zero]
theorem tabS {y : MA} {f : Nat → Bool} (hy : y.m = letM f) {h : Int} (hh : 0 ≤ h ∧ h ≤ 1048576) (ha : Option Addr) (hc : Nat) (back : Bool) : Sml ⟨y,[0,h],ha,hc,back⟩ := by
  refine ⟨?_,tabE_let hy hh⟩
  have : y.m.nx.length = y.nr.length := List.length_map ..
  show y.nr.length ≤ 40
  rw [← this,hy]
  show (2 : Nat) ≤ 40
  decide
theorem law_TransferLetters (hS : SortsI Try.prog fn_slices_Sort_Sl_api_ID_api_ID) (w : World) (s : Let4) (hs : s.Ok) (by_ : Nat) (hby : by_ < 256) (back : Bool) (g : List Rul) (hg : MIn g) (a : Option Addr) (c : Nat) (hin : In w [] a (rulsC g)) (pick from_ n : Int) (hp : -9223372036854775808 ≤ pick ∧ pick ≤ 9223372036854775807) :
    Calls Try.prog fn_evergreenlaw33_TransferLetters #[l4V s,.int .u8 by_,.bool back,.slice a g.length c,.int .i64 pick,.int .i64 from_,.int .i64 n] w fun e w' => e = .returned (.bool true) ∧ Ext w w' := by
  refine pure_call [.v (l4V s),.v (.int .u8 by_),.v (.bool back),.v (.slice a g.length c),.v (.int .i64 pick),.v (.int .i64 from_),.v (.int .i64 n)] w ok_evergreenlaw33_TransferLetters (by simp) ?_
  have c0 := calls_awake33
  by_cases hl : g.length ≤ 30
  case neg =>
    (repeat' ((conv => whnf); first | (first | refine puK c0 ?_ | refine quK c0 ?_) | (refine bcase_prop (fun h => ?_) (fun h => ?_) <;> try (exfalso; omega)) | (refine bcase_nprop (fun h => ?_) (fun h => ?_) <;> try (exfalso; omega)) | (refine bcase_intro (fun h => ?_) (fun h => ?_) <;> (try simp only [Bool.not_eq_true',Bool.not_eq_false',decide_eq_true_eq,decide_eq_false_iff_not,Bool.not_eq_true,Bool.not_eq_false,Decidable.not_not] at h)) | refine pay ?_ | intro _)); (all_goals (conv => whnf))
    all_goals first | (exfalso; omega) | exact ⟨rfl⟩
  obtain ⟨h,hh⟩ : ∃ h,by_ % 4 = h := ⟨_,rfl⟩
  have hh4 : h < 4 := by omega
  have c3 := fun w => calls_Letters33 79 s hs w
  have c2 : ∀ (y : MA) (hy : y.m = letM s.has) (ha : Option Addr) (hc : Nat) (w' : World),IIn w' ⟨y,[0,(h : Int)],ha,hc,back⟩ → In w' [] a (rulsC g) → Calls Try.prog fn_evergreenlaw33_begun #[IA.v ⟨y,[0,(h : Int)],ha,hc,back⟩,.slice a g.length c,.int .i64 pick] w' fun e w'' => ∃ v L1,e = .returned v ∧ R w' [] L1 w'' ∧ ∃ bt b a1 c1 a2 c2 fp1 fp2,v = .tuple #[pS bt,stV (gE g).length a1 c1 a2 c2,.int .i64 (gId g pick),.bool true] ∧ L1 = [packE 78 fp1 (fX bt b ⟨letM s.has,[0,(h : Int)],back,allD (gS g)⟩ (gS g).E),packE 77 fp2 (fS b (gS g)),.own 801 a1 (gE g).length c1 ty_api_Rule 5 (ruE (gE g)),.own 802 a2 (gE g).length c2 ty_int 1 (leE (gE g))] := by
    intro y hy ha hc w' h1 h2
    have := calls_begun33 ⟨y,[0,(h : Int)],ha,hc,back⟩ (tabS hy (by omega) ha hc back) (allD (gS g)) g hg (by omega) pick hp a c w' h1 h2
    unfold beg33Q at this
    dsimp only at this
    rw [hy] at this
    exact this
  have hw := gS_wf hg (by omega)
  have hk := gId_known hg (by omega) pick
  have hE := gE_len hg (by omega)
  have hT : TbOk ⟨letM s.has,[0,(h : Int)],back,allD (gS g)⟩ 2 := ⟨letM_ok _,rfl,fun x hx => by simp at hx; omega⟩
  generalize gId g pick = id at *
  have hlen := hw.le hk.2
  have hLM : LM = 1152921504606846976 := rfl
  have hlt : (tm (gS g).E id).len = (tm (gS g).E id).txt.length := rfl
  have cL := fun a1 c1 a2 c2 w h => calls_Length (a1 := a1) (c1 := c1) (a2 := a2) (c2 := c2) (gE g) (by omega) hk.1 hk.2 w h
  obtain ⟨L,hL⟩ : ∃ L,(tm (gS g).E id).len = L := ⟨_,rfl⟩
  have hL2 : (tm (gE g) id).len = L := hL
  obtain ⟨i,hi⟩ : ∃ i,umd from_ (L + 1) = i := ⟨_,rfl⟩
  have i1 := umd_lt from_ (L := L + 1) (by omega)
  have i2 := umd_eq from_ (L := L + 1) (by omega)
  obtain ⟨k,hk2⟩ : ∃ k,umd n (L - i + 1) = k := ⟨_,rfl⟩
  have k1 := umd_lt n (L := L - i + 1) (by omega)
  have k2 := umd_eq n (L := L - i + 1) (by omega)
  rw [hi] at i1 i2
  rw [hk2] at k1 k2
  have r1 : from_ % 18446744073709551616 % (((L : Int) + 1) % 18446744073709551616) = (i : Int) := by
    rw [show ((L : Int) + 1) % 18446744073709551616 = ((L + 1 : Nat) : Int) by omega]; exact i2
  have r2 : n % 18446744073709551616 % (((L : Int) - (i : Int) + 1) % 18446744073709551616) = (k : Int) := by
    rw [show ((L : Int) - (i : Int) + 1) % 18446744073709551616 = ((L - i + 1 : Nat) : Int) by omega]; exact k2
  clear i2 k2
  have hik : i + k ≤ (tm (gS g).E id).txt.length := by omega
  have d0 := fun bt b => calls_TStore2 bt b ⟨letM s.has,[0,(h : Int)],back,allD (gS g)⟩ (gS g).E
  have d1 := fun bt b => calls_TPart bt b _ hT (gS g) hw (allD_clo hw) id i k (0 : Nat) allD_known
  rw [prtV_ok hk hik (show (0 : Nat) < 2 by decide)] at d1
  have d2 := fun b => calls_Count hS b (gS g) hw id s hs i k
  have d3 := fun b => calls_At b (gS g) hw id (if back = true then (i : Int) else (i : Int) + (k : Int) - 1)
  have hbyt : ∀ b ∈ ori back (sub (tm (gS g).E id).txt i k),b < 256 := sub_byt hw hk
  have e1 : runH (letM s.has) [0,(h : Int)] 0 (ori back (sub (tm (gS g).E id).txt i k)) = h * cnt s.has (sub (tm (gS g).E id).txt i k) := by
    rw [letM_H s.has h _ 0 (by decide) hbyt,ori_cnt]; rfl
  have e2 := letM_E s.has _ 0 (by decide) hbyt
  have hc1 := cnt_le s.has (sub (tm (gS g).E id).txt i k)
  rw [sub_length hik] at hc1
  have e3 : ctRes (gS g) id s.has i k = .tuple #[.int .i64 (cnt s.has (sub (tm (gS g).E id).txt i k) : Nat),.nilIface] := by
    unfold ctRes
    rw [if_pos ⟨hk,by omega,by omega,by omega,by omega⟩,Int.toNat_natCast,Int.toNat_natCast]
  simp only [e3] at d2
  unfold pR at d1
  dsimp only at d1
  rw [e1] at d1
  have hdiv : ∀ x : Nat,(0 < h ∧ x > LM / h) ↔ h * x > LM := fun x => by
    rcases Nat.eq_zero_or_pos h with rfl | h0
    · simp
    · rw [gt_iff_lt,Nat.div_lt_iff_lt_mul h0,Nat.mul_comm]
      exact ⟨fun h => h.2,fun h => ⟨h0,h⟩⟩
  have hmod : ((by_ : Nat) : Int) % 4 = (h : Int) := by omega
  have c9 := calls_Is 2 2 (by decide)
  have hm2 : ∀ m,m ∈ ([⟨[0,1],none,0⟩] : List RA) → True := fun _ _ => trivial
  have hcN : ∀ y : MA,y.m = letM s.has → y.nr.length = 2 ∧ ∀ r ∈ y.nr,r.xs.length ≤ 9223372036854775807 := by
    intro y hy
    have h1 : y.m.nx = y.nr.map RA.xs := rfl
    rw [hy] at h1
    have h1 : ([[0,1],[0,1]] : List (List Int)) = y.nr.map RA.xs := h1
    refine ⟨?_,fun r hr => ?_⟩
    · have := congrArg List.length h1
      simpa using this.symm
    · have : r.xs ∈ ([[0,1],[0,1]] : List (List Int)) := by rw [h1]; exact List.mem_map_of_mem hr
      simp at this
      rw [this]; decide
  have hII : ∀ (y : MA),y.m = letM s.has → ∀ (w' : World) (ha : Option Addr) (hc : Nat),McI w' [] y → In w' [] ha (ints .i64 [0,(h : Int)]) → IIn w' ⟨y,[0,(h : Int)],ha,hc,back⟩ := fun y hy w' ha hc h1 h2 =>
    ⟨h1,h2,by rw [(hcN y hy).1]; decide,(hcN y hy).2,by show 2 ≤ 9223372036854775807; decide⟩
  obtain ⟨C,hC⟩ : ∃ C,cnt s.has (sub (tm (gS g).E id).txt i k) = C := ⟨_,rfl⟩
  rw [hC] at d1 d2 hc1
  by_cases q1 : h * C ≤ LM
  case neg =>
    rw [if_neg q1] at d1
    have q2 := (hdiv C).2 (by omega)
    have q3 : (1152921504606846976 : Int) / (h : Int) < (C : Int) := by
      have : LM / h < C := q2.2
      rw [hLM] at this
      have e : ((1152921504606846976 / h : Nat) : Int) = (1152921504606846976 : Int) / (h : Int) := Int.natCast_ediv ..
      rw [← e]
      omega
    have q4 := q2.1
    clear e1 e2 e3 hdiv
    (repeat' ((conv => whnf); first | rw [hmod] | rw [hL2] | rw [r1] | rw [r2] | (first | refine puK c0 ?_ | refine quK c0 ?_) | (first | refine puK c9 ?_ | refine quK c9 ?_) | ((refine CallK_new (fun w' hR => c3 w') ?_); rintro _ _ ⟨y,F,rfl,rfl,hF,hy⟩; refine ⟨.v _,rfl,?_⟩) | ((refine CallK_new (fun w' hR => c2 y hy _ _ w' (hII y hy w' _ _ (hF.in_ (key := 79) hR rfl) (In.ownR (key := 45) hR rfl)) (hin.cast hR (by simp))) ?_); rintro _ _ ⟨bt,b,a1,k1,a2,k2,f1,f2,rfl,rfl⟩; refine ⟨.v _,rfl,?_⟩) | (refine CallK_pure (.v _) (fun w hR => cL _ _ _ _ w (In.ownR (key := 802) hR rfl)) ?_) | (refine CallK_pack (key := 78) rfl (fun w hR h0 => d0 _ _ _ _ _ h0) ?_; rintro _ _ ⟨rfl,rfl⟩; refine ⟨.v _,rfl,?_⟩) | (refine CallK_pack (key := 77) rfl (fun w hR h0 => d2 _ _ _ _ h0) ?_; rintro _ _ ⟨rfl,fp',rfl⟩; refine ⟨.v _,rfl,?_⟩) | (refine CallK_pack2 (key1 := 78) (key2 := 77) rfl rfl (fun w hR h0 => d1 _ _ _ _ _ _ _ h0) ?_; rintro _ _ ⟨rfl,fp1',fp2',rfl⟩; refine ⟨.v _,rfl,?_⟩) | refine ⟨_,⟨rfl,trivial⟩,?_⟩ | (refine bcase_prop (fun h => ?_) (fun h => ?_) <;> try (exfalso; omega)) | (refine bcase_nprop (fun h => ?_) (fun h => ?_) <;> try (exfalso; omega)) | (refine bcase_intro (fun h => ?_) (fun h => ?_) <;> (try simp only [Bool.not_eq_true',Bool.not_eq_false',decide_eq_true_eq,decide_eq_false_iff_not,Bool.not_eq_true,Bool.not_eq_false,Decidable.not_not] at h)) | refine pay ?_ | refine And.intro (by first | exact Ref.takes [17,78,77,801,802,45,79,7] rfl (Thin.refl _)) ?_ | intro _)); (all_goals (conv => whnf))
    all_goals first | (exfalso; omega) | exact ⟨rfl⟩ | skip
  rw [if_pos q1] at d1
  have q3 : h = 0 ∨ ¬ (1152921504606846976 : Int) / (h : Int) < (C : Int) := by
    rcases Nat.eq_zero_or_pos h with h0 | h0
    · exact .inl h0
    · refine .inr fun q3 => ?_
      have e : ((1152921504606846976 / h : Nat) : Int) = (1152921504606846976 : Int) / (h : Int) := Int.natCast_ediv ..
      rw [← e] at q3
      exact absurd ((hdiv C).1 ⟨h0,by rw [hLM]; omega⟩) (by omega)
  have hmul : ((h * C : Nat) : Int) = (h : Int) * (C : Int) := by rw [Int.natCast_mul]
  rw [hmul] at d1
  have hbd : 0 ≤ (h : Int) * (C : Int) ∧ (h : Int) * (C : Int) ≤ 1152921504606846976 := by omega
  generalize (h : Int) * (C : Int) = P at *
  by_cases hk0 : k = 0
  · subst hk0
    have E0 : runE (letM s.has) 0 (ori back (sub (tm (gS g).E id).txt i 0)) = 0 := by
      have : sub (tm (gS g).E id).txt i 0 = [] := by unfold sub; rw [List.take_zero]
      rw [this]; cases back <;> rfl
    rw [E0] at d1
    have c4 := c9
    clear e1 e2 e3 hdiv E0 d3 q1 hC
    (repeat' ((conv => whnf); first | rw [hmod] | rw [hL2] | rw [r1] | rw [r2] | (first | refine puK c0 ?_ | refine quK c0 ?_) | (first | refine puK c9 ?_ | refine quK c9 ?_) | ((refine CallK_new (fun w' hR => c3 w') ?_); rintro _ _ ⟨y,F,rfl,rfl,hF,hy⟩; refine ⟨.v _,rfl,?_⟩) | ((refine CallK_new (fun w' hR => c2 y hy _ _ w' (hII y hy w' _ _ (hF.in_ (key := 79) hR rfl) (In.ownR (key := 45) hR rfl)) (hin.cast hR (by simp))) ?_); rintro _ _ ⟨bt,b,a1,k1,a2,k2,f1,f2,rfl,rfl⟩; refine ⟨.v _,rfl,?_⟩) | (refine CallK_pure (.v _) (fun w hR => cL _ _ _ _ w (In.ownR (key := 802) hR rfl)) ?_) | (refine CallK_pack (key := 78) rfl (fun w hR h0 => d0 _ _ _ _ _ h0) ?_; rintro _ _ ⟨rfl,rfl⟩; refine ⟨.v _,rfl,?_⟩) | (refine CallK_pack (key := 77) rfl (fun w hR h0 => d2 _ _ _ _ h0) ?_; rintro _ _ ⟨rfl,fp',rfl⟩; refine ⟨.v _,rfl,?_⟩) | (refine CallK_pack2 (key1 := 78) (key2 := 77) rfl rfl (fun w hR h0 => d1 _ _ _ _ _ _ _ h0) ?_; rintro _ _ ⟨rfl,fp1',fp2',rfl⟩; refine ⟨.v _,rfl,?_⟩) | (refine CallK_pack (key := 77) rfl (fun w hR h0 => d3 _ _ _ _ h0) ?_; rintro _ _ ⟨rfl,fp',rfl⟩; refine ⟨.v _,rfl,?_⟩) | (first | refine puK c4 ?_ | refine quK c4 ?_) | refine ⟨_,⟨rfl,trivial⟩,?_⟩ | (refine bcase_prop (fun h => ?_) (fun h => ?_) <;> try (exfalso; omega)) | (refine bcase_nprop (fun h => ?_) (fun h => ?_) <;> try (exfalso; omega)) | (refine bcase_intro (fun h => ?_) (fun h => ?_) <;> (try simp only [Bool.not_eq_true',Bool.not_eq_false',decide_eq_true_eq,decide_eq_false_iff_not,Bool.not_eq_true,Bool.not_eq_false,Decidable.not_not] at h)) | refine pay ?_ | refine And.intro (by first | exact Ref.takes [17,78,77,801,802,45,79,7] rfl (Thin.refl _)) ?_ | intro _)); (all_goals (conv => whnf))
    all_goals first | (exfalso; omega) | exact ⟨rfl⟩ | (refine ⟨?_⟩; show Value.bool (decide _) = _; rw [decide_eq_true (by omega)]) | skip
  have hk0 : 0 < k := by omega
  rw [ori_last hik hk0] at e2
  dsimp only at e2
  rw [e2] at d1
  obtain ⟨x,hx⟩ : ∃ x,(tm (gS g).E id).txt.getD (if back = true then i else i + k - 1) 0 = x := ⟨_,rfl⟩
  have hat : (if back = true then (i : Int) else (i : Int) + (k : Int) - 1) = ((if back = true then i else i + k - 1 : Nat) : Int) := by
    cases back
    · rw [if_neg (by decide),if_neg (by decide)]; omega
    · rw [if_pos rfl,if_pos rfl]
  have hai : (if back = true then i else i + k - 1) < (tm (gS g).E id).txt.length := by
    cases back
    · rw [if_neg (by decide)]; omega
    · rw [if_pos rfl]; omega
  have hxb : x < 256 := by
    rw [← hx,List.getD_eq_getElem?_getD,List.getElem?_eq_getElem hai]
    exact hw.byt _ _ (Nat.le_refl _) hk.2 _ (List.getElem_mem ..)
  have ha : atRes (gS g) id (if back = true then (i : Int) else (i : Int) + (k : Int) - 1) = .tuple #[.int .u8 (x : Nat),.nilIface] := by
    unfold atRes
    rw [hat,if_pos ⟨hk,by omega,by omega⟩,Int.toNat_natCast,hx]
  rw [ha] at d3
  rw [hx] at d1
  have c4 := calls_r16Has s hs x hxb
  clear e1 e2 e3 hdiv q1 hC hat ha hai hx
  cases hsx : s.has x <;> rw [hsx] at d1 c4 <;> simp only [reduceIte,Bool.false_eq_true] at d1 <;> cases back <;> simp only [reduceIte,Bool.false_eq_true] at d3
  all_goals
    (repeat' ((conv => whnf); first | rw [hmod] | rw [hL2] | rw [r1] | rw [r2] | (first | refine puK c0 ?_ | refine quK c0 ?_) | (first | refine puK c9 ?_ | refine quK c9 ?_) | ((refine CallK_new (fun w' hR => c3 w') ?_); rintro _ _ ⟨y,F,rfl,rfl,hF,hy⟩; refine ⟨.v _,rfl,?_⟩) | ((refine CallK_new (fun w' hR => c2 y hy _ _ w' (hII y hy w' _ _ (hF.in_ (key := 79) hR rfl) (In.ownR (key := 45) hR rfl)) (hin.cast hR (by simp))) ?_); rintro _ _ ⟨bt,b,a1,k1,a2,k2,f1,f2,rfl,rfl⟩; refine ⟨.v _,rfl,?_⟩) | (refine CallK_pure (.v _) (fun w hR => cL _ _ _ _ w (In.ownR (key := 802) hR rfl)) ?_) | (refine CallK_pack (key := 78) rfl (fun w hR h0 => d0 _ _ _ _ _ h0) ?_; rintro _ _ ⟨rfl,rfl⟩; refine ⟨.v _,rfl,?_⟩) | (refine CallK_pack (key := 77) rfl (fun w hR h0 => d2 _ _ _ _ h0) ?_; rintro _ _ ⟨rfl,fp',rfl⟩; refine ⟨.v _,rfl,?_⟩) | (refine CallK_pack2 (key1 := 78) (key2 := 77) rfl rfl (fun w hR h0 => d1 _ _ _ _ _ _ _ h0) ?_; rintro _ _ ⟨rfl,fp1',fp2',rfl⟩; refine ⟨.v _,rfl,?_⟩) | (refine CallK_pack (key := 77) rfl (fun w hR h0 => d3 _ _ _ _ h0) ?_; rintro _ _ ⟨rfl,fp',rfl⟩; refine ⟨.v _,rfl,?_⟩) | (first | refine puK c4 ?_ | refine quK c4 ?_) | refine ⟨_,⟨rfl,trivial⟩,?_⟩ | (refine bcase_prop (fun h => ?_) (fun h => ?_) <;> try (exfalso; omega)) | (refine bcase_nprop (fun h => ?_) (fun h => ?_) <;> try (exfalso; omega)) | (refine bcase_intro (fun h => ?_) (fun h => ?_) <;> (try simp only [Bool.not_eq_true',Bool.not_eq_false',decide_eq_true_eq,decide_eq_false_iff_not,Bool.not_eq_true,Bool.not_eq_false,Decidable.not_not] at h)) | refine pay ?_ | refine And.intro (by first | exact Ref.takes [17,78,77,801,802,45,79,7] rfl (Thin.refl _)) ?_ | intro _)); (all_goals (conv => whnf))
    all_goals first | (exfalso; omega) | exact ⟨rfl⟩ | (refine ⟨?_⟩; show Value.bool (decide _) = _; rw [decide_eq_true (by omega)]) | skip
theorem law_TransferLettersI (hS : SortsI Try.prog fn_slices_Sort_Sl_api_ID_api_ID) (w : World) (s : Let4) (hs : s.Ok) (by_ : Int) (hby : 0 ≤ by_ ∧ by_ ≤ 255) (back : Bool) (g : List Rul) (hg : MIn g) (a : Option Addr) (c : Nat) (hin : In w [] a (rulsC g)) (pick from_ n : Int) (hp : -9223372036854775808 ≤ pick ∧ pick ≤ 9223372036854775807) :
    Calls Try.prog fn_evergreenlaw33_TransferLetters #[l4V s,.int .u8 by_,.bool back,.slice a g.length c,.int .i64 pick,.int .i64 from_,.int .i64 n] w fun e w' => e = .returned (.bool true) ∧ Ext w w' := by
  obtain ⟨k,rfl⟩ : ∃ k : Nat,by_ = k := ⟨by_.toNat,by omega⟩
  exact law_TransferLetters hS w s hs k (by omega) back g hg a c hin pick from_ n hp
end Go.Proofs.Ytoocnmfodhnpbaa
