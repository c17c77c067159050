/- Machines that came in, small ones; a table of a store of results: the program. -/
import Derived.Test.YtoocnmfodhnpbaaK9
import Derived.Test.YtoocnmfodhnpbaaK8
import Derived.Test.YtoocnmfodhnpbaaK10
import Derived.Test.YtoocnmfodhnpbaaK5
import Derived.Test.YtoocnmfodhnpbaaK2
import Derived.Test.YtoocnmfodhnpbaaRows
import Derived.Test.YtoocnmfodhnpbaaK4
import Derived.Test.YtoocnmfodhnpbaaK7
import Derived.Shelf.SlGeneric
import Derived.Ground.SlgmProg
import Derived.Shelf.SortM.Plain
import Derived.Test.YtoocnmfodhnpbaaProg
import Derived.Shelf.SortM.SortNone
namespace Go.Proofs.Ytoocnmfodhnpbaa
open Go.EG
attribute [local irreducible] CallK QCall Go.Calls
set_option linter.unusedSimpArgs false
set_option linter.unusedVariables false
set_option maxRecDepth 20000
set_option maxHeartbeats 4000000
structure IA where
  m : MA
  H : List Int
  ha : Option Addr
  hc : Nat
  back : Bool
abbrev IA.cells (x : IA) : List Value := [.int .i64 x.m.start,.slice x.m.ca x.m.cls.length x.m.cc,.slice x.m.na x.m.nr.length x.m.nc,.slice x.m.aa x.m.acc.length x.m.ac,.slice x.ha x.H.length x.hc,.bool x.back]
abbrev IA.v (x : IA) : Value := .agg x.cells.toArray
structure IIn (w : World) (x : IA) : Prop where
  m : McI w [] x.m
  h : In w [] x.ha (ints .i64 x.H)
  ln : x.m.nr.length ≤ 9223372036854775807
  lr : ∀ r ∈ x.m.nr,r.xs.length ≤ 9223372036854775807
  lh : x.H.length ≤ 9223372036854775807
theorem IIn.cast {w w' : World} {L : List Ent} {x : IA} (h : IIn w x) (hR : R w [] L w') : IIn w' x :=
  ⟨h.m.cast hR,h.h.cast hR (fun _ h => by cases h),h.ln,h.lr,h.lh⟩
def Sml (x : IA) : Prop := x.m.nr.length ≤ 40 ∧ tabE x.m x.H = 0
theorem calls_small {w : World} (x : IA) (hx : IIn w x) (b : Bool) (hb : (b = true) ↔ Sml x) :
    Calls Try.prog fn_evergreenlaw33_small #[x.v] w fun e w' => e = .returned (.bool b) ∧ Ext w w' := by
  refine pure_call [.v x.v] w ok_evergreenlaw33_small (by simp) ?_
  have c1 := fun w' h => calls_Check (w := w') x.m h ⟨hx.ln,hx.lr⟩
  have t0 := fun h => tabE_zero (x := x.m) (H := x.H) h
  have t1 := fun h1 h2 => tabE_ok (x := x.m) (H := x.H) h1 h2
  have hxh := hx.lh
  have hxm := hx.m
  have hxi := hx.h
  obtain ⟨m,H,ha,hc,back⟩ := x
  unfold Sml at hb
  dsimp only [IA.v,IA.cells] at *
  generalize hE : tabE m H = E at *
  by_cases h40 : m.nr.length ≤ 40
  case neg =>
    have hbf : b = false := by
      cases b
      · rfl
      · exact absurd (hb.1 rfl).1 h40
    subst hbf
    (repeat' ((conv => whnf); first | refine ⟨_,⟨rfl,trivial⟩,?_⟩ | (refine bcase_prop (fun h => ?_) (fun h => ?_) <;> try (exfalso; omega)) | (refine bcase_nprop (fun h => ?_) (fun h => ?_) <;> try (exfalso; omega)) | (refine bcase_intro (fun h => ?_) (fun h => ?_) <;> (try simp only [Bool.not_eq_true',Bool.not_eq_false',decide_eq_true_eq,decide_eq_false_iff_not,Bool.not_eq_true,Bool.not_eq_false,Decidable.not_not] at h)) | refine And.intro (by first | omega | exact rfl | assumption | exact ⟨rfl,rfl,rfl,rfl,rfl⟩ | exact ⟨rfl,rfl,rfl,rfl⟩ | exact ⟨rfl,by omega⟩ | exact oneAll_of rfl | exact ⟨rfl,oneAll_of rfl⟩ | exact Ref.refl _ | exact Thin.ref (.skip (Thin.refl _)) | exact Thin.ref (.skip (.skip (Thin.refl _))) | exact ⟨rfl,Nat.le_of_ble_eq_true rfl⟩ | ((try unfold maxLen); (try simp only [List.length_nil,List.length_cons,List.length_append]); omega) | (refine ⟨rfl,?_⟩; (try simp only [List.length_nil,List.length_cons,List.length_append]); omega)) ?_ | intro _)); (all_goals (conv => whnf))
    all_goals first | (exfalso; omega) | exact ⟨rfl⟩
  by_cases hch : chkM m.m = 0
  case neg =>
    have hbf : b = false := by
      cases b
      · rfl
      · exact absurd (t0 (hb.1 rfl).2).1 hch
    subst hbf
    rw [errO_ne hch] at c1
    generalize chkM m.m = Z at *
    (repeat' ((conv => whnf); first | refine ⟨_,⟨rfl,trivial⟩,?_⟩ | (refine CallK_pure (.v _) (fun w' hR => c1 w' (hxm.cast hR)) ?_) | (refine QCall_pure (.v _) (fun w' hR => c1 w' (hxm.cast hR)) ?_) | (refine bcase_prop (fun h => ?_) (fun h => ?_) <;> try (exfalso; omega)) | (refine bcase_nprop (fun h => ?_) (fun h => ?_) <;> try (exfalso; omega)) | (refine bcase_intro (fun h => ?_) (fun h => ?_) <;> (try simp only [Bool.not_eq_true',Bool.not_eq_false',decide_eq_true_eq,decide_eq_false_iff_not,Bool.not_eq_true,Bool.not_eq_false,Decidable.not_not] at h)) | refine And.intro (by first | omega | exact rfl | assumption | exact ⟨rfl,rfl,rfl,rfl,rfl⟩ | exact ⟨rfl,rfl,rfl,rfl⟩ | exact ⟨rfl,by omega⟩ | exact oneAll_of rfl | exact ⟨rfl,oneAll_of rfl⟩ | exact Ref.refl _ | exact Thin.ref (.skip (Thin.refl _)) | exact Thin.ref (.skip (.skip (Thin.refl _))) | exact ⟨rfl,Nat.le_of_ble_eq_true rfl⟩ | ((try unfold maxLen); (try simp only [List.length_nil,List.length_cons,List.length_append]); omega) | (refine ⟨rfl,?_⟩; (try simp only [List.length_nil,List.length_cons,List.length_append]); omega)) ?_ | intro _)); (all_goals (conv => whnf))
    all_goals first | (exfalso; omega) | exact ⟨rfl⟩
  rw [hch] at c1
  by_cases hlen : H.length = m.nr.length
  case neg =>
    have hbf : b = false := by
      cases b
      · rfl
      · exact absurd (t0 (hb.1 rfl).2).2.1 hlen
    subst hbf
    (repeat' ((conv => whnf); first | refine ⟨_,⟨rfl,trivial⟩,?_⟩ | (refine CallK_pure (.v _) (fun w' hR => c1 w' (hxm.cast hR)) ?_) | (refine QCall_pure (.v _) (fun w' hR => c1 w' (hxm.cast hR)) ?_) | (refine bcase_prop (fun h => ?_) (fun h => ?_) <;> try (exfalso; omega)) | (refine bcase_nprop (fun h => ?_) (fun h => ?_) <;> try (exfalso; omega)) | (refine bcase_intro (fun h => ?_) (fun h => ?_) <;> (try simp only [Bool.not_eq_true',Bool.not_eq_false',decide_eq_true_eq,decide_eq_false_iff_not,Bool.not_eq_true,Bool.not_eq_false,Decidable.not_not] at h)) | refine And.intro (by first | omega | exact rfl | assumption | exact ⟨rfl,rfl,rfl,rfl,rfl⟩ | exact ⟨rfl,rfl,rfl,rfl⟩ | exact ⟨rfl,by omega⟩ | exact oneAll_of rfl | exact ⟨rfl,oneAll_of rfl⟩ | exact Ref.refl _ | exact Thin.ref (.skip (Thin.refl _)) | exact Thin.ref (.skip (.skip (Thin.refl _))) | exact ⟨rfl,Nat.le_of_ble_eq_true rfl⟩ | ((try unfold maxLen); (try simp only [List.length_nil,List.length_cons,List.length_append]); omega) | (refine ⟨rfl,?_⟩; (try simp only [List.length_nil,List.length_cons,List.length_append]); omega)) ?_ | intro _)); (all_goals (conv => whnf))
    all_goals first | (exfalso; omega) | exact ⟨rfl⟩ | skip
  (repeat' ((conv => whnf); first | refine ⟨_,⟨rfl,trivial⟩,?_⟩ | (refine CallK_pure (.v _) (fun w' hR => c1 w' (hxm.cast hR)) ?_) | (refine QCall_pure (.v _) (fun w' hR => c1 w' (hxm.cast hR)) ?_) | (refine bcase_prop (fun h => ?_) (fun h => ?_) <;> try (exfalso; omega)) | (refine bcase_nprop (fun h => ?_) (fun h => ?_) <;> try (exfalso; omega)) | (refine bcase_intro (fun h => ?_) (fun h => ?_) <;> (try simp only [Bool.not_eq_true',Bool.not_eq_false',decide_eq_true_eq,decide_eq_false_iff_not,Bool.not_eq_true,Bool.not_eq_false,Decidable.not_not] at h)) | refine And.intro (by first | omega | exact rfl | assumption | exact ⟨rfl,rfl,rfl,rfl,rfl⟩ | exact ⟨rfl,rfl,rfl,rfl⟩ | exact ⟨rfl,by omega⟩ | exact oneAll_of rfl | exact ⟨rfl,oneAll_of rfl⟩ | exact Ref.refl _ | exact Thin.ref (.skip (Thin.refl _)) | exact Thin.ref (.skip (.skip (Thin.refl _))) | exact ⟨rfl,Nat.le_of_ble_eq_true rfl⟩ | ((try unfold maxLen); (try simp only [List.length_nil,List.length_cons,List.length_append]); omega) | (refine ⟨rfl,?_⟩; (try simp only [List.length_nil,List.length_cons,List.length_append]); omega)) ?_ | intro _)); (all_goals (conv => whnf))
  all_goals first | (exfalso; omega) | skip
  refine VC_loop Nat (fun i => [(27,.v (.slice ha H.length hc)),(28,.v (.int .i64 H.length)),(29,.v (.int .i64 i))]) (fun i => []) (fun i => i ≤ H.length ∧ ∀ h ∈ H.take i,0 ≤ h ∧ h ≤ 1048576) (fun i => H.length - i) 0 ⟨Nat.zero_le _,by simp⟩ (by (repeat ((conv => whnf); refine And.intro (by first | exact rfl | exact vint_eq (by omega) | exact vint_eq (by (dsimp only; omega)) | exact vsl_eq (by omega) | exact vsl_eq (by first | (dsimp only; omega) | (simp; done) | (simp; omega))) ?_)); exact trivial) (Thin.ref (.nil _)) ?_
  rintro i ⟨hi,hall⟩
  by_cases hlt : i < H.length
  · have rdh := fun {L : List Ent} => rdI (L := L) hxi (i := i) hlt
    have n1 : ha ≠ none := hxi.ne' (k := i) (by rw [ints_length]; exact hlt)
    have q0 : ((i : Nat) : Int).toNat = i := by omega
    have hall' : (0 ≤ H.getD i 0 ∧ H.getD i 0 ≤ 1048576) → ∀ h ∈ H.take (i + 1),0 ≤ h ∧ h ≤ 1048576 := fun hh => by
      rw [show H.take (i + 1) = H.take i ++ [H.getD i 0] by
        rw [List.take_add_one,List.getD_eq_getElem?_getD,List.getElem?_eq_getElem hlt]; rfl]
      intro h hm
      rcases List.mem_append.1 hm with hm | hm
      · exact hall h hm
      · rw [List.mem_singleton.1 hm]; exact hh
    have hbad : ¬ (0 ≤ H.getD i 0 ∧ H.getD i 0 ≤ 1048576) → b = false := fun hh => by
      cases b
      · rfl
      · exact absurd ((t0 (hb.1 rfl).2).2.2 _ (memG hlt)) hh
    (repeat' ((conv => whnf); first | rw [q0] | refine ⟨_,rdh,?_⟩ | (refine bcase_prop (fun h => ?_) (fun h => ?_) <;> try (exfalso; omega)) | (refine bcase_nprop (fun h => ?_) (fun h => ?_) <;> try (exfalso; omega)) | (refine bcase_intro (fun h => ?_) (fun h => ?_) <;> (try simp only [Bool.not_eq_true',Bool.not_eq_false',decide_eq_true_eq,decide_eq_false_iff_not,Bool.not_eq_true,Bool.not_eq_false,Decidable.not_not] at h)) | refine And.intro (by first | omega | exact rfl | assumption | exact ⟨rfl,rfl,rfl,rfl,rfl⟩ | exact ⟨rfl,rfl,rfl,rfl⟩ | exact ⟨rfl,by omega⟩ | exact oneAll_of rfl | exact ⟨rfl,oneAll_of rfl⟩ | exact Ref.refl _ | exact Thin.ref (.skip (Thin.refl _)) | exact Thin.ref (.skip (.skip (Thin.refl _))) | exact ⟨rfl,Nat.le_of_ble_eq_true rfl⟩ | ((try unfold maxLen); (try simp only [List.length_nil,List.length_cons,List.length_append]); omega) | (refine ⟨rfl,?_⟩; (try simp only [List.length_nil,List.length_cons,List.length_append]); omega)) ?_ | intro _)); (all_goals (conv => whnf))
    all_goals first | (exfalso; omega) | (refine ⟨?_⟩; rw [hbad (by omega)]) | skip
    all_goals exact loop_next (i + 1) ⟨by omega,hall' ⟨by omega,by omega⟩⟩ (by omega) (by (repeat ((conv => whnf); refine And.intro (by first | exact rfl | exact vint_eq (by omega) | exact vint_eq (by (dsimp only; omega)) | exact vsl_eq (by omega) | exact vsl_eq (by first | (dsimp only; omega) | (simp; done) | (simp; omega))) ?_)); exact trivial) (Thin.ref (.nil _))
  · rw [List.take_of_length_le (by omega)] at hall
    have hbt : b = true := hb.2 ⟨h40,t1 hch ⟨hlen,hall⟩⟩
    (repeat' ((conv => whnf); first | (refine bcase_prop (fun h => ?_) (fun h => ?_) <;> try (exfalso; omega)) | (refine bcase_nprop (fun h => ?_) (fun h => ?_) <;> try (exfalso; omega)) | (refine bcase_intro (fun h => ?_) (fun h => ?_) <;> (try simp only [Bool.not_eq_true',Bool.not_eq_false',decide_eq_true_eq,decide_eq_false_iff_not,Bool.not_eq_true,Bool.not_eq_false,Decidable.not_not] at h)) | refine And.intro (by first | omega | exact rfl | assumption | exact ⟨rfl,rfl,rfl,rfl,rfl⟩ | exact ⟨rfl,rfl,rfl,rfl⟩ | exact ⟨rfl,by omega⟩ | exact oneAll_of rfl | exact ⟨rfl,oneAll_of rfl⟩ | exact Ref.refl _ | exact Thin.ref (.skip (Thin.refl _)) | exact Thin.ref (.skip (.skip (Thin.refl _))) | exact ⟨rfl,Nat.le_of_ble_eq_true rfl⟩ | ((try unfold maxLen); (try simp only [List.length_nil,List.length_cons,List.length_append]); omega) | (refine ⟨rfl,?_⟩; (try simp only [List.length_nil,List.length_cons,List.length_append]); omega)) ?_ | intro _)); (all_goals (conv => whnf))
    all_goals first | (exfalso; omega) | (refine ⟨?_⟩; rw [hbt])
def beg33Q (g : List Rul) (x : IA) (pick : Int) (D : Int → Prop) (v : Value) (L1 : List Ent) : Prop :=
  ∃ bt b a1 c1 a2 c2 fp1 fp2,v = .tuple #[pS bt,stV (gE g).length a1 c1 a2 c2,.int .i64 (gId g pick),.bool true] ∧ L1 = [packE 78 fp1 (fX bt b ⟨x.m.m,x.H,x.back,D⟩ (gS g).E),packE 77 fp2 (fS b (gS g)),.own 801 a1 (gE g).length c1 ty_api_Rule 5 (ruE (gE g)),.own 802 a2 (gE g).length c2 ty_int 1 (leE (gE g))]
theorem calls_begun33 (x : IA) (hs : Sml x) (D : Int → Prop) (g : List Rul) (hg : MIn g) (hl : g.length ≤ 40) (pick : Int) (hp : -9223372036854775808 ≤ pick ∧ pick ≤ 9223372036854775807) (a : Option Addr) (c : Nat) (w : World) (hx : IIn w x) (hin : In w [] a (rulsC g)) :
    Calls Try.prog fn_evergreenlaw33_begun #[x.v,.slice a g.length c,.int .i64 pick] w fun e w' => ∃ v L1,e = .returned v ∧ R w [] L1 w' ∧ beg33Q g x pick D v L1 := by
  refine new_call [.v x.v,.v (.slice a g.length c),.v (.int .i64 pick)] ok_evergreenlaw33_begun (by simp) ?_
  have c1 := fun w => calls_New 1000 77 w
  rw [show clipS 1000 = 1000 from rfl] at c1
  have c2 := fun b key fp w hR hin => calls_lBuildN b g hg hl a c key fp w hR hin
  have c3 := fun w h => calls_rBuild g hg hl a c w h
  have c4 := fun bs w' hm hh => calls_TabNew 78 bs D (gS g).E (w := w') x.m hm x.H x.ha x.hc hh x.back hs.2
  have p1 := calls_Pick pick (g.length + 1) (by omega) (by omega) hp
  have hres := (bst_all hg hl).len
  have i1 := pickF_lt (n := pick) (many := g.length + 1) (by omega)
  have r1 : (ints .i64 (buildF [] [0] g).2)[pickF pick (g.length + 1)]? = some (.int .i64 (gId g pick)) := ints_getD (by omega)
  have hxm := hx.m
  have hxh := hx.h
  clear hs hx
  obtain ⟨m,H,ha,hc,back⟩ := x
  dsimp only [IA.v,IA.cells] at *
  (repeat' ((conv => whnf); first | (refine CallK_new (fun w hR => c1 w) ?_; rintro _ _ ⟨bn,fpn,rfl,rfl⟩; refine ⟨.v _,rfl,?_⟩) | rw [Int.toNat_natCast] | rw [Nat.mul_one] | (first | refine CallK_pure (.v _) (fun w hR => p1 w) ?_ | refine QCall_pure (.v _) (fun w hR => p1 w) ?_) | refine ⟨_,rdO 804 rfl r1,?_⟩ | (refine CallK_pack (key := 77) rfl (fun w hR h0 => c2 _ _ _ _ h0 (inCast1 hin hR)) ?_; rintro _ _ ⟨a5,c5,fp5,hn5,rfl,rfl⟩; refine ⟨.v _,rfl,?_⟩) | ((refine CallK_new (fun w' hR => c4 _ w' (hxm.cast hR) (hxh.cast hR (by simp))) ?_); rintro _ _ ⟨bt,fpt,rfl,rfl⟩; refine ⟨.v _,rfl,?_⟩) | ((refine CallK_new (fun w hR => c3 w (hin.cast hR (by simp))) ?_); rintro _ _ ⟨a1,c1,a2,c2,a3,c3,rfl,rfl⟩; refine ⟨.v _,rfl,?_⟩) | refine ⟨_,⟨rfl,trivial⟩,?_⟩ | refine VC_drop 7 ?_ | (refine bcase_prop (fun h => ?_) (fun h => ?_) <;> try (exfalso; omega)) | (refine bcase_nprop (fun h => ?_) (fun h => ?_) <;> try (exfalso; omega)) | (refine bcase_intro (fun h => ?_) (fun h => ?_) <;> (try simp only [Bool.not_eq_true',Bool.not_eq_false',decide_eq_true_eq,decide_eq_false_iff_not,Bool.not_eq_true,Bool.not_eq_false,Decidable.not_not] at h)) | refine And.intro (by first | omega | exact rfl | assumption | exact ⟨rfl,rfl,rfl,rfl,rfl⟩ | exact ⟨rfl,rfl,rfl,rfl⟩ | exact ⟨rfl,by omega⟩ | exact oneAll_of rfl | exact ⟨rfl,oneAll_of rfl⟩ | exact Ref.refl _ | exact Thin.ref (.skip (Thin.refl _)) | exact Thin.ref (.skip (.skip (Thin.refl _))) | exact hn5 | exact Thin.ref (by (repeat (first | exact Thin.nil _ | exact Thin.refl _ | refine Thin.keep rfl (fun _ h => h) ?_ | refine Thin.skip ?_))) | exact ⟨rfl,Nat.le_of_ble_eq_true rfl⟩ | ((try unfold maxLen); (try simp only [List.length_nil,List.length_cons,List.length_append]); omega) | (refine ⟨rfl,?_⟩; (try simp only [List.length_nil,List.length_cons,List.length_append]); omega)) ?_ | intro _)); (all_goals (conv => whnf))
  all_goals first | (exfalso; omega) | skip
  exact ⟨⟨_,Ref.takes [78,77,801,802] rfl (.packE (.packE (.keep rfl (fun _ h => h) (.keep rfl (fun _ h => h) (.nil _))))),bt,_,a1,c1,a2,c2,_,_,rfl,rfl⟩⟩
end Go.Proofs.Ytoocnmfodhnpbaa
/- A table that came in: what the given statements say of it. No condition. -/
namespace Go.Proofs.Ytoocnmfodhnpbaa
open Go.ChangeShapes Go.WideShapes Go.ChangeAt Go.RowKit Go.EG
set_option linter.unusedVariables false
theorem list_of {α : Type} (Q : Nat → α → Prop) : ∀ len : Nat,(∀ i,i < len → ∃ x,Q i x) → ∃ l : List α,l.length = len ∧ ∀ i x,l[i]? = some x → Q i x
  | 0,_ => ⟨[],rfl,fun i x h => by simp at h⟩
  | n + 1,h => by
    obtain ⟨l,hl,hq⟩ := list_of Q n fun i hi => h i (by omega)
    obtain ⟨x,hx⟩ := h n (by omega)
    refine ⟨l ++ [x],by simp [hl],fun i y hy => ?_⟩
    rw [List.getElem?_append] at hy
    split at hy
    · exact hq i y hy
    · rename_i hn
      have hi := (List.getElem?_eq_some_iff.1 hy).1
      simp at hi
      have : i = n := by omega
      subst this
      rw [hl,Nat.sub_self] at hy
      simp at hy
      rw [← hy]; exact hx
section
variable {H : Type} {enc : TypeId × Value → H} {w : World} {base : Nat} {spare : Nat → Bool} {held : Bool}
theorem in_cells {a : Addr} {xs : List Value} (h : ∀ i v,xs[i]? = some v → w.cell? (a.add i) = some v) : In w [] (some a) xs := by
  by_cases hx : xs = []
  · exact .inl hx
  obtain ⟨b,off,spot⟩ := a
  obtain ⟨v0,hv0⟩ : ∃ v,xs[0]? = some v := ⟨_,List.getElem?_eq_getElem (List.length_pos_iff.2 hx)⟩
  have hc0 := h 0 v0 hv0
  have hspot : spot = none := by simpa [Addr.add] using World.cell?_spot hc0
  subst hspot
  refine .inr ⟨b,off,rfl,?_,by simp,fun j v hv => ?_⟩
  · have : w.cell? ⟨b,off,none⟩ = some v0 := by simpa [Addr.add] using hc0
    unfold World.cell? at this
    rcases Nat.lt_or_ge b w.heap.size with h | h
    · exact h
    · rw [Array.getElem?_eq_none h] at this
      simp at this
  · have h1 := h j v hv
    rw [← h1]
    congr 1
    simp only [Addr.add]
    split
    · rename_i h; subst h; rfl
    · rfl
theorem open_intsIn {P : Program} {t e : TypeId} {k : IntKind} {fuel : Nat} {cs : List Value} {x : DataW H × List MemPlace} (ht : P.underlying t = some (.slice e)) (he : P.underlying e = some (.int k)) (hc : P.cellsOf e = 1) (h : DataW.trod enc P w base spare held fuel t cs = some x) :
    ∃ a cap xs,cs = [.slice a (xs : List Int).length cap] ∧ In w [] a (ints k xs) ∧ xs.length ≤ 9223372036854775807 := by
  rcases open_ints ht he hc h with ⟨hcs,_⟩ | ⟨a,len,cap,zs,hcs,_,hl,hm,hz,hd,hcell,hwz⟩
  · exact ⟨none,0,[],hcs,.inl rfl,Nat.zero_le _⟩
  · have hle : len ≤ zs.length := by rw [hz]; split <;> omega
    have hlen : (zs.take len).length = len := by rw [List.length_take]; omega
    refine ⟨some a,cap,zs.take len,by rw [hlen]; exact hcs,in_cells fun i v hv => ?_,by rw [hlen]; unfold maxLen at hm; omega⟩
    have hi : i < (zs.take len).length := by
      have := (List.getElem?_eq_some_iff.1 hv).1
      rwa [ints_length] at this
    rw [ints_getD hi] at hv
    cases hv
    rw [hcell i (by omega),List.getD_eq_getElem?_getD,List.getD_eq_getElem?_getD,List.getElem?_take,if_pos (by omega)]
theorem open_bools {P : Program} {t e : TypeId} {fuel : Nat} {cs : List Value} {x : DataW H × List MemPlace} (ht : P.underlying t = some (.slice e)) (he : P.underlying e = some .bool) (hc : P.cellsOf e = 1) (h : DataW.trod enc P w base spare held fuel t cs = some x) :
    ∃ a cap xs,cs = [.slice a (xs : List Bool).length cap] ∧ In w [] a (xs.map Value.bool) := by
  rcases DataW.trod_slice ht h with ⟨hcs,_⟩ | ⟨a,len,cap,elems,rest,n,_,rfl,rfl,hb,hl,hm,hlen,hel,hsp,hns⟩
  · exact ⟨none,0,[],hcs,.inl rfl⟩
  · obtain ⟨l,hl2,hq⟩ := list_of (fun i (b : Bool) => w.cell? (a.add i) = some (.bool b)) len fun i hi => by
      have h1 := hel i hi
      rw [hc,Nat.mul_one,List.getElem?_eq_getElem (by omega)] at h1
      obtain ⟨cs',hcs,hy⟩ := Option.bind_eq_some_iff.1 h1
      obtain ⟨b,rfl,_⟩ := DataW.trod_bool he hy
      exact ⟨b,cell_of_cells?_one hcs⟩
    refine ⟨some a,cap,l,by rw [hl2],in_cells fun i v hv => ?_⟩
    rw [List.getElem?_map] at hv
    cases hb : l[i]? with
    | none => rw [hb] at hv; cases hv
    | some b => rw [hb] at hv; cases hv; exact hq i b hb
theorem open_rows {P : Program} {t e e' : TypeId} {fuel : Nat} {cs : List Value} {x : DataW H × List MemPlace} (ht : P.underlying t = some (.slice e)) (he : P.underlying e = some (.slice e')) (he' : P.underlying e' = some (.int .i64)) (hc : P.cellsOf e = 1) (hc' : P.cellsOf e' = 1) (h : DataW.trod enc P w base spare held fuel t cs = some x) :
    ∃ a cap nr,cs = [.slice a (nr : List RA).length cap] ∧ In w [] a (nr.map RA.v) ∧ (∀ r ∈ nr,In w [] r.a (ints .i64 r.xs) ∧ r.xs.length ≤ 9223372036854775807) ∧ nr.length ≤ 9223372036854775807 := by
  rcases DataW.trod_slice ht h with ⟨hcs,_⟩ | ⟨a,len,cap,elems,rest,n,_,rfl,rfl,hb,hl,hm,hlen,hel,hsp,hns⟩
  · exact ⟨none,0,[],hcs,.inl rfl,(fun r hr => by cases hr),Nat.zero_le _⟩
  · obtain ⟨l,hl2,hq⟩ := list_of (fun i (r : RA) => w.cell? (a.add i) = some r.v ∧ In w [] r.a (ints .i64 r.xs) ∧ r.xs.length ≤ 9223372036854775807) len fun i hi => by
      have h1 := hel i hi
      rw [hc,Nat.mul_one,List.getElem?_eq_getElem (by omega)] at h1
      obtain ⟨cs',hcs,hy⟩ := Option.bind_eq_some_iff.1 h1
      obtain ⟨a',cap',xs,rfl,h2,h3⟩ := open_intsIn he he' hc' hy
      exact ⟨⟨xs,a',cap'⟩,cell_of_cells?_one hcs,h2,h3⟩
    refine ⟨some a,cap,l,by rw [hl2],in_cells fun i v hv => ?_,fun r hr => ?_,by unfold maxLen at hm; omega⟩
    · rw [List.getElem?_map] at hv
      cases hb : l[i]? with
      | none => rw [hb] at hv; cases hv
      | some b => rw [hb] at hv; cases hv; exact (hq i b hb).1
    · obtain ⟨i,hi⟩ := List.getElem?_of_mem hr
      exact (hq i r hi).2
theorem take1 {α : Type} {l : List α} {i : Nat} {x : α} (h : (l.drop i).take 1 = [x]) : l[i]? = some x := by
  have := congrArg (fun l => l[0]?) h
  simpa using this
theorem list_six {α : Type} {l : List α} {a b c d e f : α} (h : l.length = 6) (h0 : l[0]? = some a) (h1 : l[1]? = some b) (h2 : l[2]? = some c) (h3 : l[3]? = some d) (h4 : l[4]? = some e) (h5 : l[5]? = some f) : l = [a,b,c,d,e,f] := by
  match l,h with
  | [x0,x1,x2,x3,x4,x5],_ => simp_all
set_option maxRecDepth 100000 in
theorem open_In {r : Reach} {b0 : Nat} {v : Value} {d : DataW H} {ps : List MemPlace} (hval : Value.okWide Try.prog w r b0 28 v) (hd : DataW.Trod enc Try.prog w base spare held 28 v d ps) : ∃ x : IA,v = x.v ∧ IIn w x := by
  obtain ⟨cs,rfl,hsz⟩ := okWide_struct Try.underlying28 hval
  obtain ⟨fuel,hf⟩ := hd
  rw [show (Value.agg cs).cells.toList = cs.toList from rfl] at hf
  obtain ⟨xs,n,_,_,hl,hlen,hfi⟩ := DataW.trod_struct Try.underlying28 hf
  rw [show Try.prog.cellsOf 28 = 6 from by kernel_rfl] at hl
  have f0 : DataW.trod enc Try.prog w base spare held n 26 ((cs.toList.drop 0).take (Try.prog.cellsOf 26)) = xs[0]? := hfi 0 _ rfl
  have f1 : DataW.trod enc Try.prog w base spare held n 22 ((cs.toList.drop 4).take (Try.prog.cellsOf 22)) = xs[1]? := hfi 1 _ rfl
  have f2 : DataW.trod enc Try.prog w base spare held n 4 ((cs.toList.drop 5).take (Try.prog.cellsOf 4)) = xs[2]? := hfi 2 _ rfl
  rw [List.getElem?_eq_getElem (by rw [hlen]; decide)] at f0 f1 f2
  rw [show Try.prog.cellsOf 22 = 1 from by kernel_rfl] at f1
  rw [show Try.prog.cellsOf 4 = 1 from by kernel_rfl] at f2
  rw [show Try.prog.cellsOf 26 = 4 from by kernel_rfl] at f0
  obtain ⟨ys,n2,_,_,hl2,hlen2,gfi⟩ := DataW.trod_struct Try.underlying26 f0
  have g0 : DataW.trod enc Try.prog w base spare held n2 3 ((((cs.toList.drop 0).take 4).drop 0).take (Try.prog.cellsOf 3)) = ys[0]? := gfi 0 _ rfl
  have g1 : DataW.trod enc Try.prog w base spare held n2 22 ((((cs.toList.drop 0).take 4).drop 1).take (Try.prog.cellsOf 22)) = ys[1]? := gfi 1 _ rfl
  have g2 : DataW.trod enc Try.prog w base spare held n2 23 ((((cs.toList.drop 0).take 4).drop 2).take (Try.prog.cellsOf 23)) = ys[2]? := gfi 2 _ rfl
  have g3 : DataW.trod enc Try.prog w base spare held n2 24 ((((cs.toList.drop 0).take 4).drop 3).take (Try.prog.cellsOf 24)) = ys[3]? := gfi 3 _ rfl
  rw [List.getElem?_eq_getElem (by rw [hlen2]; decide)] at g0 g1 g2 g3
  rw [show Try.prog.cellsOf 3 = 1 from by kernel_rfl] at g0
  rw [show Try.prog.cellsOf 22 = 1 from by kernel_rfl] at g1
  rw [show Try.prog.cellsOf 23 = 1 from by kernel_rfl] at g2
  rw [show Try.prog.cellsOf 24 = 1 from by kernel_rfl] at g3
  obtain ⟨st,e0,_,_⟩ := DataW.trod_int Try.underlying3 g0
  obtain ⟨ca,cc,cls,e1,i1,l1⟩ := open_intsIn Try.underlying22 Try.underlying3 (by kernel_rfl) g1
  obtain ⟨na,nc,nr,e2,i2,i2',l2⟩ := open_rows Try.underlying23 Try.underlying22 Try.underlying3 (by kernel_rfl) (by kernel_rfl) g2
  obtain ⟨aa,ac,acc,e3,i3⟩ := open_bools Try.underlying24 Try.underlying4 (by kernel_rfl) g3
  obtain ⟨ha,hc,H',e4,i4,l4⟩ := open_intsIn Try.underlying22 Try.underlying3 (by kernel_rfl) f1
  obtain ⟨b,e5,_⟩ := DataW.trod_bool Try.underlying4 f2
  have k : ∀ {j : Nat} {z : Value},j < 4 → ((((cs.toList.drop 0).take 4).drop j).take 1 = [z]) → cs.toList[j]? = some z := fun {j} {z} hj h => by
    have := take1 h
    rw [List.drop_zero,List.getElem?_take,if_pos hj] at this
    exact this
  refine ⟨⟨⟨st,cls,ca,cc,nr,na,nc,acc,aa,ac⟩,H',ha,hc,b⟩,?_,⟨⟨i1,i2,i3,fun r hr => (i2' r hr).1⟩,i4,l2,fun r hr => (i2' r hr).2,l4⟩⟩
  have := list_six hl (k (by decide) e0) (k (by decide) e1) (k (by decide) e2) (k (by decide) e3) (take1 e4) (take1 e5)
  obtain ⟨l⟩ := cs
  dsimp only at this
  rw [this]
end
end Go.Proofs.Ytoocnmfodhnpbaa
/- The machine of a set of letters: the program. -/
namespace Go.Proofs.Ytoocnmfodhnpbaa
open Go.EG
attribute [local irreducible] CallK QCall Go.Calls
set_option linter.unusedSimpArgs false
set_option linter.unusedVariables false
set_option maxRecDepth 20000
set_option maxHeartbeats 4000000
def letR1 (f : Nat → Bool) (i : Nat) : List Int := (List.range 256).map fun j => if j < i ∧ f j = true then 1 else 0
theorem letR1_len (f : Nat → Bool) (i : Nat) : (letR1 f i).length = 256 := by simp [letR1]
theorem letR1_zero (f : Nat → Bool) : letR1 f 0 = List.replicate 256 0 := by
  unfold letR1
  rw [List.eq_replicate_iff]
  refine ⟨by simp,fun x hx => ?_⟩
  obtain ⟨j,_,rfl⟩ := List.mem_map.1 hx
  simp
theorem letR1_get (f : Nat → Bool) (i : Nat) {j : Nat} (h : j < 256) : (letR1 f i).getD j 0 = if j < i ∧ f j = true then 1 else 0 := by
  simp [letR1,List.getD_eq_getElem?_getD,List.getElem?_range h]
theorem letR1_no (f : Nat → Bool) {i : Nat} (hf : f i = false) : letR1 f (i + 1) = letR1 f i := by
  unfold letR1
  refine List.map_congr_left fun j _ => ?_
  by_cases h : j = i
  · subst h; simp [hf]
  · have : (j < i + 1) ↔ (j < i) := by omega
    simp [this]
theorem letR1_yes (f : Nat → Bool) {i : Nat} (hi : i < 256) (hf : f i = true) : (letR1 f i).set i 1 = letR1 f (i + 1) := by
  refine List.ext_getElem? fun j => ?_
  rw [List.getElem?_set]
  by_cases h : i = j
  · subst h
    rw [if_pos rfl,if_pos (by rw [letR1_len]; exact hi)]
    simp [letR1,List.getElem?_range hi,hf]
  · rw [if_neg h]
    unfold letR1
    rw [List.getElem?_map,List.getElem?_map]
    cases hj : (List.range 256)[j]? with
    | none => rfl
    | some v =>
      have hv : v = j := by
        have := List.getElem?_eq_some_iff.1 hj
        obtain ⟨h1,h2⟩ := this
        rw [List.getElem_range] at h2; exact h2.symm
      subst hv
      have : (v < i + 1) ↔ (v < i) := by omega
      simp [this]
def letM (f : Nat → Bool) : Mch := ⟨0,letR1 f 256,[[0,1],[0,1]],[false,true]⟩
theorem letM_ok (f : Nat → Bool) : MOk (letM f) 2 := by
  have hl : (letM f).nx.length = 2 := rfl
  have hs : (letM f).start = 0 := rfl
  refine ⟨letR1_len f 256,by omega,by omega,rfl,⟨by omega,by omega⟩,by omega,?_,?_⟩
  · intro r hr
    have : r = [0,1] := by simpa [letM] using hr
    subst this
    exact ⟨rfl,fun q hq => by simp at hq; omega⟩
  · intro c hc
    obtain ⟨j,_,rfl⟩ := List.mem_map.1 hc
    split <;> decide
theorem letM_chk (f : Nat → Bool) : chkM (letM f) = 0 := by
  have h := letM_ok f
  have hF : Frm (letM f) ((letM f).nx.getD 0 []).length := ⟨h.cls,h.pos,h.acc,h.start,h.k1,h.row,h.letter⟩
  rw [chkM_ok hF]; rfl
theorem letM_stp (f : Nat → Bool) {q b : Nat} (hq : q < 2) (hb : b < 256) : stp (letM f) q b = if f b = true then 1 else 0 := by
  have h1 : (letM f).cls.getD b 0 = if b < 256 ∧ f b = true then 1 else 0 := letR1_get f 256 hb
  have h2 : (letM f).nx.getD q [] = [0,1] := by
    rcases (show q = 0 ∨ q = 1 by omega) with rfl | rfl <;> rfl
  unfold stp
  rw [h1,h2]
  cases f b
  · rw [if_neg (by simp),if_neg (by simp)]; rfl
  · rw [if_pos ⟨hb,rfl⟩,if_pos rfl]; rfl
def newLM (key : Nat) (f : Nat → Bool) (v : Value) (L1 : List Ent) : Prop := ∃ y F,v = MA.v y ∧ L1 = [frE key F] ∧ MFz F y ∧ y.m = letM f
theorem calls_Letters33 (key : Nat) (s : Let4) (hs : s.Ok) (w : World) :
    Calls Try.prog fn_evergreenlaw33_Letters #[l4V s] w fun e w' => ∃ v L1,e = .returned v ∧ R w [] L1 w' ∧ newLM key s.has v L1 := by
  refine new_call [.v (l4V s)] ok_evergreenlaw33_Letters (by simp) ?_
  have z1 : (List.replicate 256 [Value.int .i64 0]).flatten = ints .i64 (letR1 s.has 0) := by
    rw [letR1_zero,← flat_zeros]
  (repeat' ((conv => whnf); first | refine ⟨_,⟨rfl,trivial⟩,?_⟩ | (refine bcase_prop (fun h => ?_) (fun h => ?_) <;> try (exfalso; omega)) | (refine bcase_nprop (fun h => ?_) (fun h => ?_) <;> try (exfalso; omega)) | (refine bcase_intro (fun h => ?_) (fun h => ?_) <;> (try simp only [Bool.not_eq_true',Bool.not_eq_false',decide_eq_true_eq,decide_eq_false_iff_not,Bool.not_eq_true,Bool.not_eq_false,Decidable.not_not] at h)) | refine And.intro (by first | omega | exact rfl | assumption | exact ⟨rfl,rfl,rfl,rfl,rfl⟩ | exact ⟨rfl,rfl,rfl,rfl⟩ | exact ⟨rfl,by omega⟩ | exact oneAll_of rfl | exact ⟨rfl,oneAll_of rfl⟩ | exact Ref.refl _ | exact Thin.ref (.skip (Thin.refl _)) | exact Thin.ref (.skip (.skip (Thin.refl _))) | exact ⟨rfl,Nat.le_of_ble_eq_true rfl⟩ | ((try unfold maxLen); (try simp only [List.length_nil,List.length_cons,List.length_append]); omega) | (refine ⟨rfl,?_⟩; (try simp only [List.length_nil,List.length_cons,List.length_append]); omega)) ?_ | intro _)); (all_goals (conv => whnf))
  rename_i b1 b2 b5 b6 b7 b8 b9 b3
  refine VC_loop Nat (fun i => [(1,.ptr 1 b1 0),(2,.ptr 2 b2 0),(3,.ptr 3 b3 0),(11,.v (.int .i64 i))])
    (fun i => [.own 5 (some ⟨b5,0,none⟩) 256 256 ty_int 1 (ints .i64 (letR1 s.has i)),.own 6 (some ⟨b6,0,none⟩) 2 2 ty_int 1 (ints .i64 [0,1]),.own 7 (some ⟨b7,0,none⟩) 2 2 ty_int 1 (ints .i64 [0,1]),.own 8 (some ⟨b8,0,none⟩) 2 2 ty_Sl_int 1 [.slice (some ⟨b6,0,none⟩) 2 2,.slice (some ⟨b7,0,none⟩) 2 2],.own 9 (some ⟨b9,0,none⟩) 2 2 ty_bool 1 [.bool false,.bool true],.box 1 b1 [.int .u64 s.s0,.int .u64 s.s1,.int .u64 s.s2,.int .u64 s.s3] ty_api_Letters,.box 2 b2 [.int .i64 0,.slice none 0 0,.slice none 0 0,.slice none 0 0] ty_api_Machine,.box 3 b3 [.int .i64 0,.slice (some ⟨b5,0,none⟩) 256 256,.slice (some ⟨b8,0,none⟩) 2 2,.slice (some ⟨b9,0,none⟩) 2 2] ty_api_Machine])
    (fun i => i ≤ 256) (fun i => 256 - i) 0 (Nat.zero_le _) (by (repeat ((conv => whnf); refine And.intro (by first | exact rfl | exact vint_eq (by omega) | exact vint_eq (by (dsimp only; omega)) | exact vsl_eq (by omega) | exact vsl_eq (by first | (dsimp only; omega) | (simp; done) | (simp; omega))) ?_)); exact trivial) (Ref.takes [5,6,7,8,9,1,2,3] rfl (.own rfl z1 (Thin.refl _))) ?_
  intro i hi
  by_cases hlt : i < 256
  · have c1 := calls_r16Has s hs i hlt
    have m1 : (i : Int) % 256 = i := Int.emod_eq_of_lt (by omega) (by omega)
    have q0 : ((i : Nat) : Int).toNat = i := by omega
    have hll := letR1_len s.has i
    have bb : i + 1 ≤ (ints .i64 (letR1 s.has i)).length := by rw [ints_length]; omega
    cases hf : s.has i
    · rw [hf] at c1
      have hn := letR1_no s.has hf
      (repeat' ((conv => whnf); first | rw [m1] | rw [q0] | (first | refine CallK_pure (.v _) (fun w hR => c1 w) ?_ | refine QCall_pure (.v _) (fun w hR => c1 w) ?_) | refine ⟨_,⟨rfl,trivial⟩,?_⟩ | (refine bcase_prop (fun h => ?_) (fun h => ?_) <;> try (exfalso; omega)) | (refine bcase_nprop (fun h => ?_) (fun h => ?_) <;> try (exfalso; omega)) | (refine bcase_intro (fun h => ?_) (fun h => ?_) <;> (try simp only [Bool.not_eq_true',Bool.not_eq_false',decide_eq_true_eq,decide_eq_false_iff_not,Bool.not_eq_true,Bool.not_eq_false,Decidable.not_not] at h)) | refine And.intro (by first | omega | exact rfl | assumption | exact ⟨rfl,rfl,rfl,rfl,rfl⟩ | exact ⟨rfl,rfl,rfl,rfl⟩ | exact ⟨rfl,by omega⟩ | exact oneAll_of rfl | exact ⟨rfl,oneAll_of rfl⟩ | exact Ref.refl _ | exact Thin.ref (.skip (Thin.refl _)) | exact Thin.ref (.skip (.skip (Thin.refl _))) | exact ⟨rfl,Nat.le_of_ble_eq_true rfl⟩ | ((try unfold maxLen); (try simp only [List.length_nil,List.length_cons,List.length_append]); omega) | (refine ⟨rfl,?_⟩; (try simp only [List.length_nil,List.length_cons,List.length_append]); omega)) ?_ | intro _)); (all_goals (conv => whnf))
      all_goals first | (exfalso; omega) | skip
      exact loop_next (i + 1) (by omega) (by omega) (by (repeat ((conv => whnf); refine And.intro (by first | exact rfl | exact vint_eq (by omega) | exact vint_eq (by (dsimp only; omega)) | exact vsl_eq (by omega) | exact vsl_eq (by first | (dsimp only; omega) | (simp; done) | (simp; omega))) ?_)); exact trivial) (Ref.takes [5,6,7,8,9,1,2,3] rfl (.own rfl (by rw [hn]) (Thin.refl _)))
    · rw [hf] at c1
      have hn := letR1_yes s.has hlt hf
      have s1 : splice (ints .i64 (letR1 s.has i)) i [.int .i64 1] = ints .i64 (letR1 s.has (i + 1)) := by rw [splice_ints (by omega),hn]
      (repeat' ((conv => whnf); first | rw [m1] | rw [q0] | rw [s1] | (first | refine CallK_pure (.v _) (fun w hR => c1 w) ?_ | refine QCall_pure (.v _) (fun w hR => c1 w) ?_) | refine ⟨.sl 5 _ _ _,⟨rfl,rfl,rfl,rfl⟩,?_⟩ | refine ⟨_,⟨rfl,trivial⟩,?_⟩ | (refine bcase_prop (fun h => ?_) (fun h => ?_) <;> try (exfalso; omega)) | (refine bcase_nprop (fun h => ?_) (fun h => ?_) <;> try (exfalso; omega)) | (refine bcase_intro (fun h => ?_) (fun h => ?_) <;> (try simp only [Bool.not_eq_true',Bool.not_eq_false',decide_eq_true_eq,decide_eq_false_iff_not,Bool.not_eq_true,Bool.not_eq_false,Decidable.not_not] at h)) | refine And.intro (by first | omega | exact rfl | assumption | exact ⟨rfl,rfl,rfl,rfl,rfl⟩ | exact ⟨rfl,rfl,rfl,rfl⟩ | exact ⟨rfl,by omega⟩ | exact oneAll_of rfl | exact ⟨rfl,oneAll_of rfl⟩ | exact Ref.refl _ | exact Thin.ref (.skip (Thin.refl _)) | exact Thin.ref (.skip (.skip (Thin.refl _))) | exact ⟨rfl,bb⟩ | exact ⟨rfl,Nat.le_of_ble_eq_true rfl⟩ | ((try unfold maxLen); (try simp only [List.length_nil,List.length_cons,List.length_append]); omega) | (refine ⟨rfl,?_⟩; (try simp only [List.length_nil,List.length_cons,List.length_append]); omega)) ?_ | intro _)); (all_goals (conv => whnf))
      all_goals first | (exfalso; omega) | skip
      exact loop_next (i + 1) (by omega) (by omega) (by (repeat ((conv => whnf); refine And.intro (by first | exact rfl | exact vint_eq (by omega) | exact vint_eq (by (dsimp only; omega)) | exact vsl_eq (by omega) | exact vsl_eq (by first | (dsimp only; omega) | (simp; done) | (simp; omega))) ?_)); exact trivial) (Ref.takes [5,6,7,8,9,1,2,3] rfl (Thin.refl _))
  · obtain rfl : i = 256 := by omega
    (repeat' ((conv => whnf); first | refine ⟨_,⟨rfl,trivial⟩,?_⟩ | (refine bcase_prop (fun h => ?_) (fun h => ?_) <;> try (exfalso; omega)) | (refine bcase_nprop (fun h => ?_) (fun h => ?_) <;> try (exfalso; omega)) | (refine bcase_intro (fun h => ?_) (fun h => ?_) <;> (try simp only [Bool.not_eq_true',Bool.not_eq_false',decide_eq_true_eq,decide_eq_false_iff_not,Bool.not_eq_true,Bool.not_eq_false,Decidable.not_not] at h)) | refine And.intro (by first | omega | exact rfl | assumption | exact ⟨rfl,rfl,rfl,rfl,rfl⟩ | exact ⟨rfl,rfl,rfl,rfl⟩ | exact ⟨rfl,by omega⟩ | exact oneAll_of rfl | exact ⟨rfl,oneAll_of rfl⟩ | exact Ref.refl _ | exact Thin.ref (.skip (Thin.refl _)) | exact Thin.ref (.skip (.skip (Thin.refl _))) | exact ⟨rfl,Nat.le_of_ble_eq_true rfl⟩ | ((try unfold maxLen); (try simp only [List.length_nil,List.length_cons,List.length_append]); omega) | (refine ⟨rfl,?_⟩; (try simp only [List.length_nil,List.length_cons,List.length_append]); omega)) ?_ | intro _)); (all_goals (conv => whnf))
    all_goals first | (exfalso; omega) | skip
    refine ⟨⟨_,((Ref.takes [5,6,7,8,9] rfl (Thin.refl _)).trans (Ref.freezeNew 79)).trans (((Ref.takes [5,79,6,7,8,9] rfl (Thin.refl _)).trans Ref.freezeRow).trans (((Ref.takes [6,79,7,8,9] rfl (Thin.refl _)).trans Ref.freezeRow).trans (((Ref.takes [7,79,8,9] rfl (Thin.refl _)).trans Ref.freezeRow).trans (((Ref.takes [8,79,9] rfl (Thin.refl _)).trans Ref.freezeRow).trans (((Ref.takes [9,79] rfl (Thin.refl _)).trans Ref.freezeRow).trans (Thin.ref (Thin.abs (k' := key) (.nil _)))))))),
      ⟨0,letR1 s.has 256,some ⟨b5,0,none⟩,256,[⟨[0,1],some ⟨b6,0,none⟩,2⟩,⟨[0,1],some ⟨b7,0,none⟩,2⟩],some ⟨b8,0,none⟩,2,[false,true],some ⟨b9,0,none⟩,2⟩,_,?_,rfl,⟨?_,?_,?_,?_⟩,?_⟩⟩
    · dsimp only [MA.v,MA.cells]; rw [letR1_len]; rfl
    · exact FIn.head.tail.tail.tail.tail
    · exact FIn.head.tail
    · exact FIn.head
    · intro r hr
      simp only [List.mem_cons,List.not_mem_nil,or_false] at hr
      rcases hr with rfl | rfl
      · exact FIn.head.tail.tail.tail
      · exact FIn.head.tail.tail
    · rfl
end Go.Proofs.Ytoocnmfodhnpbaa
/- The example of the chapter: the program. -/
namespace Go.Proofs.Ytoocnmfodhnpbaa
open Go.EG
attribute [local irreducible] CallK QCall Go.Calls
set_option linter.unusedSimpArgs false
set_option linter.unusedVariables false
set_option maxRecDepth 20000
set_option maxHeartbeats 4000000
theorem letM_E (f : Nat → Bool) : ∀ (t : List Nat) (q : Nat),q < 2 → (∀ b ∈ t,b < 256) → runE (letM f) q t = match t.getLast? with | none => q | some b => if f b = true then 1 else 0
  | [],q,_,_ => rfl
  | [b],q,hq,hb => by
    show stp (letM f) q b = _
    rw [letM_stp f hq (hb b (by simp))]; rfl
  | b :: c :: t,q,hq,hb => by
    show runE (letM f) (stp (letM f) q b) (c :: t) = _
    have hs : stp (letM f) q b < 2 := by
      rw [letM_stp f hq (hb b (by simp))]; split <;> decide
    rw [letM_E f (c :: t) _ hs (fun x hx => hb x (List.mem_cons_of_mem _ hx))]
    rw [List.getLast?_cons_cons]
    cases h : (c :: t).getLast? with
    | none => simp at h
    | some z => rfl
theorem letM_H (f : Nat → Bool) (h : Nat) : ∀ (t : List Nat) (q : Nat),q < 2 → (∀ b ∈ t,b < 256) → runH (letM f) [0,(h : Int)] q t = h * t.countP f
  | [],q,_,_ => by simp [runH]
  | b :: t,q,hq,hb => by
    have hs : stp (letM f) q b < 2 := by
      rw [letM_stp f hq (hb b (by simp))]; split <;> decide
    show (([0,(h : Int)] : List Int).getD (stp (letM f) q b) 0).toNat + runH (letM f) [0,(h : Int)] (stp (letM f) q b) t = _
    rw [letM_H f h t _ hs (fun x hx => hb x (List.mem_cons_of_mem _ hx)),letM_stp f hq (hb b (by simp)),List.countP_cons]
    cases f b
    · simp
    · simp [Nat.mul_add,Nat.add_comm]
def allD (S : Sto) (i : Int) : Prop := 1 ≤ i ∧ i ≤ S.E.length
theorem allD_clo {S : Sto} (hw : WF S) : Clo S (allD S) := by
  intro i h
  obtain ⟨ho,_⟩ := hw.at_ h.1 h.2
  unfold allD at *
  refine ⟨h.1,h.2,fun hk => ?_,fun hk => ?_⟩
  · rcases ho with ho | ho | ho <;> omega
  · rcases ho with ho | ho | ho <;> omega
theorem allD_known {S : Sto} {n : Int} : n = 0 ∨ ¬ known S n ∨ allD S n := by
  by_cases h : known S n
  · by_cases h0 : n = 0
    · exact .inl h0
    · have := h.1
      exact .inr (.inr ⟨by omega,h.2⟩)
  · exact .inr (.inl h)
def gB : List Rul := [⟨1,97,0,0,0⟩,⟨1,98,0,0,0⟩,⟨2,0,1,2,0⟩,⟨3,0,1,0,2⟩,⟨2,0,3,4,0⟩]
abbrev tB : Tm := .pr (.pr (.lt 97) (.lt 98)) (.pw (.lt 97) 2)
theorem gB_chk : chk 1 gB = 0 := by decide
theorem gB_rul : ∀ i,i < gB.length → okR (gB.getD i rul0) (i + 1) := fun i hi => by
  have := (chk_zero.1 gB_chk) i hi
  rwa [show (1 : Int) + (i : Int) = i + 1 by omega] at this
theorem gB_let : ∀ i,i < gB.length → 0 ≤ (gB.getD i rul0).l ∧ (gB.getD i rul0).l < 256 := by decide
theorem gB_gram : Gram gB := ⟨gB_rul,gB_let,by decide⟩
theorem gB_imp : ∃ S to,stImp ⟨10,[]⟩ [0] gB = some (S,to) ∧ WF S ∧ known S (to.getD 5 0) ∧ tm S.E (to.getD 5 0) = tB := by
  obtain ⟨S,to,h1,h2,_,h4,_⟩ := stImp_ok (g := gB) (WF.new 10 (by decide)) (Rel.start _) (fun i hi => by
    have := gB_rul i hi
    rwa [show (([] : List Tm).length : Int) + 1 + (i : Int) = i + 1 by simp; omega]) gB_let (by decide) (by decide)
  obtain ⟨a,b,c⟩ := h4.at_ 5 (by decide) (by decide)
  exact ⟨S,to,h1,h2,⟨by omega,b⟩,c⟩
def sB : Let4 := ⟨0,8589934592,0,0⟩
theorem sB_ok : sB.Ok := ⟨by decide,by decide,by decide,by decide⟩
theorem tabE_let {y : MA} {f : Nat → Bool} (hy : y.m = letM f) {h : Int} (hh : 0 ≤ h ∧ h ≤ 1048576) : tabE y [0,h] = 0 := by
  refine tabE_ok (by rw [hy]; exact letM_chk f) ⟨?_,by simp; omega⟩
  have : y.m.nx.length = y.nr.length := List.length_map ..
  rw [← this,hy]; rfl
theorem MFz.in_ {w0 w : World} {fp0 : List Nat} {L Lr : List Ent} {key : Nat} {F : List Frz} {x : MA} (hR : R w0 fp0 L w) (hm : pickE key L = some (frE key F,Lr)) (h : MFz F x) : McI w [] x := by
  have hm' := (pickE_perm hm).mem_iff.2 (List.mem_cons_self (a := frE key F) (l := Lr))
  exact ⟨FIn.in_ hR hm' h.cls,FIn.in_ hR hm' h.nx,FIn.in_ hR hm' h.acc,fun r hr => FIn.in_ hR hm' (h.row r hr)⟩
theorem calls_awake33 (w : World) : Calls Try.prog fn_evergreenlaw33_awake #[] w fun e w' => e = .returned (.bool true) ∧ Ext w w' := by
  refine pure_call [] w ok_evergreenlaw33_awake (by simp) ?_
  have c1 := fun w => calls_New 10 77 w
  rw [show clipS 10 = 10 from rfl] at c1
  obtain ⟨S,to,himp,hw,hk,ht⟩ := gB_imp
  have c2 := fun b key fp w hR a c hin => calls_Import b ⟨10,[]⟩ (WF.new 10 (by decide)) gB gB_gram S to himp (by decide) a c key fp w hR hin
  have hl : gB.length = 5 := rfl
  rw [hl] at c2
  generalize to.getD 5 0 = n at *
  have c3 := fun w => calls_Letters33 79 sB sB_ok w
  have hT : TbOk ⟨letM sB.has,[0,1],false,allD S⟩ 2 := ⟨letM_ok _,rfl,fun h hh => by simp at hh; omega⟩
  have q0 : askOk ⟨letM sB.has,[0,1],false,allD S⟩ S n 0 := ⟨hk,by decide,by show (0 : Int) < ((2 : Nat) : Int); decide⟩
  have c5 := fun bt b => calls_THits bt b ⟨letM sB.has,[0,1],false,allD S⟩ hT S hw (allD_clo hw) n 0 allD_known
  have c6 := fun bt b => calls_TPart bt b ⟨letM sB.has,[0,1],false,allD S⟩ hT S hw (allD_clo hw) n 1 2 0 allD_known
  have r1 : runH (letM sB.has) [0,1] 0 (ori false tB.txt) = 3 := by
    have := letM_H sB.has 1 tB.txt 0 (by decide) (by decide)
    exact this.trans (by decide)
  have r2 : runH (letM sB.has) [0,1] 0 (ori false ((tB.txt.drop 1).take 2)) = 1 := by
    have := letM_H sB.has 1 ((tB.txt.drop 1).take 2) 0 (by decide) (by decide)
    exact this.trans (by decide)
  have r3 : runE (letM sB.has) 0 (ori false ((tB.txt.drop 1).take 2)) = 1 := by
    have := letM_E sB.has ((tB.txt.drop 1).take 2) 0 (by decide) (by decide)
    exact this.trans (by decide)
  have e5 : hitV ⟨letM sB.has,[0,1],false,allD S⟩ S n 0 = .tuple #[.int .i64 3,.nilIface] := by
    unfold hitV
    rw [if_pos q0,ht]
    dsimp only
    rw [show (0 : Int).toNat = 0 from rfl,r1,if_pos (by decide)]; rfl
  have e6 : prtV ⟨letM sB.has,[0,1],false,allD S⟩ S n 1 2 0 = .tuple #[.int .i64 1,.int .i64 1,.nilIface] := by
    unfold prtV
    rw [if_pos q0,ht,if_pos (by decide)]
    dsimp only
    rw [show (0 : Int).toNat = 0 from rfl,show (1 : Int).toNat = 1 from rfl,show (2 : Int).toNat = 2 from rfl,r2,r3,if_pos (by decide)]; rfl
  simp only [e5] at c5
  simp only [e6] at c6
  have c4 := fun bs (y : MA) (hy : y.m = letM sB.has) (w' : World) hm ha hc hh => calls_TabNew 78 bs (allD S) S.E (w := w') y hm [0,1] ha hc hh false (tabE_let (f := sB.has) hy (by decide))
  have c4 := fun bs (y : MA) (hy : y.m = letM sB.has) (w' : World) hm ha hc hh => by
    have := c4 bs y hy w' hm ha hc hh
    rw [hy] at this
    exact this
  (repeat' ((conv => whnf); first | (refine CallK_new (fun w hR => c1 w) ?_; rintro _ _ ⟨bn,fpn,rfl,rfl⟩; refine ⟨.v _,rfl,?_⟩) | (refine CallK_pack (key := 77) rfl (fun w hR h0 => c2 _ _ _ _ h0 _ _ (In.beside (key := 22) hR rfl)) ?_; rintro _ _ ⟨rfl,fp',rfl⟩; refine ⟨.v _,rfl,?_⟩) | ((refine CallK_new (fun w' hR => c3 w') ?_); rintro _ _ ⟨y,F,rfl,rfl,hF,hy⟩; refine ⟨.v _,rfl,?_⟩) | ((refine CallK_new (fun w' hR => c4 _ y hy w' (hF.in_ (key := 79) hR rfl) _ _ (In.ownR (key := 31) hR rfl)) ?_); rintro _ _ ⟨bt,fpt,rfl,rfl⟩; refine ⟨.v _,rfl,?_⟩) | (refine CallK_pack2 (key1 := 78) (key2 := 77) rfl rfl (fun w hR h0 => c5 _ _ _ _ _ _ _ h0) ?_; rintro _ _ ⟨rfl,fp1',fp2',rfl⟩; refine ⟨.v _,rfl,?_⟩) | (refine CallK_pack2 (key1 := 78) (key2 := 77) rfl rfl (fun w hR h0 => c6 _ _ _ _ _ _ _ h0) ?_; rintro _ _ ⟨rfl,fp1',fp2',rfl⟩; refine ⟨.v _,rfl,?_⟩) | refine ⟨_,⟨rfl,trivial⟩,?_⟩ | (refine bcase_prop (fun h => ?_) (fun h => ?_) <;> try (exfalso; omega)) | (refine bcase_nprop (fun h => ?_) (fun h => ?_) <;> try (exfalso; omega)) | (refine bcase_intro (fun h => ?_) (fun h => ?_) <;> (try simp only [Bool.not_eq_true',Bool.not_eq_false',decide_eq_true_eq,decide_eq_false_iff_not,Bool.not_eq_true,Bool.not_eq_false,Decidable.not_not] at h)) | refine And.intro (by first | omega | exact rfl | assumption | exact ⟨rfl,rfl,rfl,rfl,rfl⟩ | exact ⟨rfl,rfl,rfl,rfl⟩ | exact ⟨rfl,by omega⟩ | exact oneAll_of rfl | exact ⟨rfl,oneAll_of rfl⟩ | exact Ref.refl _ | exact Thin.ref (.skip (Thin.refl _)) | exact Thin.ref (.skip (.skip (Thin.refl _))) | exact ⟨rfl,Nat.le_of_ble_eq_true rfl⟩ | ((try unfold maxLen); (try simp only [List.length_nil,List.length_cons,List.length_append]); omega) | (refine ⟨rfl,?_⟩; (try simp only [List.length_nil,List.length_cons,List.length_append]); omega)) ?_ | intro _)); (all_goals (conv => whnf))
  all_goals first | (exfalso; omega) | exact ⟨rfl⟩ | skip
end Go.Proofs.Ytoocnmfodhnpbaa
/- What a rule reaches,and Export: the program. -/
namespace Go.Proofs.Ytoocnmfodhnpbaa
open Go.EG
attribute [local irreducible] CallK QCall Go.Calls
set_option linter.unusedSimpArgs false
set_option linter.unusedVariables false
set_option maxRecDepth 20000
set_option maxHeartbeats 4000000
def seenM (L : List Int) : List (Value × Value) := L.map fun x => (.int .i64 x,.bool true)
theorem keyEq_int {x y : Int} : keyEq (.int .i64 x) (.int .i64 y) = true ↔ x = y := by simp [keyEq]
theorem seen_none {L : List Int} {y : Int} (h : y ∉ L) : mget (seenM L) (.int .i64 y) = none := by
  induction L with
  | nil => rfl
  | cons x L ih =>
    simp only [seenM,List.map_cons,mget]
    rw [if_neg (fun hk => h (by rw [keyEq_int.1 hk]; simp))]
    exact ih (fun hm => h (by simp [hm]))
theorem seen_some {L : List Int} {y : Int} (h : y ∈ L) : mget (seenM L) (.int .i64 y) = some (.bool true) := by
  induction L with
  | nil => simp at h
  | cons x L ih =>
    simp only [seenM,List.map_cons,mget]
    by_cases hx : y = x
    · rw [if_pos (keyEq_int.2 hx)]
    · rw [if_neg (fun hk => hx (keyEq_int.1 hk))]
      exact ih (by simpa [hx] using h)
theorem seen_set {L : List Int} {y : Int} (h : y ∉ L) : mset (seenM L) (.int .i64 y) (.bool true) = seenM (L ++ [y]) := by
  induction L with
  | nil => rfl
  | cons x L ih =>
    have hx : ¬ keyEq (.int .i64 y) (.int .i64 x) = true := fun hk => h (by rw [keyEq_int.1 hk]; simp)
    have ih := ih (fun hm => h (by simp [hm]))
    simp only [seenM,List.map_cons,mset,if_neg hx,List.cons_append] at ih ⊢
    rw [ih]
structure RchG where
  i : Nat
  L : List Int
  a : Option Addr
  c : Nat
structure RchJ where
  j : Nat
  L : List Int
  a : Option Addr
  c : Nat
structure XpG where
  i : Nat
  a : Option Addr
  c : Nat
end Go.Proofs.Ytoocnmfodhnpbaa
/- The rules that roots reach: the program. -/
namespace Go.Proofs.Ytoocnmfodhnpbaa
open Go.EG
attribute [local irreducible] CallK QCall Go.Calls
set_option linter.unusedSimpArgs false
set_option linter.unusedVariables false
set_option maxRecDepth 20000
set_option maxHeartbeats 4000000
def SortsN (P : Program) (f : FuncId) : Prop := ∀ (p : Option Addr) (cap : Nat) (w : World),Calls P f #[.slice p 0 cap] w fun e w' => e = .returned (.tuple #[]) ∧ w' = w
inductive Rc (S : Sto) (rs : List Int) : Int → Prop
  | root {x : Int} : x ∈ rs → x ≠ 0 → Rc S rs x
  | ref {x y : Int} : Rc S rs y → x ∈ refsL (atE S.E y).r → Rc S rs x
theorem Rc.mono {S : Sto} {rs rs' : List Int} (h : ∀ x ∈ rs,x ∈ rs') {x : Int} (k : Rc S rs x) : Rc S rs' x := by
  induction k with
  | root h1 h2 => exact .root (h _ h1) h2
  | ref _ h2 ih => exact .ref ih h2
structure Bf (S : Sto) (i : Nat) (L : List Int) : Prop where
  nod : L.Nodup
  pos : ∀ x ∈ L,1 ≤ x ∧ x ≤ S.E.length
  cls : ∀ j,j < i → ∀ y ∈ refsL (atE S.E (L.getD j 0)).r,y ∈ L
theorem Bf.len {S : Sto} {i : Nat} {L : List Int} (h : Bf S i L) : L.length ≤ S.E.length := nodup_len h.nod h.pos
def addR (L : List Int) (x : Int) : List Int := if x = 0 ∨ x ∈ L then L else L ++ [x]
theorem addR_sub {L : List Int} {x y : Int} (h : y ∈ L) : y ∈ addR L x := by
  unfold addR; split
  · exact h
  · exact List.mem_append_left _ h
theorem addR_mem {L : List Int} {x : Int} (h : x ≠ 0) : x ∈ addR L x := by
  unfold addR; split
  · rename_i k; exact k.resolve_left h
  · simp
theorem addR_getD {L : List Int} {x : Int} {j : Nat} (h : j < L.length) : (addR L x).getD j 0 = L.getD j 0 := by
  unfold addR; split
  · rfl
  · exact getD_append_left h
theorem addR_le (L : List Int) (x : Int) : L.length ≤ (addR L x).length := by
  unfold addR; split
  · exact Nat.le_refl _
  · simp
theorem Bf.add {S : Sto} {i : Nat} {L : List Int} (h : Bf S i L) (hi : i ≤ L.length) {x : Int} (hx : 0 ≤ x ∧ x ≤ S.E.length) : Bf S i (addR L x) := by
  by_cases hm : x = 0 ∨ x ∈ L
  · unfold addR; rw [if_pos hm]; exact h
  have hm1 : x ≠ 0 := fun h => hm (.inl h)
  have hm2 : x ∉ L := fun h => hm (.inr h)
  refine ⟨?_,?_,fun j hj y hy => ?_⟩
  · unfold addR; rw [if_neg hm,List.nodup_append]
    exact ⟨h.nod,by simp,fun a ha b hb => by rw [List.mem_singleton] at hb; subst hb; exact fun e => hm2 (e ▸ ha)⟩
  · intro y hy
    unfold addR at hy; rw [if_neg hm] at hy
    rcases List.mem_append.1 hy with hy | hy
    · exact h.pos y hy
    · rw [List.mem_singleton] at hy; subst hy; omega
  · rw [addR_getD (by omega)] at hy
    exact addR_sub (h.cls j hj y hy)
theorem Bf.next {S : Sto} {i : Nat} {L : List Int} (h : Bf S i L) (hr : ∀ y ∈ refsL (atE S.E (L.getD i 0)).r,y ∈ L) : Bf S (i + 1) L :=
  ⟨h.nod,h.pos,fun j hj => by
    by_cases he : j = i
    · subst he; exact hr
    · exact h.cls j (by omega)⟩
theorem Bf.all {S : Sto} {rs L : List Int} (h : Bf S L.length L) (hr : ∀ x ∈ rs,x ≠ 0 → x ∈ L) {x : Int} (k : Rc S rs x) : x ∈ L := by
  induction k with
  | root h1 h2 => exact hr _ h1 h2
  | ref _ h2 ih =>
    obtain ⟨e1,e2⟩ := idxOf_getD ih
    exact h.cls _ e1 _ (by rw [e2]; exact h2)
theorem Rc.known {S : Sto} (hw : WF S) {rs : List Int} (hr : ∀ x ∈ rs,0 ≤ x ∧ x ≤ S.E.length) {x : Int} (k : Rc S rs x) : 1 ≤ x ∧ x ≤ S.E.length := by
  induction k with
  | root h1 h2 => have := hr _ h1; omega
  | ref _ h2 ih =>
    have hok := hw.okAt ih.1 ih.2
    obtain ⟨j,hj,rfl⟩ := List.getElem_of_mem h2
    have := okR_refs hok j hj
    rw [List.getD_eq_getElem?_getD,List.getElem?_eq_getElem hj] at this
    simp only [Option.getD_some] at this
    omega
theorem Rc.clo {S : Sto} (hw : WF S) {rs : List Int} (hr : ∀ x ∈ rs,0 ≤ x ∧ x ≤ S.E.length) : Clo S (Rc S rs) := by
  intro i h
  have hp := h.known hw hr
  obtain ⟨ho,_⟩ := hw.at_ hp.1 hp.2
  refine ⟨hp.1,hp.2,fun hk => .ref h ?_,fun hk => .ref h (by rw [refs_two hk]; simp)⟩
  have : (atE S.E i).r.k = 2 ∨ (atE S.E i).r.k = 3 := by rcases ho with ho | ho | ho <;> omega
  rcases this with h2 | h2
  · rw [refs_two h2]; simp
  · rw [refs_one h2]; simp
theorem calls_cknown (b : Nat) (S : Sto) (n : Int) (hn : 0 ≤ n ∧ n ≤ S.E.length) : SC fn_collect_known #[pS b,.int .i64 n] b S S (.bool true) := by
  intro key fp w hR
  refine part_call [.v (pS b),.v (.int .i64 n)] ok_collect_known (by simp) (hR.key 77) ?_
  have c1 := calls_sLen b S
  (repeat' ((conv => whnf); first | (refine CallK_pack (key := 77) rfl (fun w hR h0 => c1 _ _ _ h0) ?_; rintro _ _ ⟨rfl,fp',rfl⟩; refine ⟨.v _,rfl,?_⟩) | refine ⟨_,⟨rfl,trivial⟩,?_⟩ | (refine bcase_prop (fun h => ?_) (fun h => ?_) <;> try (exfalso; omega)) | (refine bcase_nprop (fun h => ?_) (fun h => ?_) <;> try (exfalso; omega)) | (refine bcase_intro (fun h => ?_) (fun h => ?_) <;> (try simp only [Bool.not_eq_true',Bool.not_eq_false',decide_eq_true_eq,decide_eq_false_iff_not,Bool.not_eq_true,Bool.not_eq_false,Decidable.not_not] at h)) | refine And.intro (by first | omega | exact rfl | assumption | exact ⟨rfl,rfl,rfl,rfl,rfl⟩ | exact ⟨rfl,rfl,rfl,rfl⟩ | exact ⟨rfl,by omega⟩ | exact oneAll_of rfl | exact ⟨rfl,oneAll_of rfl⟩ | exact Ref.refl _ | exact Thin.ref (.skip (Thin.refl _)) | exact Thin.ref (.skip (.skip (Thin.refl _))) | exact ⟨rfl,Nat.le_of_ble_eq_true rfl⟩ | ((try unfold maxLen); (try simp only [List.length_nil,List.length_cons,List.length_append]); omega) | (refine ⟨rfl,?_⟩; (try simp only [List.length_nil,List.length_cons,List.length_append]); omega)) ?_ | intro _)); (all_goals (conv => whnf))
  all_goals first | (exfalso; omega) | skip
  all_goals exact ⟨endP (by (repeat (first | exact Thin.nil _ | exact Thin.refl _ | refine Thin.keep rfl (fun _ h => h) ?_ | refine Thin.skip ?_))) (by rw [decide_eq_true hn.2])⟩
abbrev viL (b6 b7 bm : Nat) (L : List Int) (a : Option Addr) (c : Nat) : List Ent :=
  [.box 6 b6 [.slice a L.length c] ty_Sl_api_ID,.box 7 b7 [.map (some bm)] ty_map_api_ID_bool,.mapE 19 bm (.int .i64) (seenM (0 :: L)),.own 13 a L.length c ty_api_ID 1 (ints .i64 L)]
def viQ (b6 b7 bm : Nat) (L : List Int) (v : Value) (L1 : List Ent) : Prop := ∃ a c,v = .tuple #[] ∧ L1 = viL b6 b7 bm L a c
theorem calls_visit (b6 b7 bm : Nat) (L : List Int) (a : Option Addr) (c : Nat) (x : Int) (hl : L.length ≤ 1048576) (fp : List Nat) (w : World) (hR : R w fp (viL b6 b7 bm L a c) w) :
    Calls Try.prog fn_collect_Reach_1 #[.int .i64 x,pS b7,pS b6] w fun e w' => ∃ v L1,e = .returned v ∧ R w fp L1 w' ∧ viQ b6 b7 bm (addR L x) v L1 := by
  refine part_call [.v (.int .i64 x),.ptr 7 b7 0,.ptr 6 b6 0] ok_collect_Reach_1 (by simp) hR ?_
  by_cases hm : x = 0 ∨ x ∈ L
  · have hs : x ∈ 0 :: L := by
      rcases hm with h | h
      · simp [h]
      · simp [h]
    have hm2 := seen_some hs
    unfold addR; rw [if_pos hm]
    (repeat' ((conv => whnf); first | refine lk_some hm2 ?_ | refine ⟨.mp 19 _,⟨rfl,rfl⟩,?_⟩ | (refine bcase_prop (fun h => ?_) (fun h => ?_) <;> try (exfalso; omega)) | (refine bcase_nprop (fun h => ?_) (fun h => ?_) <;> try (exfalso; omega)) | (refine bcase_intro (fun h => ?_) (fun h => ?_) <;> (try simp only [Bool.not_eq_true',Bool.not_eq_false',decide_eq_true_eq,decide_eq_false_iff_not,Bool.not_eq_true,Bool.not_eq_false,Decidable.not_not] at h)) | refine And.intro (by first | omega | exact rfl | assumption | exact ⟨rfl,rfl,rfl,rfl,rfl⟩ | exact ⟨rfl,rfl,rfl,rfl⟩ | exact ⟨rfl,by omega⟩ | exact oneAll_of rfl | exact ⟨rfl,oneAll_of rfl⟩ | exact Ref.refl _ | exact Thin.ref (.skip (Thin.refl _)) | exact Thin.ref (.skip (.skip (Thin.refl _))) | exact ⟨rfl,rfl,_,rfl⟩ | exact ⟨rfl,Nat.le_of_ble_eq_true rfl⟩ | ((try unfold maxLen); (try simp only [List.length_nil,List.length_cons,List.length_append]); omega) | (refine ⟨rfl,?_⟩; (try simp only [List.length_nil,List.length_cons,List.length_append]); omega)) ?_ | intro _)); (all_goals (conv => whnf))
    exact ⟨⟨_,Ref.refl _,a,c,rfl,rfl⟩⟩
  have hs : x ∉ 0 :: L := by
    intro h
    rcases List.mem_cons.1 h with h | h
    · exact hm (.inl h)
    · exact hm (.inr h)
  have hm2 := seen_none hs
  have hs2 := seen_set hs
  unfold addR; rw [if_neg hm]
  (repeat' ((conv => whnf); first | rw [hs2] | refine lk_none hm2 ?_ | refine ⟨.mp 19 _,⟨rfl,rfl⟩,?_⟩ | refine ⟨.sl 13 _ _ _,⟨rfl,rfl,rfl,rfl⟩,?_⟩ | (refine bcase_prop (fun h => ?_) (fun h => ?_) <;> try (exfalso; omega)) | (refine bcase_nprop (fun h => ?_) (fun h => ?_) <;> try (exfalso; omega)) | (refine bcase_intro (fun h => ?_) (fun h => ?_) <;> (try simp only [Bool.not_eq_true',Bool.not_eq_false',decide_eq_true_eq,decide_eq_false_iff_not,Bool.not_eq_true,Bool.not_eq_false,Decidable.not_not] at h)) | refine And.intro (by first | omega | exact rfl | assumption | exact ⟨rfl,rfl,rfl,rfl,rfl⟩ | exact ⟨rfl,rfl,rfl,rfl⟩ | exact ⟨rfl,by omega⟩ | exact oneAll_of rfl | exact ⟨rfl,oneAll_of rfl⟩ | exact Ref.refl _ | exact Thin.ref (.skip (Thin.refl _)) | exact Thin.ref (.skip (.skip (Thin.refl _))) | exact ⟨rfl,rfl,_,rfl⟩ | exact ⟨by unfold maxLen; omega,by omega⟩ | exact ⟨rfl,Nat.le_of_ble_eq_true rfl⟩ | ((try unfold maxLen); (try simp only [List.length_nil,List.length_cons,List.length_append]); omega) | (refine ⟨rfl,?_⟩; (try simp only [List.length_nil,List.length_cons,List.length_append]); omega)) ?_ | intro _)); (all_goals (conv => whnf))
  rename_i a' c'
  have hMl : (L ++ [x]).length = L.length + 1 := by simp
  refine ⟨⟨_,?_,a',c',rfl,rfl⟩⟩
  unfold viL
  rw [hMl,← Go.EG.ints_snoc]
  exact Ref.takes [6,7,19,13] rfl (Thin.refl _)
def rcQ (key b : Nat) (S : Sto) (rs : List Int) (v : Value) (L1 : List Ent) : Prop :=
  ∃ L a c fp',v = .tuple #[.slice a (L : List Int).length c,.nilIface] ∧ L.length ≤ S.E.length ∧ (∀ x,Rc S rs x → x ∈ L) ∧ L1 = [packE key fp' (fS b S),.own 813 a L.length c ty_api_ID 1 (ints .i64 L)]
structure RcG where
  i : Nat
  L : List Int
  a : Option Addr
  c : Nat
  fp : List Nat
theorem calls_Reach (hs : SortsI Try.prog fn_slices_Sort_Sl_api_ID_api_ID) (hn : SortsN Try.prog fn_slices_Sort_Sl_api_ID_api_ID) (b : Nat) (S : Sto) (hw : WF S) (rs : List Int) (hrs : ∀ x ∈ rs,0 ≤ x ∧ x ≤ S.E.length) (hrl : rs.length ≤ 1048576) (ar : Option Addr) (cr key : Nat) (fp : List Nat) (w : World) (hR : StR w key fp b S) (hin : In w fp ar (ints .i64 rs)) :
    Calls Try.prog fn_collect_Reach #[pS b,.slice ar rs.length cr] w fun e w' => ∃ v L1,e = .returned v ∧ R w fp L1 w' ∧ rcQ key b S rs v L1 := by
  refine part_call [.v (pS b),.v (.slice ar rs.length cr)] ok_collect_Reach (by simp) (hR.key 77) ?_
  have hsm := hw.small
  have m0 : mset ([] : List (Value × Value)) (.int .i64 0) (.bool true) = seenM [0] := rfl
  (repeat' ((conv => whnf); first | rw [m0] | (refine bcase_prop (fun h => ?_) (fun h => ?_) <;> try (exfalso; omega)) | (refine bcase_nprop (fun h => ?_) (fun h => ?_) <;> try (exfalso; omega)) | (refine bcase_intro (fun h => ?_) (fun h => ?_) <;> (try simp only [Bool.not_eq_true',Bool.not_eq_false',decide_eq_true_eq,decide_eq_false_iff_not,Bool.not_eq_true,Bool.not_eq_false,Decidable.not_not] at h)) | refine And.intro (by first | omega | exact rfl | assumption | exact ⟨rfl,rfl,rfl,rfl,rfl⟩ | exact ⟨rfl,rfl,rfl,rfl⟩ | exact ⟨rfl,by omega⟩ | exact oneAll_of rfl | exact ⟨rfl,oneAll_of rfl⟩ | exact Ref.refl _ | exact Thin.ref (.skip (Thin.refl _)) | exact Thin.ref (.skip (.skip (Thin.refl _))) | exact ⟨rfl,rfl,_,rfl⟩ | exact ⟨rfl,Nat.le_of_ble_eq_true rfl⟩ | ((try unfold maxLen); (try simp only [List.length_nil,List.length_cons,List.length_append]); omega) | (refine ⟨rfl,?_⟩; (try simp only [List.length_nil,List.length_cons,List.length_append]); omega)) ?_ | intro _)); (all_goals (conv => whnf))
  rename_i b6 bm b7
  have cV := fun (L : List Int) (hl : L.length ≤ 1048576) a c x fp w h => calls_visit b6 b7 bm L a c x hl fp w h
  refine VC_loop RcG (fun x => [(0,.v (pS b)),(6,.ptr 6 b6 0),(8,.v (.func (.func fn_collect_Reach_1) #[] #[pS b7,pS b6])),(22,.v (.slice ar rs.length cr)),(23,.v (.int .i64 rs.length)),(24,.v (.int .i64 x.i))])
    (fun x => [.box 6 b6 [.slice x.a x.L.length x.c] ty_Sl_api_ID,.box 7 b7 [.map (some bm)] ty_map_api_ID_bool,.mapE 19 bm (.int .i64) (seenM (0 :: x.L)),.own 13 x.a x.L.length x.c ty_api_ID 1 (ints .i64 x.L),packE 77 x.fp (fS b S)])
    (fun x => x.i ≤ rs.length ∧ Bf S 0 x.L ∧ ∀ y ∈ rs.take x.i,y ≠ 0 → y ∈ x.L) (fun x => rs.length - x.i) ⟨0,[],none,0,fp⟩ ⟨Nat.zero_le _,⟨by simp,fun _ h => by simp at h,fun j hj => absurd hj (Nat.not_lt_zero j)⟩,fun _ h => by simp at h⟩ (by (repeat ((conv => whnf); refine And.intro (by first | exact rfl | exact vint_eq (by omega) | exact vint_eq (by (dsimp only; omega)) | exact vsl_eq (by omega) | exact vsl_eq (by first | (dsimp only; omega) | (simp; done) | (simp; omega))) ?_)); exact trivial) ((Ref.ownNil 13 ty_api_ID 1).trans (Ref.takes [6,7,19,13,77] rfl (Thin.refl _))) ?_
  rintro ⟨i,L,a,c,fpx⟩ ⟨hi,hB,hL⟩
  dsimp only at hi hB hL ⊢
  have hlen := hB.len
  by_cases hlt : i < rs.length
  · have rd := fun {L : List Ent} => rdI (L := L) hin (i := i) hlt
    have nr : ar ≠ none := hin.ne' (k := i) (by rw [ints_length]; exact hlt)
    have q0 : ((i : Nat) : Int).toNat = i := by omega
    have hm : rs.getD i 0 ∈ rs := getD_mem hlt
    have hx := hrs _ hm
    have htk : rs.take (i + 1) = rs.take i ++ [rs.getD i 0] := take_snoc hlt
    generalize rs.getD i 0 = x at *
    have c1 := calls_cknown b S x hx
    (repeat' ((conv => whnf); first | rw [q0] | refine ⟨_,rd,?_⟩ | (refine CallK_pack (key := 77) rfl (fun w hR h0 => c1 _ _ _ h0) ?_; rintro _ _ ⟨rfl,fp',rfl⟩; refine ⟨.v _,rfl,?_⟩) | (refine CallK_sub [6,7,19,13] rfl (fun w hR hR0 => cV L (by omega) a c x _ w hR0) ?_; rintro _ _ ⟨a',c',rfl,rfl⟩; refine ⟨.v _,rfl,?_⟩) | refine ⟨_,⟨rfl,trivial⟩,?_⟩ | (refine bcase_prop (fun h => ?_) (fun h => ?_) <;> try (exfalso; omega)) | (refine bcase_nprop (fun h => ?_) (fun h => ?_) <;> try (exfalso; omega)) | (refine bcase_intro (fun h => ?_) (fun h => ?_) <;> (try simp only [Bool.not_eq_true',Bool.not_eq_false',decide_eq_true_eq,decide_eq_false_iff_not,Bool.not_eq_true,Bool.not_eq_false,Decidable.not_not] at h)) | refine And.intro (by first | omega | exact rfl | assumption | exact ⟨rfl,rfl,rfl,rfl,rfl⟩ | exact ⟨rfl,rfl,rfl,rfl⟩ | exact ⟨rfl,by omega⟩ | exact oneAll_of rfl | exact ⟨rfl,oneAll_of rfl⟩ | exact Ref.refl _ | exact Thin.ref (.skip (Thin.refl _)) | exact Thin.ref (.skip (.skip (Thin.refl _))) | exact ⟨rfl,Nat.le_of_ble_eq_true rfl⟩ | ((try unfold maxLen); (try simp only [List.length_nil,List.length_cons,List.length_append]); omega) | (refine ⟨rfl,?_⟩; (try simp only [List.length_nil,List.length_cons,List.length_append]); omega)) ?_ | intro _)); (all_goals (conv => whnf))
    all_goals first | (exfalso; omega) | skip
    refine loop_next ⟨i + 1,addR L x,a',c',_⟩ ⟨hlt,hB.add (Nat.zero_le _) hx,fun y hy h0 => ?_⟩ (by ((try dsimp only); omega)) (by (repeat ((conv => whnf); refine And.intro (by first | exact rfl | exact vint_eq (by omega) | exact vint_eq (by (dsimp only; omega)) | exact vsl_eq (by omega) | exact vsl_eq (by first | (dsimp only; omega) | (simp; done) | (simp; omega))) ?_)); exact trivial) (Ref.takes [6,7,19,13,77] rfl (Thin.refl _))
    rw [htk] at hy
    rcases List.mem_append.1 hy with hy | hy
    · exact addR_sub (hL y hy h0)
    · rw [List.mem_singleton] at hy; subst hy; exact addR_mem h0
  obtain rfl : i = rs.length := by omega
  rw [List.take_length] at hL
  (repeat' ((conv => whnf); first | (refine bcase_prop (fun h => ?_) (fun h => ?_) <;> try (exfalso; omega)) | (refine bcase_nprop (fun h => ?_) (fun h => ?_) <;> try (exfalso; omega)) | (refine bcase_intro (fun h => ?_) (fun h => ?_) <;> (try simp only [Bool.not_eq_true',Bool.not_eq_false',decide_eq_true_eq,decide_eq_false_iff_not,Bool.not_eq_true,Bool.not_eq_false,Decidable.not_not] at h)) | refine And.intro (by first | omega | exact rfl | assumption | exact ⟨rfl,rfl,rfl,rfl,rfl⟩ | exact ⟨rfl,rfl,rfl,rfl⟩ | exact ⟨rfl,by omega⟩ | exact oneAll_of rfl | exact ⟨rfl,oneAll_of rfl⟩ | exact Ref.refl _ | exact Thin.ref (.skip (Thin.refl _)) | exact Thin.ref (.skip (.skip (Thin.refl _))) | exact ⟨rfl,Nat.le_of_ble_eq_true rfl⟩ | ((try unfold maxLen); (try simp only [List.length_nil,List.length_cons,List.length_append]); omega) | (refine ⟨rfl,?_⟩; (try simp only [List.length_nil,List.length_cons,List.length_append]); omega)) ?_ | intro _)); (all_goals (conv => whnf))
  refine VC_loop RcG (fun x => [(0,.v (pS b)),(6,.ptr 6 b6 0),(8,.v (.func (.func fn_collect_Reach_1) #[] #[pS b7,pS b6])),(11,.v (.int .i64 x.i))])
    (fun x => [.box 6 b6 [.slice x.a x.L.length x.c] ty_Sl_api_ID,.box 7 b7 [.map (some bm)] ty_map_api_ID_bool,.mapE 19 bm (.int .i64) (seenM (0 :: x.L)),.own 13 x.a x.L.length x.c ty_api_ID 1 (ints .i64 x.L),packE 77 x.fp (fS b S)])
    (fun x => x.i ≤ x.L.length ∧ Bf S x.i x.L ∧ ∀ y ∈ rs,y ≠ 0 → y ∈ x.L) (fun x => S.E.length - x.i) ⟨0,L,a,c,fpx⟩ ⟨Nat.zero_le _,hB,hL⟩ (by (repeat ((conv => whnf); refine And.intro (by first | exact rfl | exact vint_eq (by omega) | exact vint_eq (by (dsimp only; omega)) | exact vsl_eq (by omega) | exact vsl_eq (by first | (dsimp only; omega) | (simp; done) | (simp; omega))) ?_)); exact trivial) (Ref.takes [6,7,19,13,77] rfl (Thin.refl _)) ?_
  clear hlen hB hL hi hlt L a c fpx
  rintro ⟨i,L,a,c,fpx⟩ ⟨hi,hB,hL⟩
  dsimp only at hi hB hL ⊢
  have hlen := hB.len
  by_cases hlt : i < L.length
  · have hmem := getD_mem hlt
    obtain ⟨p1,p2⟩ := hB.pos _ hmem
    have q0 : ((i : Nat) : Int).toNat = i := by omega
    generalize hx : L.getD i 0 = x at *
    have c1 := calls_Rule b S x hsm
    rw [ruleV_ok p1 p2] at c1
    have c2 := calls_Refs (atE S.E x).r
    have hok := hw.okAt p1 p2
    have hrl := refsL_len (atE S.E x).r
    have hrr := okR_refs hok
    generalize hzs : refsL (atE S.E x).r = zs at *
    have q1 : Go.EG.intOf (atL (ints .i64 L) i) = x := by rw [intOf_ints hlt,hx]
    have k1 := isK_ints (k := .i64) hlt
    have hin2 : (ints .i64 L)[i]? = some (.int .i64 x) := by rw [← hx]; exact ints_getD hlt
    (repeat' ((conv => whnf); first | rw [q0] | rw [Nat.mul_one] | rw [q1] | (refine CallK_pack (key := 77) rfl (fun w hR h0 => c1 _ _ _ h0) ?_; rintro _ _ ⟨rfl,fp',rfl⟩; refine ⟨.v _,rfl,?_⟩) | refine CallK_slice 900 (fun w hR => c2 w) ?_ | refine ⟨.sl 13 _ _ _,⟨rfl,rfl,rfl,rfl⟩,?_⟩ | refine ⟨_,⟨rfl,trivial⟩,?_⟩ | (refine bcase_prop (fun h => ?_) (fun h => ?_) <;> try (exfalso; omega)) | (refine bcase_nprop (fun h => ?_) (fun h => ?_) <;> try (exfalso; omega)) | (refine bcase_intro (fun h => ?_) (fun h => ?_) <;> (try simp only [Bool.not_eq_true',Bool.not_eq_false',decide_eq_true_eq,decide_eq_false_iff_not,Bool.not_eq_true,Bool.not_eq_false,Decidable.not_not] at h)) | refine And.intro (by first | omega | exact rfl | assumption | exact ⟨rfl,rfl,rfl,rfl,rfl⟩ | exact ⟨rfl,rfl,rfl,rfl⟩ | exact ⟨rfl,by omega⟩ | exact oneAll_of rfl | exact ⟨rfl,oneAll_of rfl⟩ | exact Ref.refl _ | exact Thin.ref (.skip (Thin.refl _)) | exact Thin.ref (.skip (.skip (Thin.refl _))) | exact k1 | exact ⟨rfl,Nat.le_of_ble_eq_true rfl⟩ | ((try unfold maxLen); (try simp only [List.length_nil,List.length_cons,List.length_append]); omega) | (refine ⟨rfl,?_⟩; (try simp only [List.length_nil,List.length_cons,List.length_append]); omega)) ?_ | intro _)); (all_goals (conv => whnf))
    all_goals first | (exfalso; omega) | skip
    rename_i a9 c9
    refine VC_loop RcG (fun y => [(0,.v (pS b)),(6,.ptr 6 b6 0),(8,.v (.func (.func fn_collect_Reach_1) #[] #[pS b7,pS b6])),(11,.v (.int .i64 i)),(56,.sl 900 a9 zs.length c9),(57,.v (.int .i64 zs.length)),(58,.v (.int .i64 y.i))])
      (fun y => [.own 900 a9 zs.length c9 ty_api_ID 1 (ints .i64 zs),.box 6 b6 [.slice y.a y.L.length y.c] ty_Sl_api_ID,.box 7 b7 [.map (some bm)] ty_map_api_ID_bool,.mapE 19 bm (.int .i64) (seenM (0 :: y.L)),.own 13 y.a y.L.length y.c ty_api_ID 1 (ints .i64 y.L),packE 77 y.fp (fS b S)])
      (fun y => y.i ≤ zs.length ∧ Bf S i y.L ∧ (∀ z ∈ rs,z ≠ 0 → z ∈ y.L) ∧ (i < y.L.length ∧ y.L.getD i 0 = x) ∧ ∀ k,k < y.i → zs.getD k 0 ∈ y.L) (fun y => zs.length - y.i) ⟨0,L,a,c,_⟩ ⟨Nat.zero_le _,hB,hL,⟨hlt,hx⟩,fun k hk => absurd hk (Nat.not_lt_zero k)⟩ (by (repeat ((conv => whnf); refine And.intro (by first | exact rfl | exact vint_eq (by omega) | exact vint_eq (by (dsimp only; omega)) | exact vsl_eq (by omega) | exact vsl_eq (by first | (dsimp only; omega) | (simp; done) | (simp; omega))) ?_)); exact trivial) (Ref.takes [900,6,7,19,13,77] rfl (Thin.refl _)) ?_
    clear hB hL hlen hlt hx q1 k1 hin2 hmem hi
    rintro ⟨j,M,am,cm,fpm⟩ ⟨hj,hB,hL,⟨hiM,hxM⟩,hM⟩
    dsimp only at hj hB hL hiM hxM hM ⊢
    have hlen := hB.len
    by_cases hlj : j < zs.length
    · have hy := hrr j hlj
      generalize hyx : zs.getD j 0 = y at *
      have q1 : Go.EG.intOf (atL (ints .i64 zs) j) = y := by rw [intOf_ints hlj,hyx]
      have k1 := isK_ints (k := .i64) hlj
      have q2 : ((j : Nat) : Int).toNat = j := by omega
      (repeat' ((conv => whnf); first | rw [q2] | rw [Nat.mul_one] | rw [q1] | (refine CallK_sub [6,7,19,13] rfl (fun w hR hR0 => cV M (by omega) am cm y _ w hR0) ?_; rintro _ _ ⟨a',c',rfl,rfl⟩; refine ⟨.v _,rfl,?_⟩) | refine ⟨_,⟨rfl,trivial⟩,?_⟩ | (refine bcase_prop (fun h => ?_) (fun h => ?_) <;> try (exfalso; omega)) | (refine bcase_nprop (fun h => ?_) (fun h => ?_) <;> try (exfalso; omega)) | (refine bcase_intro (fun h => ?_) (fun h => ?_) <;> (try simp only [Bool.not_eq_true',Bool.not_eq_false',decide_eq_true_eq,decide_eq_false_iff_not,Bool.not_eq_true,Bool.not_eq_false,Decidable.not_not] at h)) | refine And.intro (by first | omega | exact rfl | assumption | exact ⟨rfl,rfl,rfl,rfl,rfl⟩ | exact ⟨rfl,rfl,rfl,rfl⟩ | exact ⟨rfl,by omega⟩ | exact oneAll_of rfl | exact ⟨rfl,oneAll_of rfl⟩ | exact Ref.refl _ | exact Thin.ref (.skip (Thin.refl _)) | exact Thin.ref (.skip (.skip (Thin.refl _))) | exact k1 | exact ⟨rfl,Nat.le_of_ble_eq_true rfl⟩ | ((try unfold maxLen); (try simp only [List.length_nil,List.length_cons,List.length_append]); omega) | (refine ⟨rfl,?_⟩; (try simp only [List.length_nil,List.length_cons,List.length_append]); omega)) ?_ | intro _)); (all_goals (conv => whnf))
      all_goals first | (exfalso; omega) | skip
      refine loop_next ⟨j + 1,addR M y,a',c',_⟩ ⟨hlj,hB.add (by omega) (by omega),fun z hz h0 => addR_sub (hL z hz h0),⟨Nat.lt_of_lt_of_le hiM (addR_le _ _),by rw [addR_getD hiM]; exact hxM⟩,fun k hk => ?_⟩ (by ((try dsimp only); omega)) (by (repeat ((conv => whnf); refine And.intro (by first | exact rfl | exact vint_eq (by omega) | exact vint_eq (by (dsimp only; omega)) | exact vsl_eq (by omega) | exact vsl_eq (by first | (dsimp only; omega) | (simp; done) | (simp; omega))) ?_)); exact trivial) (Ref.takes [900,6,7,19,13,77] rfl (Thin.refl _))
      rcases (show k < j ∨ k = j by have : k < j + 1 := hk; omega) with hk | rfl
      · exact addR_sub (hM k hk)
      · rw [hyx]; exact addR_mem (by omega)
    · obtain rfl : j = zs.length := by omega
      (repeat' ((conv => whnf); first | (refine bcase_prop (fun h => ?_) (fun h => ?_) <;> try (exfalso; omega)) | (refine bcase_nprop (fun h => ?_) (fun h => ?_) <;> try (exfalso; omega)) | (refine bcase_intro (fun h => ?_) (fun h => ?_) <;> (try simp only [Bool.not_eq_true',Bool.not_eq_false',decide_eq_true_eq,decide_eq_false_iff_not,Bool.not_eq_true,Bool.not_eq_false,Decidable.not_not] at h)) | refine And.intro (by first | omega | exact rfl | assumption | exact ⟨rfl,rfl,rfl,rfl,rfl⟩ | exact ⟨rfl,rfl,rfl,rfl⟩ | exact ⟨rfl,by omega⟩ | exact oneAll_of rfl | exact ⟨rfl,oneAll_of rfl⟩ | exact Ref.refl _ | exact Thin.ref (.skip (Thin.refl _)) | exact Thin.ref (.skip (.skip (Thin.refl _))) | exact ⟨rfl,Nat.le_of_ble_eq_true rfl⟩ | ((try unfold maxLen); (try simp only [List.length_nil,List.length_cons,List.length_append]); omega) | (refine ⟨rfl,?_⟩; (try simp only [List.length_nil,List.length_cons,List.length_append]); omega)) ?_ | intro _)); (all_goals (conv => whnf))
      refine loop_next ⟨i + 1,M,am,cm,fpm⟩ ⟨hiM,hB.next fun y hy => ?_,hL⟩ (by ((try dsimp only); omega)) (by (repeat ((conv => whnf); refine And.intro (by first | exact rfl | exact vint_eq (by omega) | exact vint_eq (by (dsimp only; omega)) | exact vsl_eq (by omega) | exact vsl_eq (by first | (dsimp only; omega) | (simp; done) | (simp; omega))) ?_)); exact trivial) (Ref.takes [6,7,19,13,77] rfl (Thin.refl _))
      rw [hxM,hzs] at hy
      obtain ⟨k,hk,rfl⟩ := List.getElem_of_mem hy
      have := hM k (by omega)
      rwa [List.getD_eq_getElem?_getD,List.getElem?_eq_getElem hk] at this
  · obtain rfl : i = L.length := by omega
    have hall := fun x (k : Rc S rs x) => hB.all hL k
    rcases Nat.eq_zero_or_pos L.length with h0 | h0
    · obtain rfl : L = [] := List.length_eq_zero_iff.1 h0
      have cN := fun w => hn a c w
      (repeat' ((conv => whnf); first | (refine CallK_pure (.v _) (fun w' hR => (cN w').mono fun e w' ⟨h1,h2⟩ => ⟨h1,h2 ▸ Ext.refl _⟩) ?_) | refine ⟨_,⟨rfl,trivial⟩,?_⟩ | (refine bcase_prop (fun h => ?_) (fun h => ?_) <;> try (exfalso; omega)) | (refine bcase_nprop (fun h => ?_) (fun h => ?_) <;> try (exfalso; omega)) | (refine bcase_intro (fun h => ?_) (fun h => ?_) <;> (try simp only [Bool.not_eq_true',Bool.not_eq_false',decide_eq_true_eq,decide_eq_false_iff_not,Bool.not_eq_true,Bool.not_eq_false,Decidable.not_not] at h)) | refine And.intro (by first | omega | exact rfl | assumption | exact ⟨rfl,rfl,rfl,rfl,rfl⟩ | exact ⟨rfl,rfl,rfl,rfl⟩ | exact ⟨rfl,by omega⟩ | exact oneAll_of rfl | exact ⟨rfl,oneAll_of rfl⟩ | exact Ref.refl _ | exact Thin.ref (.skip (Thin.refl _)) | exact Thin.ref (.skip (.skip (Thin.refl _))) | exact ⟨rfl,Nat.le_of_ble_eq_true rfl⟩ | ((try unfold maxLen); (try simp only [List.length_nil,List.length_cons,List.length_append]); omega) | (refine ⟨rfl,?_⟩; (try simp only [List.length_nil,List.length_cons,List.length_append]); omega)) ?_ | intro _)); (all_goals (conv => whnf))
      all_goals first | (exfalso; omega) | skip
      exact ⟨⟨_,(Ref.takes [77,13] rfl (.packE (.own (k' := 813) rfl rfl (.nil _)))).trans (Ref.refl _),[],a,c,_,rfl,Nat.zero_le _,hall,rfl⟩⟩
    · (repeat' ((conv => whnf); first | refine CallK_sort (key := 13) (zs := L) hs rfl rfl h0 (by omega) ?_ | refine ⟨_,⟨rfl,trivial⟩,?_⟩ | (refine bcase_prop (fun h => ?_) (fun h => ?_) <;> try (exfalso; omega)) | (refine bcase_nprop (fun h => ?_) (fun h => ?_) <;> try (exfalso; omega)) | (refine bcase_intro (fun h => ?_) (fun h => ?_) <;> (try simp only [Bool.not_eq_true',Bool.not_eq_false',decide_eq_true_eq,decide_eq_false_iff_not,Bool.not_eq_true,Bool.not_eq_false,Decidable.not_not] at h)) | refine And.intro (by first | omega | exact rfl | assumption | exact ⟨rfl,rfl,rfl,rfl,rfl⟩ | exact ⟨rfl,rfl,rfl,rfl⟩ | exact ⟨rfl,by omega⟩ | exact oneAll_of rfl | exact ⟨rfl,oneAll_of rfl⟩ | exact Ref.refl _ | exact Thin.ref (.skip (Thin.refl _)) | exact Thin.ref (.skip (.skip (Thin.refl _))) | exact ⟨rfl,Nat.le_of_ble_eq_true rfl⟩ | ((try unfold maxLen); (try simp only [List.length_nil,List.length_cons,List.length_append]); omega) | (refine ⟨rfl,?_⟩; (try simp only [List.length_nil,List.length_cons,List.length_append]); omega)) ?_ | intro _)); (all_goals (conv => whnf))
      all_goals first | (exfalso; omega) | skip
      have hml : (L.mergeSort (fun x y => decide (x ≤ y))).length = L.length := List.length_mergeSort L
      have hp : (L.mergeSort (fun x y => decide (x ≤ y))).Perm L := List.mergeSort_perm L _
      exact ⟨⟨_,(Ref.takes [77,13] rfl (.packE (.own (k' := 813) hml.symm rfl (.nil _)))).trans (Ref.refl _),L.mergeSort (fun x y => decide (x ≤ y)),a,c,_,by rw [hml],by rw [hml]; exact hlen,fun x k => hp.mem_iff.2 (hall x k),rfl⟩⟩
end Go.Proofs.Ytoocnmfodhnpbaa
/- Runs over texts and ranges are those of the plain text: the program. -/
namespace Go.Proofs.Ytoocnmfodhnpbaa
open Go.EG
attribute [local irreducible] CallK QCall Go.Calls
set_option linter.unusedSimpArgs false
set_option linter.unusedVariables false
set_option maxRecDepth 20000
set_option maxHeartbeats 4000000
theorem Sml.ok {x : IA} (h : Sml x) (D : Int → Prop) : TbOk ⟨x.m.m,x.H,x.back,D⟩ (x.m.m.nx.getD 0 []).length := by
  obtain ⟨h0,h1,h2⟩ := tabE_zero h.2
  exact ⟨chkM_zero h0,by rw [show x.m.m.nx.length = x.m.nr.length from List.length_map ..]; exact h1,h2⟩
structure TxG where
  i : Nat
  f1 : List Nat
  f2 : List Nat
end Go.Proofs.Ytoocnmfodhnpbaa
/- A range is run over as its two parts are,one after the other: the program. -/
namespace Go.Proofs.Ytoocnmfodhnpbaa
open Go.EG
attribute [local irreducible] CallK QCall Go.Calls
set_option linter.unusedSimpArgs false
set_option linter.unusedVariables false
set_option maxRecDepth 20000
set_option maxHeartbeats 4000000
end Go.Proofs.Ytoocnmfodhnpbaa
/- The library's sort of a row of IDs,laid at this program (written by the kit's tool for plain words). No condition. -/
namespace Go.Proofs
open Go.Shelf
def Try.laysSlgm5_f67_ren : Go.Shelf.Ren := ⟨fun | 5 => 67 | 8 => 90 | 7 => 89 | 19 => 109 | 20 => 110 | 10 => 100 | 11 => 101 | 12 => 102 | 13 => 103 | 14 => 104 | 15 => 105 | 16 => 106 | 17 => 107 | 18 => 108 | 30 => 114 | 31 => 115 | 32 => 116 | 33 => 117 | 34 => 118 | 35 => 119 | 40 => 121 | n => n,fun | 23 => 79 | 25 => 36 | 3 => 3 | 32 => 56 | 22 => 79 | 0 => 0 | 44 => 197 | 46 => 84 | 4 => 4 | 36 => 189 | 35 => 188 | 41 => 194 | 5 => 5 | 9 => 9 | 53 => 200 | 57 => 204 | 63 => 208 | 64 => 49 | n => n,fun | n => n⟩
theorem Try.laysSlgm5_f67 : Go.Proofs.SlLaysM.n5 Try.prog Try.laysSlgm5_f67_ren := {
  mixed := by kernel_rfl
  f5 := ⟨Try.f67.name,by decide,Try.func67.trans (congrArg some (by kernel_rfl))⟩
  f7 := ⟨Try.f89.name,by decide,Try.func89.trans (congrArg some (by kernel_rfl))⟩
  f8 := Try.func90.trans (congrArg some (by kernel_rfl))
  f10 := ⟨Try.f100.name,by decide,Try.func100.trans (congrArg some (by kernel_rfl))⟩
  f11 := ⟨Try.f101.name,by decide,Try.func101.trans (congrArg some (by kernel_rfl))⟩
  f12 := ⟨Try.f102.name,by decide,Try.func102.trans (congrArg some (by kernel_rfl))⟩
  f13 := ⟨Try.f103.name,by decide,Try.func103.trans (congrArg some (by kernel_rfl))⟩
  f14 := ⟨Try.f104.name,by decide,Try.func104.trans (congrArg some (by kernel_rfl))⟩
  f15 := ⟨Try.f105.name,by decide,Try.func105.trans (congrArg some (by kernel_rfl))⟩
  f16 := ⟨Try.f106.name,by decide,Try.func106.trans (congrArg some (by kernel_rfl))⟩
  f17 := ⟨Try.f107.name,by decide,Try.func107.trans (congrArg some (by kernel_rfl))⟩
  f18 := ⟨Try.f108.name,by decide,Try.func108.trans (congrArg some (by kernel_rfl))⟩
  f19 := Try.func109.trans (congrArg some (by kernel_rfl))
  f20 := Try.func110.trans (congrArg some (by kernel_rfl))
  f30 := ⟨Try.f114.name,by decide,Try.func114.trans (congrArg some (by kernel_rfl))⟩
  f31 := Try.func115.trans (congrArg some (by kernel_rfl))
  f32 := Try.func116.trans (congrArg some (by kernel_rfl))
  f33 := ⟨Try.f117.name,by decide,Try.func117.trans (congrArg some (by kernel_rfl))⟩
  f34 := ⟨Try.f118.name,by decide,Try.func118.trans (congrArg some (by kernel_rfl))⟩
  f35 := ⟨Try.f119.name,by decide,Try.func119.trans (congrArg some (by kernel_rfl))⟩
  f40 := ⟨Try.f121.name,by decide,Try.func121.trans (congrArg some (by kernel_rfl))⟩
  t0 := Try.underlying0
  a0 := Try.isAgg0
  z0 := Try.sizeOf0
  v0 := Try.zeroValue0
  t3 := Try.underlying3
  a3 := Try.isAgg3
  z3 := Try.sizeOf3
  v3 := Try.zeroValue3
  t4 := Try.underlying4
  a4 := Try.isAgg4
  z4 := Try.sizeOf4
  v4 := Try.zeroValue4
  t5 := Try.underlying5
  a5 := Try.isAgg5
  z5 := Try.sizeOf5
  v5 := Try.zeroValue5
  t9 := Try.underlying9
  a9 := Try.isAgg9
  z9 := Try.sizeOf9
  v9 := Try.zeroValue9
  t22 := Try.underlying79
  a22 := Try.isAgg79
  z22 := Try.sizeOf79
  v22 := Try.zeroValue79
  t23 := Try.underlying79
  a23 := Try.isAgg79
  z23 := Try.sizeOf79
  v23 := Try.zeroValue79
  t25 := Try.underlying36
  a25 := Try.isAgg36
  z25 := Try.sizeOf36
  v25 := Try.zeroValue36
  t32 := Try.underlying56
  a32 := Try.isAgg56
  z32 := Try.sizeOf56
  v32 := Try.zeroValue56
  t35 := Try.underlying188
  a35 := Try.isAgg188
  z35 := Try.sizeOf188
  v35 := Try.zeroValue188
  t36 := Try.underlying189
  a36 := Try.isAgg189
  z36 := Try.sizeOf189
  v36 := Try.zeroValue189
  t41 := Try.underlying194
  a41 := Try.isAgg194
  z41 := Try.sizeOf194
  v41 := Try.zeroValue194
  t44 := Try.underlying197
  a44 := Try.isAgg197
  z44 := Try.sizeOf197
  v44 := Try.zeroValue197
  t46 := Try.underlying84
  a46 := Try.isAgg84
  z46 := Try.sizeOf84
  v46 := Try.zeroValue84
  t53 := Try.underlying200
  a53 := Try.isAgg200
  z53 := Try.sizeOf200
  v53 := Try.zeroValue200
  t57 := Try.underlying204
  a57 := Try.isAgg204
  z57 := Try.sizeOf204
  v57 := Try.zeroValue204
  t63 := Try.underlying208
  a63 := Try.isAgg208
  z63 := Try.sizeOf208
  v63 := Try.zeroValue208
  t64 := Try.underlying49
  a64 := Try.isAgg49
  z64 := Try.sizeOf49
  v64 := Try.zeroValue49 }
end Go.Proofs
namespace Go.Proofs.Ytoocnmfodhnpbaa
open Go.EG
theorem sortsI : SortsI Try.prog fn_slices_Sort_Sl_api_ID_api_ID := fun blk off cap zs w hH hb hs => AnyM.slices_Sort_int Try.laysSlgm5_f67 blk off cap zs w hH hb hs
theorem sortsN : SortsN Try.prog fn_slices_Sort_Sl_api_ID_api_ID := fun p cap w => AnyM.slices_Sort_int_none Try.laysSlgm5_f67 p cap w
end Go.Proofs.Ytoocnmfodhnpbaa
/- What is remembered changes no answer: the program. -/
namespace Go.Proofs.Ytoocnmfodhnpbaa
open Go.EG
attribute [local irreducible] CallK QCall Go.Calls
set_option linter.unusedSimpArgs false
set_option linter.unusedVariables false
set_option maxRecDepth 20000
set_option maxHeartbeats 4000000
theorem packX_wideR {w0 : World} {fp0 : List Nat} {bt bs : Nat} {M : Mch} {H : List Int} {back : Bool} {D D' : Int → Prop} {E : List Entr} (hd : ∀ i,D i → D' i) {fp fp2 : List Nat} {α : Type} {fA : α → List Ent} {L : List Ent} : Ref w0 fp0 (packE 78 fp (fX bt bs ⟨M,H,back,D⟩ E) :: packE 77 fp2 fA :: L) (packE 78 fp (fX bt bs ⟨M,H,back,D'⟩ E) :: packE 77 fp2 fA :: L) :=
  Thin.ref (packX_wide (k' := 78) hd (Thin.refl _))
theorem packX_wideR3 {w0 : World} {fp0 : List Nat} {bt bs : Nat} {M : Mch} {H : List Int} {back : Bool} {D D' : Int → Prop} {E : List Entr} (hd : ∀ i,D i → D' i) {fp fp2 fp3 : List Nat} {α β : Type} {fA : α → List Ent} {fC : β → List Ent} {L : List Ent} : Ref w0 fp0 (packE 78 fp (fX bt bs ⟨M,H,back,D⟩ E) :: packE 77 fp2 fA :: packE 79 fp3 fC :: L) (packE 78 fp (fX bt bs ⟨M,H,back,D'⟩ E) :: packE 77 fp2 fA :: packE 79 fp3 fC :: L) := packX_wideR hd
def askI (n : Nat) (asks : List Int) : List Int := asks.map fun z => (pickF z n : Int)
structure KpG where
  i : Nat
  a : Option Addr
  c : Nat
  f1 : List Nat
  f2 : List Nat
theorem law_TransferKeeps (hS : SortsI Try.prog fn_slices_Sort_Sl_api_ID_api_ID) (hN : SortsN Try.prog fn_slices_Sort_Sl_api_ID_api_ID) (w : World) (x : IA) (hx : IIn w x) (g : List Rul) (hg : MIn g) (a : Option Addr) (c : Nat) (hin : In w [] a (rulsC g)) (asks : List Int) (aa : Option Addr) (ac : Nat) (hal : asks.length ≤ 9223372036854775807) (hai : In w [] aa (ints .i64 asks)) (hav : ∀ z ∈ asks,-9223372036854775808 ≤ z ∧ z ≤ 9223372036854775807) :
    Calls Try.prog fn_evergreenlaw33_TransferKeeps #[x.v,.slice a g.length c,.slice aa asks.length ac] w fun e w' => e = .returned (.bool true) ∧ Ext w w' := by
  refine pure_call [.v x.v,.v (.slice a g.length c),.v (.slice aa asks.length ac)] w ok_evergreenlaw33_TransferKeeps (by simp) ?_
  have c0 := calls_awake33
  by_cases hl : g.length ≤ 30
  case neg =>
    obtain ⟨m,H,ha,hc,back⟩ := x
    dsimp only [IA.v,IA.cells]
    (repeat' ((conv => whnf); first | (first | refine CallK_pure (.v _) (fun w hR => c0 w) ?_ | refine QCall_pure (.v _) (fun w hR => c0 w) ?_) | (refine bcase_prop (fun h => ?_) (fun h => ?_) <;> try (exfalso; omega)) | (refine bcase_nprop (fun h => ?_) (fun h => ?_) <;> try (exfalso; omega)) | (refine bcase_intro (fun h => ?_) (fun h => ?_) <;> (try simp only [Bool.not_eq_true',Bool.not_eq_false',decide_eq_true_eq,decide_eq_false_iff_not,Bool.not_eq_true,Bool.not_eq_false,Decidable.not_not] at h)) | refine And.intro (by first | omega | exact rfl | assumption | exact ⟨rfl,rfl,rfl,rfl,rfl⟩ | exact ⟨rfl,rfl,rfl,rfl⟩ | exact ⟨rfl,by omega⟩ | exact oneAll_of rfl | exact ⟨rfl,oneAll_of rfl⟩ | exact Ref.refl _ | exact Thin.ref (.skip (Thin.refl _)) | exact Thin.ref (.skip (.skip (Thin.refl _))) | exact ⟨rfl,Nat.le_of_ble_eq_true rfl⟩ | ((try unfold maxLen); (try simp only [List.length_nil,List.length_cons,List.length_append]); omega) | (refine ⟨rfl,?_⟩; (try simp only [List.length_nil,List.length_cons,List.length_append]); omega)) ?_ | intro _)); (all_goals (conv => whnf))
    all_goals first | (exfalso; omega) | exact ⟨rfl⟩
  by_cases hl2 : asks.length ≤ 12
  case neg =>
    obtain ⟨m,H,ha,hc,back⟩ := x
    dsimp only [IA.v,IA.cells]
    (repeat' ((conv => whnf); first | (first | refine CallK_pure (.v _) (fun w hR => c0 w) ?_ | refine QCall_pure (.v _) (fun w hR => c0 w) ?_) | (refine bcase_prop (fun h => ?_) (fun h => ?_) <;> try (exfalso; omega)) | (refine bcase_nprop (fun h => ?_) (fun h => ?_) <;> try (exfalso; omega)) | (refine bcase_intro (fun h => ?_) (fun h => ?_) <;> (try simp only [Bool.not_eq_true',Bool.not_eq_false',decide_eq_true_eq,decide_eq_false_iff_not,Bool.not_eq_true,Bool.not_eq_false,Decidable.not_not] at h)) | refine And.intro (by first | omega | exact rfl | assumption | exact ⟨rfl,rfl,rfl,rfl,rfl⟩ | exact ⟨rfl,rfl,rfl,rfl⟩ | exact ⟨rfl,by omega⟩ | exact oneAll_of rfl | exact ⟨rfl,oneAll_of rfl⟩ | exact Ref.refl _ | exact Thin.ref (.skip (Thin.refl _)) | exact Thin.ref (.skip (.skip (Thin.refl _))) | exact ⟨rfl,Nat.le_of_ble_eq_true rfl⟩ | ((try unfold maxLen); (try simp only [List.length_nil,List.length_cons,List.length_append]); omega) | (refine ⟨rfl,?_⟩; (try simp only [List.length_nil,List.length_cons,List.length_append]); omega)) ?_ | intro _)); (all_goals (conv => whnf))
    all_goals first | (exfalso; omega) | exact ⟨rfl⟩
  by_cases hs : Sml x
  case neg =>
    have c1 := fun w' h => calls_small (w := w') x h false ⟨fun h => Bool.noConfusion h,fun h => absurd h hs⟩
    obtain ⟨m,H,ha,hc,back⟩ := x
    dsimp only [IA.v,IA.cells] at *
    (repeat' ((conv => whnf); first | (first | refine CallK_pure (.v _) (fun w hR => c0 w) ?_ | refine QCall_pure (.v _) (fun w hR => c0 w) ?_) | (refine CallK_pure (.v _) (fun w' hR => c1 w' (hx.cast hR)) ?_) | (refine QCall_pure (.v _) (fun w' hR => c1 w' (hx.cast hR)) ?_) | (refine bcase_prop (fun h => ?_) (fun h => ?_) <;> try (exfalso; omega)) | (refine bcase_nprop (fun h => ?_) (fun h => ?_) <;> try (exfalso; omega)) | (refine bcase_intro (fun h => ?_) (fun h => ?_) <;> (try simp only [Bool.not_eq_true',Bool.not_eq_false',decide_eq_true_eq,decide_eq_false_iff_not,Bool.not_eq_true,Bool.not_eq_false,Decidable.not_not] at h)) | refine And.intro (by first | omega | exact rfl | assumption | exact ⟨rfl,rfl,rfl,rfl,rfl⟩ | exact ⟨rfl,rfl,rfl,rfl⟩ | exact ⟨rfl,by omega⟩ | exact oneAll_of rfl | exact ⟨rfl,oneAll_of rfl⟩ | exact Ref.refl _ | exact Thin.ref (.skip (Thin.refl _)) | exact Thin.ref (.skip (.skip (Thin.refl _))) | exact ⟨rfl,Nat.le_of_ble_eq_true rfl⟩ | ((try unfold maxLen); (try simp only [List.length_nil,List.length_cons,List.length_append]); omega) | (refine ⟨rfl,?_⟩; (try simp only [List.length_nil,List.length_cons,List.length_append]); omega)) ?_ | intro _)); (all_goals (conv => whnf))
    all_goals first | (exfalso; omega) | exact ⟨rfl⟩
  have c1 := fun w' h => calls_small (w := w') x h true ⟨fun _ => hs,fun _ => rfl⟩
  have hw := gS_wf hg (by omega)
  have hE := gE_len hg (by omega)
  have hSE : (gS g).E.length = (gE g).length := rfl
  have c2 := fun w' h1 h2 => calls_begun33 x hs (Rc (gS g) (askI ((gE g).length + 1) (asks.take 0))) g hg (by omega) 0 (by decide) a c w' h1 h2
  have hT := fun D => hs.ok D
  have hM := (hT (allD (gS g))).m
  have hpos := hM.pos
  have h40 := hs.1
  have hNl : x.m.m.nx.length = x.m.nr.length := List.length_map ..
  unfold beg33Q at c2
  generalize gId g 0 = id at *
  have hLM : LM = 1152921504606846976 := rfl
  have cS := fun bt bs D => calls_TStore2 bt bs ⟨x.m.m,x.H,x.back,D⟩ (gS g).E
  have cL := fun b => calls_sLen b (gS g)
  have hxi := hx
  have cT := fun bs D (w' : World) hm hh => calls_TabNew 79 bs D (gS g).E (w := w') x.m hm x.H x.ha x.hc hh x.back hs.2
  have hxm := hx.m
  have hxh := hx.h
  have cP := fun z hz w => calls_Pick z ((gE g).length + 1) (by omega) (by omega) hz w
  have cQ := fun z hz w => calls_Pick z x.m.nr.length (by dsimp only at hpos; omega) (by omega) hz w
  have hids : ∀ i,∀ y ∈ askI ((gE g).length + 1) (asks.take i),0 ≤ y ∧ y ≤ (gS g).E.length := fun i y hy => by
    obtain ⟨z,_,rfl⟩ := List.mem_map.1 hy
    have := pickF_lt (n := z) (many := (gE g).length + 1) (by omega)
    omega
  have cE := fun bt bs i n q hn => calls_TEnd bt bs ⟨x.m.m,x.H,x.back,Rc (gS g) (askI ((gE g).length + 1) (asks.take i))⟩ (hT _) (gS g) hw (Rc.clo hw (hids i)) n q hn
  have cH := fun bt bs i n q hn => calls_THits bt bs ⟨x.m.m,x.H,x.back,Rc (gS g) (askI ((gE g).length + 1) (asks.take i))⟩ (hT _) (gS g) hw (Rc.clo hw (hids i)) n q hn
  have cU := fun fp bt bs i (w : World) hR => calls_TRules bt bs ⟨x.m.m,x.H,x.back,Rc (gS g) (askI ((gE g).length + 1) (asks.take i))⟩ (gS g).E 78 (fp := fp) (w := w) hR
  have eE : ∀ D (n : Int) (q : Nat),known (gS g) n → q < x.m.m.nx.length → ∃ r : Nat,endV ⟨x.m.m,x.H,x.back,D⟩ (gS g) n q = .tuple #[.int .i64 r,.nilIface] := fun D n q hk hq => by
    unfold endV
    rw [if_pos ⟨hk,by omega,by show (q : Int) < x.m.m.nx.length; omega⟩]
    exact ⟨_,rfl⟩
  have eH : ∀ D (n : Int) (q : Nat),known (gS g) n → q < x.m.m.nx.length → (∃ r : Nat,hitV ⟨x.m.m,x.H,x.back,D⟩ (gS g) n q = .tuple #[.int .i64 r,.nilIface]) ∨ hitV ⟨x.m.m,x.H,x.back,D⟩ (gS g) n q = .tuple #[.int .i64 0,errV 2] := fun D n q hk hq => by
    unfold hitV
    rw [if_pos ⟨hk,by omega,by show (q : Int) < x.m.m.nx.length; omega⟩]
    split
    · exact .inl ⟨_,rfl⟩
    · exact .inr rfl
  have hp0 : 0 < x.m.nr.length := by dsimp only at hpos; omega
  clear hs hT hM hpos
  obtain ⟨m,H,ha,hc,back⟩ := x
  dsimp only [IA.v,IA.cells] at *
  (repeat' ((conv => whnf); first | (first | refine CallK_pure (.v _) (fun w hR => c0 w) ?_ | refine QCall_pure (.v _) (fun w hR => c0 w) ?_) | (refine CallK_pure (.v _) (fun w' hR => c1 w' (hxi.cast hR)) ?_) | (refine QCall_pure (.v _) (fun w' hR => c1 w' (hxi.cast hR)) ?_) | ((refine CallK_new (fun w' hR => c2 w' (hxi.cast hR) (hin.cast hR (by simp))) ?_); rintro _ _ ⟨bt,b,a1,k1,a2,k2,f1,f2,rfl,rfl⟩; refine ⟨.v _,rfl,?_⟩) | (refine CallK_pack (key := 78) rfl (fun w hR h0 => cS _ _ _ _ _ _ h0) ?_; rintro _ _ ⟨rfl,rfl⟩; refine ⟨.v _,rfl,?_⟩) | (refine CallK_pack (key := 77) rfl (fun w hR h0 => cL _ _ _ _ h0) ?_; rintro _ _ ⟨rfl,fp',rfl⟩; refine ⟨.v _,rfl,?_⟩) | refine ⟨_,⟨rfl,trivial⟩,?_⟩ | (refine bcase_prop (fun h => ?_) (fun h => ?_) <;> try (exfalso; omega)) | (refine bcase_nprop (fun h => ?_) (fun h => ?_) <;> try (exfalso; omega)) | (refine bcase_intro (fun h => ?_) (fun h => ?_) <;> (try simp only [Bool.not_eq_true',Bool.not_eq_false',decide_eq_true_eq,decide_eq_false_iff_not,Bool.not_eq_true,Bool.not_eq_false,Decidable.not_not] at h)) | refine And.intro (by first | omega | exact rfl | assumption | exact ⟨rfl,rfl,rfl,rfl,rfl⟩ | exact ⟨rfl,rfl,rfl,rfl⟩ | exact ⟨rfl,by omega⟩ | exact oneAll_of rfl | exact ⟨rfl,oneAll_of rfl⟩ | exact Ref.refl _ | exact Thin.ref (.skip (Thin.refl _)) | exact Thin.ref (.skip (.skip (Thin.refl _))) | exact ⟨rfl,Nat.le_of_ble_eq_true rfl⟩ | ((try unfold maxLen); (try simp only [List.length_nil,List.length_cons,List.length_append]); omega) | (refine ⟨rfl,?_⟩; (try simp only [List.length_nil,List.length_cons,List.length_append]); omega)) ?_ | intro _)); (all_goals (conv => whnf))
  all_goals first | (exfalso; omega) | skip
  rename_i b3 _ b8
  refine VC_loop KpG (fun z => [(3,.ptr 3 b3 0),(7,.v (pS bt)),(8,.ptr 8 b8 0),(11,.v (pS b)),(12,.v (.int .i64 ((gS g).E.length : Nat))),(13,.sl 84 z.a z.i z.c),(62,.v (.slice aa asks.length ac)),(63,.v (.int .i64 asks.length)),(64,.v (.int .i64 z.i))])
    (fun z => [packE 78 z.f1 (fX bt b ⟨m.m,H,back,Rc (gS g) (askI ((gE g).length + 1) (asks.take z.i))⟩ (gS g).E),packE 77 z.f2 (fS b (gS g)),.own 84 z.a z.i z.c ty_api_ID 1 (ints .i64 (askI ((gE g).length + 1) (asks.take z.i))),.box 3 b3 [.int .i64 m.start,.slice m.ca m.cls.length m.cc,.slice m.na m.nr.length m.nc,.slice m.aa m.acc.length m.ac,.slice ha H.length hc,.bool back] ty_evergreenlaw33_In,.box 8 b8 [.slice a1 (gE g).length k1,.slice a2 (gE g).length k2] ty_evergreenref12_Store])
    (fun z => z.i ≤ asks.length) (fun z => asks.length - z.i) ⟨0,none,0,f1,fp'⟩ (Nat.zero_le _) (by (repeat ((conv => whnf); refine And.intro (by first | exact rfl | exact vint_eq (by omega) | exact vint_eq (by (dsimp only; omega)) | exact vsl_eq (by omega) | exact vsl_eq (by first | (dsimp only; omega) | (simp; done) | (simp; omega))) ?_)); exact trivial) ((Ref.ownNil 84 ty_api_ID 1).trans (Ref.takes [78,77,84,3,8] rfl (.packE (.packE (Thin.refl _))))) ?_
  rintro ⟨i,ar,cr,g1,g2⟩ hi
  dsimp only at hi ⊢
  by_cases hlt : i < asks.length
  case neg =>
    (repeat' ((conv => whnf); first | (refine bcase_prop (fun h => ?_) (fun h => ?_) <;> try (exfalso; omega)) | (refine bcase_nprop (fun h => ?_) (fun h => ?_) <;> try (exfalso; omega)) | (refine bcase_intro (fun h => ?_) (fun h => ?_) <;> (try simp only [Bool.not_eq_true',Bool.not_eq_false',decide_eq_true_eq,decide_eq_false_iff_not,Bool.not_eq_true,Bool.not_eq_false,Decidable.not_not] at h)) | refine And.intro (by first | omega | exact rfl | assumption | exact ⟨rfl,rfl,rfl,rfl,rfl⟩ | exact ⟨rfl,rfl,rfl,rfl⟩ | exact ⟨rfl,by omega⟩ | exact oneAll_of rfl | exact ⟨rfl,oneAll_of rfl⟩ | exact Ref.refl _ | exact Thin.ref (.skip (Thin.refl _)) | exact Thin.ref (.skip (.skip (Thin.refl _))) | exact ⟨rfl,Nat.le_of_ble_eq_true rfl⟩ | ((try unfold maxLen); (try simp only [List.length_nil,List.length_cons,List.length_append]); omega) | (refine ⟨rfl,?_⟩; (try simp only [List.length_nil,List.length_cons,List.length_append]); omega)) ?_ | intro _)); (all_goals (conv => whnf))
    all_goals first | (exfalso; omega) | exact ⟨rfl⟩
  have rd := fun {L : List Ent} => rdI (L := L) hai (i := i) hlt
  have nr : aa ≠ none := hai.ne' (k := i) (by rw [ints_length]; exact hlt)
  have q0 : ((i : Nat) : Int).toNat = i := by omega
  have htk : asks.take (i + 1) = asks.take i ++ [asks.getD i 0] := take_snoc hlt
  have hz := hav _ (getD_mem hlt)
  have cP := cP _ hz
  rw [show (((gE g).length + 1 : Nat) : Int) = ((gE g).length : Int) + 1 by omega] at cP
  have hpk := pickF_lt (n := asks.getD i 0) (many := (gE g).length + 1) (by omega)
  have hid2 : askI ((gE g).length + 1) (asks.take (i + 1)) = askI ((gE g).length + 1) (asks.take i) ++ [((pickF (asks.getD i 0) ((gE g).length + 1) : Nat) : Int)] := by
    rw [htk]; exact List.map_append
  generalize pickF (asks.getD i 0) ((gE g).length + 1) = n at *
  generalize asks.getD i 0 = z at *
  have hd7 : -9223372036854775808 ≤ IntKind.i64.wrap (z.tdiv 7) ∧ IntKind.i64.wrap (z.tdiv 7) ≤ 9223372036854775807 := by rw [wrap_i64']; omega
  have cQ := cQ _ hd7
  have hq := pickF_lt (n := IntKind.i64.wrap (z.tdiv 7)) (many := m.nr.length) hp0
  generalize pickF (IntKind.i64.wrap (z.tdiv 7)) m.nr.length = q at *
  have kN : known (gS g) (n : Int) := ⟨by omega,by omega⟩
  have hqN : q < m.m.nx.length := by omega
  have hcond : (n : Int) = 0 ∨ ¬ known (gS g) (n : Int) ∨ Rc (gS g) (askI ((gE g).length + 1) (asks.take (i + 1))) (n : Int) := by
    by_cases h0 : (n : Int) = 0
    · exact .inl h0
    · exact .inr (.inr (.root (by rw [hid2]; simp) h0))
  have hmono : ∀ y,Rc (gS g) (askI ((gE g).length + 1) (asks.take i)) y → Rc (gS g) (askI ((gE g).length + 1) (asks.take (i + 1))) y := fun y hy => hy.mono fun v hv => by rw [hid2]; exact List.mem_append_left _ hv
  have dT := fun (w' : World) h1 h2 => cT b (Rc (gS g) (askI ((gE g).length + 1) (asks.take (i + 1)))) w' h1 h2
  have dU := fun fp (w' : World) h => cU fp bt b (i + 1) w' h
  have dE := fun bt => cE bt b (i + 1) (n : Int) (q : Int) hcond
  have dH := fun bt => cH bt b (i + 1) (n : Int) (q : Int) hcond
  have hrs := hids (i + 1)
  have hrl : (askI ((gE g).length + 1) (asks.take (i + 1))).length = i + 1 := by unfold askI; rw [List.length_map,List.length_take]; omega
  have cR := fun ar cr key fp w h1 h2 => calls_Reach hS hN b (gS g) hw (askI ((gE g).length + 1) (asks.take (i + 1))) hrs (by omega) ar cr key fp w h1 h2
  rw [hrl] at cR
  have hsn : ints .i64 (askI ((gE g).length + 1) (asks.take i)) ++ [.int .i64 (n : Int)] = ints .i64 (askI ((gE g).length + 1) (asks.take (i + 1))) := by rw [hid2,ints_snoc]
  have hD0 := eE (Rc (gS g) (askI ((gE g).length + 1) (asks.take (i + 1)))) n q kN hqN
  have hD1 := eH (Rc (gS g) (askI ((gE g).length + 1) (asks.take (i + 1)))) n q kN hqN
  obtain ⟨r1,hr1⟩ := hD0
  simp only [hr1] at dE
  have hi1 : ((i + 1 : Nat) : Int) = (i : Int) + 1 := by omega
  obtain ⟨rs,hrsE⟩ : ∃ rs,askI ((gE g).length + 1) (asks.take (i + 1)) = rs := ⟨_,rfl⟩
  rw [hrsE] at *
  have n0 := calls_Num0
  have n2 := calls_Num 2
  clear cE cH cU eE eH c1 c2 cS hr1 hcond hid2 htk hids hd7
  rcases hD1 with ⟨r2,hr2⟩ | hr2
  · simp only [hr2] at dH
    clear hr2
    (repeat' ((conv => whnf); first | rw [q0] | rw [hsn] | refine ⟨_,rd,?_⟩ | (first | refine CallK_pure (.v _) (fun w hR => cP w) ?_ | refine QCall_pure (.v _) (fun w hR => cP w) ?_) | (first | refine CallK_pure (.v _) (fun w hR => cQ w) ?_ | refine QCall_pure (.v _) (fun w hR => cQ w) ?_) | (first | refine CallK_pure (.v _) (fun w hR => n0 w) ?_ | refine QCall_pure (.v _) (fun w hR => n0 w) ?_) | (first | refine CallK_pure (.v _) (fun w hR => n2 w) ?_ | refine QCall_pure (.v _) (fun w hR => n2 w) ?_) | ((refine CallK_new (fun w' hR => dT w' (hxm.cast hR) (hxh.cast hR (fun _ h => nomatch h))) ?_); rintro _ _ ⟨bu,fpu,rfl,rfl⟩; refine ⟨.v _,rfl,?_⟩) | (refine CallK_pack2 (key1 := 78) (key2 := 77) rfl rfl (fun w hR h0 => dE bt _ _ _ _ _ h0) ?_; rintro _ _ ⟨rfl,fp1',fp2',rfl⟩; refine ⟨.v _,rfl,?_⟩) | (refine CallK_ref ((Ref.takes [78,77,79,84,3,8] rfl (.packE (.packE (.packE (Thin.refl _))))).trans (packX_wideR3 hmono)) ?_; refine CallK_pack2 (key1 := 78) (key2 := 77) rfl rfl (fun w hR h0 => dE bt _ _ _ _ _ h0) ?_; rintro _ _ ⟨rfl,fp1',fp2',rfl⟩; refine ⟨.v _,rfl,?_⟩) | (refine CallK_pack2 (key1 := 79) (key2 := 77) rfl rfl (fun w hR h0 => dE _ _ _ _ _ _ h0) ?_; rintro _ _ ⟨rfl,fp1',fp2',rfl⟩; refine ⟨.v _,rfl,?_⟩) | (refine CallK_pack2 (key1 := 78) (key2 := 77) rfl rfl (fun w hR h0 => dH bt _ _ _ _ _ h0) ?_; rintro _ _ ⟨rfl,fp1',fp2',rfl⟩; refine ⟨.v _,rfl,?_⟩) | (refine CallK_pack2 (key1 := 79) (key2 := 77) rfl rfl (fun w hR h0 => dH _ _ _ _ _ _ h0) ?_; rintro _ _ ⟨rfl,fp1',fp2',rfl⟩; refine ⟨.v _,rfl,?_⟩) | (refine CallK_pack (key := 77) rfl (fun w hR h0 => cR _ _ _ _ _ h0 (In.beside (key := 84) hR rfl)) ?_; rintro _ _ ⟨L,aL,kL,fpL,rfl,hLl,hall,rfl⟩; refine ⟨.v _,rfl,?_⟩) | (refine CallK_pack (key := 78) rfl (fun w hR h0 => dU _ _ h0) ?_; rintro _ _ ⟨m',rfl,hle,hm',fp',rfl⟩; have hmL := hm' _ hall; refine ⟨.v _,rfl,?_⟩) | (refine CallK_pack (key := 77) rfl (fun w hR h0 => cL _ _ _ _ h0) ?_; rintro _ _ ⟨rfl,fp',rfl⟩; refine ⟨.v _,rfl,?_⟩) | refine ⟨_,⟨rfl,trivial⟩,?_⟩ | (refine bcase_prop (fun h => ?_) (fun h => ?_) <;> try (exfalso; omega)) | (refine bcase_nprop (fun h => ?_) (fun h => ?_) <;> try (exfalso; omega)) | (refine bcase_intro (fun h => ?_) (fun h => ?_) <;> (try simp only [Bool.not_eq_true',Bool.not_eq_false',decide_eq_true_eq,decide_eq_false_iff_not,Bool.not_eq_true,Bool.not_eq_false,Decidable.not_not] at h)) | refine And.intro (by first | omega | exact rfl | assumption | exact ⟨rfl,rfl,rfl,rfl,rfl⟩ | exact ⟨rfl,rfl,rfl,rfl⟩ | exact ⟨rfl,by omega⟩ | exact oneAll_of rfl | exact ⟨rfl,oneAll_of rfl⟩ | exact Ref.refl _ | exact Thin.ref (.skip (Thin.refl _)) | exact Thin.ref (.skip (.skip (Thin.refl _))) | exact ⟨rfl,Nat.le_of_ble_eq_true rfl⟩ | ((try unfold maxLen); (try simp only [List.length_nil,List.length_cons,List.length_append]); omega) | (refine ⟨rfl,?_⟩; (try simp only [List.length_nil,List.length_cons,List.length_append]); omega)) ?_ | intro _)); (all_goals (conv => whnf))
    all_goals first | (exfalso; omega) | skip
    all_goals exact loop_next ⟨i + 1,_,_,_,_⟩ hlt (by ((try dsimp only); omega)) (by (repeat ((conv => whnf); refine And.intro (by first | exact rfl | exact vint_eq (by omega) | exact vint_eq (by (dsimp only; omega)) | exact vsl_eq (by omega) | exact vsl_eq (by first | (dsimp only; omega) | (simp; done) | (simp; omega))) ?_)); exact trivial) (Ref.takes [78,77,84,3,8] rfl (.packE (.packE (Thin.refl _))))
  · simp only [hr2] at dH
    clear hr2
    (repeat' ((conv => whnf); first | rw [q0] | rw [hsn] | refine ⟨_,rd,?_⟩ | (first | refine CallK_pure (.v _) (fun w hR => cP w) ?_ | refine QCall_pure (.v _) (fun w hR => cP w) ?_) | (first | refine CallK_pure (.v _) (fun w hR => cQ w) ?_ | refine QCall_pure (.v _) (fun w hR => cQ w) ?_) | (first | refine CallK_pure (.v _) (fun w hR => n0 w) ?_ | refine QCall_pure (.v _) (fun w hR => n0 w) ?_) | (first | refine CallK_pure (.v _) (fun w hR => n2 w) ?_ | refine QCall_pure (.v _) (fun w hR => n2 w) ?_) | ((refine CallK_new (fun w' hR => dT w' (hxm.cast hR) (hxh.cast hR (fun _ h => nomatch h))) ?_); rintro _ _ ⟨bu,fpu,rfl,rfl⟩; refine ⟨.v _,rfl,?_⟩) | (refine CallK_pack2 (key1 := 78) (key2 := 77) rfl rfl (fun w hR h0 => dE bt _ _ _ _ _ h0) ?_; rintro _ _ ⟨rfl,fp1',fp2',rfl⟩; refine ⟨.v _,rfl,?_⟩) | (refine CallK_ref ((Ref.takes [78,77,79,84,3,8] rfl (.packE (.packE (.packE (Thin.refl _))))).trans (packX_wideR3 hmono)) ?_; refine CallK_pack2 (key1 := 78) (key2 := 77) rfl rfl (fun w hR h0 => dE bt _ _ _ _ _ h0) ?_; rintro _ _ ⟨rfl,fp1',fp2',rfl⟩; refine ⟨.v _,rfl,?_⟩) | (refine CallK_pack2 (key1 := 79) (key2 := 77) rfl rfl (fun w hR h0 => dE _ _ _ _ _ _ h0) ?_; rintro _ _ ⟨rfl,fp1',fp2',rfl⟩; refine ⟨.v _,rfl,?_⟩) | (refine CallK_pack2 (key1 := 78) (key2 := 77) rfl rfl (fun w hR h0 => dH bt _ _ _ _ _ h0) ?_; rintro _ _ ⟨rfl,fp1',fp2',rfl⟩; refine ⟨.v _,rfl,?_⟩) | (refine CallK_pack2 (key1 := 79) (key2 := 77) rfl rfl (fun w hR h0 => dH _ _ _ _ _ _ h0) ?_; rintro _ _ ⟨rfl,fp1',fp2',rfl⟩; refine ⟨.v _,rfl,?_⟩) | (refine CallK_pack (key := 77) rfl (fun w hR h0 => cR _ _ _ _ _ h0 (In.beside (key := 84) hR rfl)) ?_; rintro _ _ ⟨L,aL,kL,fpL,rfl,hLl,hall,rfl⟩; refine ⟨.v _,rfl,?_⟩) | (refine CallK_pack (key := 78) rfl (fun w hR h0 => dU _ _ h0) ?_; rintro _ _ ⟨m',rfl,hle,hm',fp',rfl⟩; have hmL := hm' _ hall; refine ⟨.v _,rfl,?_⟩) | (refine CallK_pack (key := 77) rfl (fun w hR h0 => cL _ _ _ _ h0) ?_; rintro _ _ ⟨rfl,fp',rfl⟩; refine ⟨.v _,rfl,?_⟩) | refine ⟨_,⟨rfl,trivial⟩,?_⟩ | (refine bcase_prop (fun h => ?_) (fun h => ?_) <;> try (exfalso; omega)) | (refine bcase_nprop (fun h => ?_) (fun h => ?_) <;> try (exfalso; omega)) | (refine bcase_intro (fun h => ?_) (fun h => ?_) <;> (try simp only [Bool.not_eq_true',Bool.not_eq_false',decide_eq_true_eq,decide_eq_false_iff_not,Bool.not_eq_true,Bool.not_eq_false,Decidable.not_not] at h)) | refine And.intro (by first | omega | exact rfl | assumption | exact ⟨rfl,rfl,rfl,rfl,rfl⟩ | exact ⟨rfl,rfl,rfl,rfl⟩ | exact ⟨rfl,by omega⟩ | exact oneAll_of rfl | exact ⟨rfl,oneAll_of rfl⟩ | exact Ref.refl _ | exact Thin.ref (.skip (Thin.refl _)) | exact Thin.ref (.skip (.skip (Thin.refl _))) | exact ⟨rfl,Nat.le_of_ble_eq_true rfl⟩ | ((try unfold maxLen); (try simp only [List.length_nil,List.length_cons,List.length_append]); omega) | (refine ⟨rfl,?_⟩; (try simp only [List.length_nil,List.length_cons,List.length_append]); omega)) ?_ | intro _)); (all_goals (conv => whnf))
    all_goals first | (exfalso; omega) | skip
    all_goals exact loop_next ⟨i + 1,_,_,_,_⟩ hlt (by ((try dsimp only); omega)) (by (repeat ((conv => whnf); refine And.intro (by first | exact rfl | exact vint_eq (by omega) | exact vint_eq (by (dsimp only; omega)) | exact vsl_eq (by omega) | exact vsl_eq (by first | (dsimp only; omega) | (simp; done) | (simp; omega))) ?_)); exact trivial) (Ref.takes [78,77,84,3,8] rfl (.packE (.packE (Thin.refl _))))
end Go.Proofs.Ytoocnmfodhnpbaa
