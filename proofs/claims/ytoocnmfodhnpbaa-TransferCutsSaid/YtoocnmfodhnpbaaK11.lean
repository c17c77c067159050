/- Machines that came in, small ones; a table of a store of results: the program. -/
import Derived.Test.YtoocnmfodhnpbaaK9
import Derived.Test.YtoocnmfodhnpbaaK8
import Derived.Test.YtoocnmfodhnpbaaK10
import Derived.Test.YtoocnmfodhnpbaaK5
import Derived.Test.YtoocnmfodhnpbaaK2
import Derived.Test.YtoocnmfodhnpbaaRows
import Derived.Test.YtoocnmfodhnpbaaK4
namespace Go.Proofs.Ytoocnmfodhnpbaa
open Go.EG
attribute [local irreducible] CallK QCall Go.Calls
set_option linter.unusedSimpArgs false
set_option linter.unusedVariables false
set_option maxRecDepth 20000
set_option maxHeartbeats 4000000
structure IA where
  m : MA
  H : List Int
  ha : Option Addr
  hc : Nat
  back : Bool
abbrev IA.cells (x : IA) : List Value := [.int .i64 x.m.start,.slice x.m.ca x.m.cls.length x.m.cc,.slice x.m.na x.m.nr.length x.m.nc,.slice x.m.aa x.m.acc.length x.m.ac,.slice x.ha x.H.length x.hc,.bool x.back]
abbrev IA.v (x : IA) : Value := .agg x.cells.toArray
structure IIn (w : World) (x : IA) : Prop where
  m : McI w [] x.m
  h : In w [] x.ha (ints .i64 x.H)
  ln : x.m.nr.length ≤ 9223372036854775807
  lr : ∀ r ∈ x.m.nr,r.xs.length ≤ 9223372036854775807
  lh : x.H.length ≤ 9223372036854775807
theorem IIn.cast {w w' : World} {L : List Ent} {x : IA} (h : IIn w x) (hR : R w [] L w') : IIn w' x :=
  ⟨h.m.cast hR,h.h.cast hR (fun _ h => by cases h),h.ln,h.lr,h.lh⟩
def Sml (x : IA) : Prop := x.m.nr.length ≤ 40 ∧ tabE x.m x.H = 0
theorem calls_small {w : World} (x : IA) (hx : IIn w x) (b : Bool) (hb : (b = true) ↔ Sml x) :
    Calls Try.prog fn_evergreenlaw33_small #[x.v] w fun e w' => e = .returned (.bool b) ∧ Ext w w' := by
  refine pure_call [.v x.v] w ok_evergreenlaw33_small (by simp) ?_
  have c1 := fun w' h => calls_Check (w := w') x.m h ⟨hx.ln,hx.lr⟩
  have t0 := fun h => tabE_zero (x := x.m) (H := x.H) h
  have t1 := fun h1 h2 => tabE_ok (x := x.m) (H := x.H) h1 h2
  have hxh := hx.lh
  have hxm := hx.m
  have hxi := hx.h
  obtain ⟨m,H,ha,hc,back⟩ := x
  unfold Sml at hb
  dsimp only [IA.v,IA.cells] at *
  generalize hE : tabE m H = E at *
  by_cases h40 : m.nr.length ≤ 40
  case neg =>
    have hbf : b = false := by
      cases b
      · rfl
      · exact absurd (hb.1 rfl).1 h40
    subst hbf
    (repeat' ((conv => whnf); first | refine ⟨_,⟨rfl,trivial⟩,?_⟩ | (refine bcase_prop (fun h => ?_) (fun h => ?_) <;> try (exfalso; omega)) | (refine bcase_nprop (fun h => ?_) (fun h => ?_) <;> try (exfalso; omega)) | (refine bcase_intro (fun h => ?_) (fun h => ?_) <;> (try simp only [Bool.not_eq_true',Bool.not_eq_false',decide_eq_true_eq,decide_eq_false_iff_not,Bool.not_eq_true,Bool.not_eq_false,Decidable.not_not] at h)) | refine And.intro (by first | omega | exact rfl | assumption | exact ⟨rfl,rfl,rfl,rfl,rfl⟩ | exact ⟨rfl,rfl,rfl,rfl⟩ | exact ⟨rfl,by omega⟩ | exact oneAll_of rfl | exact ⟨rfl,oneAll_of rfl⟩ | exact Ref.refl _ | exact Thin.ref (.skip (Thin.refl _)) | exact Thin.ref (.skip (.skip (Thin.refl _))) | exact ⟨rfl,Nat.le_of_ble_eq_true rfl⟩ | ((try unfold maxLen); (try simp only [List.length_nil,List.length_cons,List.length_append]); omega) | (refine ⟨rfl,?_⟩; (try simp only [List.length_nil,List.length_cons,List.length_append]); omega)) ?_ | intro _)); (all_goals (conv => whnf))
    all_goals first | (exfalso; omega) | exact ⟨rfl⟩
  by_cases hch : chkM m.m = 0
  case neg =>
    have hbf : b = false := by
      cases b
      · rfl
      · exact absurd (t0 (hb.1 rfl).2).1 hch
    subst hbf
    rw [errO_ne hch] at c1
    generalize chkM m.m = Z at *
    (repeat' ((conv => whnf); first | refine ⟨_,⟨rfl,trivial⟩,?_⟩ | (refine CallK_pure (.v _) (fun w' hR => c1 w' (hxm.cast hR)) ?_) | (refine QCall_pure (.v _) (fun w' hR => c1 w' (hxm.cast hR)) ?_) | (refine bcase_prop (fun h => ?_) (fun h => ?_) <;> try (exfalso; omega)) | (refine bcase_nprop (fun h => ?_) (fun h => ?_) <;> try (exfalso; omega)) | (refine bcase_intro (fun h => ?_) (fun h => ?_) <;> (try simp only [Bool.not_eq_true',Bool.not_eq_false',decide_eq_true_eq,decide_eq_false_iff_not,Bool.not_eq_true,Bool.not_eq_false,Decidable.not_not] at h)) | refine And.intro (by first | omega | exact rfl | assumption | exact ⟨rfl,rfl,rfl,rfl,rfl⟩ | exact ⟨rfl,rfl,rfl,rfl⟩ | exact ⟨rfl,by omega⟩ | exact oneAll_of rfl | exact ⟨rfl,oneAll_of rfl⟩ | exact Ref.refl _ | exact Thin.ref (.skip (Thin.refl _)) | exact Thin.ref (.skip (.skip (Thin.refl _))) | exact ⟨rfl,Nat.le_of_ble_eq_true rfl⟩ | ((try unfold maxLen); (try simp only [List.length_nil,List.length_cons,List.length_append]); omega) | (refine ⟨rfl,?_⟩; (try simp only [List.length_nil,List.length_cons,List.length_append]); omega)) ?_ | intro _)); (all_goals (conv => whnf))
    all_goals first | (exfalso; omega) | exact ⟨rfl⟩
  rw [hch] at c1
  by_cases hlen : H.length = m.nr.length
  case neg =>
    have hbf : b = false := by
      cases b
      · rfl
      · exact absurd (t0 (hb.1 rfl).2).2.1 hlen
    subst hbf
    (repeat' ((conv => whnf); first | refine ⟨_,⟨rfl,trivial⟩,?_⟩ | (refine CallK_pure (.v _) (fun w' hR => c1 w' (hxm.cast hR)) ?_) | (refine QCall_pure (.v _) (fun w' hR => c1 w' (hxm.cast hR)) ?_) | (refine bcase_prop (fun h => ?_) (fun h => ?_) <;> try (exfalso; omega)) | (refine bcase_nprop (fun h => ?_) (fun h => ?_) <;> try (exfalso; omega)) | (refine bcase_intro (fun h => ?_) (fun h => ?_) <;> (try simp only [Bool.not_eq_true',Bool.not_eq_false',decide_eq_true_eq,decide_eq_false_iff_not,Bool.not_eq_true,Bool.not_eq_false,Decidable.not_not] at h)) | refine And.intro (by first | omega | exact rfl | assumption | exact ⟨rfl,rfl,rfl,rfl,rfl⟩ | exact ⟨rfl,rfl,rfl,rfl⟩ | exact ⟨rfl,by omega⟩ | exact oneAll_of rfl | exact ⟨rfl,oneAll_of rfl⟩ | exact Ref.refl _ | exact Thin.ref (.skip (Thin.refl _)) | exact Thin.ref (.skip (.skip (Thin.refl _))) | exact ⟨rfl,Nat.le_of_ble_eq_true rfl⟩ | ((try unfold maxLen); (try simp only [List.length_nil,List.length_cons,List.length_append]); omega) | (refine ⟨rfl,?_⟩; (try simp only [List.length_nil,List.length_cons,List.length_append]); omega)) ?_ | intro _)); (all_goals (conv => whnf))
    all_goals first | (exfalso; omega) | exact ⟨rfl⟩ | skip
  (repeat' ((conv => whnf); first | refine ⟨_,⟨rfl,trivial⟩,?_⟩ | (refine CallK_pure (.v _) (fun w' hR => c1 w' (hxm.cast hR)) ?_) | (refine QCall_pure (.v _) (fun w' hR => c1 w' (hxm.cast hR)) ?_) | (refine bcase_prop (fun h => ?_) (fun h => ?_) <;> try (exfalso; omega)) | (refine bcase_nprop (fun h => ?_) (fun h => ?_) <;> try (exfalso; omega)) | (refine bcase_intro (fun h => ?_) (fun h => ?_) <;> (try simp only [Bool.not_eq_true',Bool.not_eq_false',decide_eq_true_eq,decide_eq_false_iff_not,Bool.not_eq_true,Bool.not_eq_false,Decidable.not_not] at h)) | refine And.intro (by first | omega | exact rfl | assumption | exact ⟨rfl,rfl,rfl,rfl,rfl⟩ | exact ⟨rfl,rfl,rfl,rfl⟩ | exact ⟨rfl,by omega⟩ | exact oneAll_of rfl | exact ⟨rfl,oneAll_of rfl⟩ | exact Ref.refl _ | exact Thin.ref (.skip (Thin.refl _)) | exact Thin.ref (.skip (.skip (Thin.refl _))) | exact ⟨rfl,Nat.le_of_ble_eq_true rfl⟩ | ((try unfold maxLen); (try simp only [List.length_nil,List.length_cons,List.length_append]); omega) | (refine ⟨rfl,?_⟩; (try simp only [List.length_nil,List.length_cons,List.length_append]); omega)) ?_ | intro _)); (all_goals (conv => whnf))
  all_goals first | (exfalso; omega) | skip
  refine VC_loop Nat (fun i => [(27,.v (.slice ha H.length hc)),(28,.v (.int .i64 H.length)),(29,.v (.int .i64 i))]) (fun i => []) (fun i => i ≤ H.length ∧ ∀ h ∈ H.take i,0 ≤ h ∧ h ≤ 1048576) (fun i => H.length - i) 0 ⟨Nat.zero_le _,by simp⟩ (by (repeat ((conv => whnf); refine And.intro (by first | exact rfl | exact vint_eq (by omega) | exact vint_eq (by (dsimp only; omega)) | exact vsl_eq (by omega) | exact vsl_eq (by first | (dsimp only; omega) | (simp; done) | (simp; omega))) ?_)); exact trivial) (Thin.ref (.nil _)) ?_
  rintro i ⟨hi,hall⟩
  by_cases hlt : i < H.length
  · have rdh := fun {L : List Ent} => rdI (L := L) hxi (i := i) hlt
    have n1 : ha ≠ none := hxi.ne' (k := i) (by rw [ints_length]; exact hlt)
    have q0 : ((i : Nat) : Int).toNat = i := by omega
    have hall' : (0 ≤ H.getD i 0 ∧ H.getD i 0 ≤ 1048576) → ∀ h ∈ H.take (i + 1),0 ≤ h ∧ h ≤ 1048576 := fun hh => by
      rw [show H.take (i + 1) = H.take i ++ [H.getD i 0] by
        rw [List.take_add_one,List.getD_eq_getElem?_getD,List.getElem?_eq_getElem hlt]; rfl]
      intro h hm
      rcases List.mem_append.1 hm with hm | hm
      · exact hall h hm
      · rw [List.mem_singleton.1 hm]; exact hh
    have hbad : ¬ (0 ≤ H.getD i 0 ∧ H.getD i 0 ≤ 1048576) → b = false := fun hh => by
      cases b
      · rfl
      · exact absurd ((t0 (hb.1 rfl).2).2.2 _ (memG hlt)) hh
    (repeat' ((conv => whnf); first | rw [q0] | refine ⟨_,rdh,?_⟩ | (refine bcase_prop (fun h => ?_) (fun h => ?_) <;> try (exfalso; omega)) | (refine bcase_nprop (fun h => ?_) (fun h => ?_) <;> try (exfalso; omega)) | (refine bcase_intro (fun h => ?_) (fun h => ?_) <;> (try simp only [Bool.not_eq_true',Bool.not_eq_false',decide_eq_true_eq,decide_eq_false_iff_not,Bool.not_eq_true,Bool.not_eq_false,Decidable.not_not] at h)) | refine And.intro (by first | omega | exact rfl | assumption | exact ⟨rfl,rfl,rfl,rfl,rfl⟩ | exact ⟨rfl,rfl,rfl,rfl⟩ | exact ⟨rfl,by omega⟩ | exact oneAll_of rfl | exact ⟨rfl,oneAll_of rfl⟩ | exact Ref.refl _ | exact Thin.ref (.skip (Thin.refl _)) | exact Thin.ref (.skip (.skip (Thin.refl _))) | exact ⟨rfl,Nat.le_of_ble_eq_true rfl⟩ | ((try unfold maxLen); (try simp only [List.length_nil,List.length_cons,List.length_append]); omega) | (refine ⟨rfl,?_⟩; (try simp only [List.length_nil,List.length_cons,List.length_append]); omega)) ?_ | intro _)); (all_goals (conv => whnf))
    all_goals first | (exfalso; omega) | (refine ⟨?_⟩; rw [hbad (by omega)]) | skip
    all_goals exact loop_next (i + 1) ⟨by omega,hall' ⟨by omega,by omega⟩⟩ (by omega) (by (repeat ((conv => whnf); refine And.intro (by first | exact rfl | exact vint_eq (by omega) | exact vint_eq (by (dsimp only; omega)) | exact vsl_eq (by omega) | exact vsl_eq (by first | (dsimp only; omega) | (simp; done) | (simp; omega))) ?_)); exact trivial) (Thin.ref (.nil _))
  · rw [List.take_of_length_le (by omega)] at hall
    have hbt : b = true := hb.2 ⟨h40,t1 hch ⟨hlen,hall⟩⟩
    (repeat' ((conv => whnf); first | (refine bcase_prop (fun h => ?_) (fun h => ?_) <;> try (exfalso; omega)) | (refine bcase_nprop (fun h => ?_) (fun h => ?_) <;> try (exfalso; omega)) | (refine bcase_intro (fun h => ?_) (fun h => ?_) <;> (try simp only [Bool.not_eq_true',Bool.not_eq_false',decide_eq_true_eq,decide_eq_false_iff_not,Bool.not_eq_true,Bool.not_eq_false,Decidable.not_not] at h)) | refine And.intro (by first | omega | exact rfl | assumption | exact ⟨rfl,rfl,rfl,rfl,rfl⟩ | exact ⟨rfl,rfl,rfl,rfl⟩ | exact ⟨rfl,by omega⟩ | exact oneAll_of rfl | exact ⟨rfl,oneAll_of rfl⟩ | exact Ref.refl _ | exact Thin.ref (.skip (Thin.refl _)) | exact Thin.ref (.skip (.skip (Thin.refl _))) | exact ⟨rfl,Nat.le_of_ble_eq_true rfl⟩ | ((try unfold maxLen); (try simp only [List.length_nil,List.length_cons,List.length_append]); omega) | (refine ⟨rfl,?_⟩; (try simp only [List.length_nil,List.length_cons,List.length_append]); omega)) ?_ | intro _)); (all_goals (conv => whnf))
    all_goals first | (exfalso; omega) | (refine ⟨?_⟩; rw [hbt])
def beg33Q (g : List Rul) (x : IA) (pick : Int) (D : Int → Prop) (v : Value) (L1 : List Ent) : Prop :=
  ∃ bt b a1 c1 a2 c2 fp1 fp2,v = .tuple #[pS bt,stV (gE g).length a1 c1 a2 c2,.int .i64 (gId g pick),.bool true] ∧ L1 = [packE 78 fp1 (fX bt b ⟨x.m.m,x.H,x.back,D⟩ (gS g).E),packE 77 fp2 (fS b (gS g)),.own 801 a1 (gE g).length c1 ty_api_Rule 5 (ruE (gE g)),.own 802 a2 (gE g).length c2 ty_int 1 (leE (gE g))]
theorem calls_begun33 (x : IA) (hs : Sml x) (D : Int → Prop) (g : List Rul) (hg : MIn g) (hl : g.length ≤ 40) (pick : Int) (hp : -9223372036854775808 ≤ pick ∧ pick ≤ 9223372036854775807) (a : Option Addr) (c : Nat) (w : World) (hx : IIn w x) (hin : In w [] a (rulsC g)) :
    Calls Try.prog fn_evergreenlaw33_begun #[x.v,.slice a g.length c,.int .i64 pick] w fun e w' => ∃ v L1,e = .returned v ∧ R w [] L1 w' ∧ beg33Q g x pick D v L1 := by
  refine new_call [.v x.v,.v (.slice a g.length c),.v (.int .i64 pick)] ok_evergreenlaw33_begun (by simp) ?_
  have c1 := fun w => calls_New 1000 77 w
  rw [show clipS 1000 = 1000 from rfl] at c1
  have c2 := fun b key fp w hR hin => calls_lBuildN b g hg hl a c key fp w hR hin
  have c3 := fun w h => calls_rBuild g hg hl a c w h
  have c4 := fun bs w' hm hh => calls_TabNew 78 bs D (gS g).E (w := w') x.m hm x.H x.ha x.hc hh x.back hs.2
  have p1 := calls_Pick pick (g.length + 1) (by omega) (by omega) hp
  have hres := (bst_all hg hl).len
  have i1 := pickF_lt (n := pick) (many := g.length + 1) (by omega)
  have r1 : (ints .i64 (buildF [] [0] g).2)[pickF pick (g.length + 1)]? = some (.int .i64 (gId g pick)) := ints_getD (by omega)
  have hxm := hx.m
  have hxh := hx.h
  clear hs hx
  obtain ⟨m,H,ha,hc,back⟩ := x
  dsimp only [IA.v,IA.cells] at *
  (repeat' ((conv => whnf); first | (refine CallK_new (fun w hR => c1 w) ?_; rintro _ _ ⟨bn,fpn,rfl,rfl⟩; refine ⟨.v _,rfl,?_⟩) | rw [Int.toNat_natCast] | rw [Nat.mul_one] | (first | refine CallK_pure (.v _) (fun w hR => p1 w) ?_ | refine QCall_pure (.v _) (fun w hR => p1 w) ?_) | refine ⟨_,rdO 804 rfl r1,?_⟩ | (refine CallK_pack (key := 77) rfl (fun w hR h0 => c2 _ _ _ _ h0 (inCast1 hin hR)) ?_; rintro _ _ ⟨a5,c5,fp5,hn5,rfl,rfl⟩; refine ⟨.v _,rfl,?_⟩) | ((refine CallK_new (fun w' hR => c4 _ w' (hxm.cast hR) (hxh.cast hR (by simp))) ?_); rintro _ _ ⟨bt,fpt,rfl,rfl⟩; refine ⟨.v _,rfl,?_⟩) | ((refine CallK_new (fun w hR => c3 w (hin.cast hR (by simp))) ?_); rintro _ _ ⟨a1,c1,a2,c2,a3,c3,rfl,rfl⟩; refine ⟨.v _,rfl,?_⟩) | refine ⟨_,⟨rfl,trivial⟩,?_⟩ | refine VC_drop 7 ?_ | (refine bcase_prop (fun h => ?_) (fun h => ?_) <;> try (exfalso; omega)) | (refine bcase_nprop (fun h => ?_) (fun h => ?_) <;> try (exfalso; omega)) | (refine bcase_intro (fun h => ?_) (fun h => ?_) <;> (try simp only [Bool.not_eq_true',Bool.not_eq_false',decide_eq_true_eq,decide_eq_false_iff_not,Bool.not_eq_true,Bool.not_eq_false,Decidable.not_not] at h)) | refine And.intro (by first | omega | exact rfl | assumption | exact ⟨rfl,rfl,rfl,rfl,rfl⟩ | exact ⟨rfl,rfl,rfl,rfl⟩ | exact ⟨rfl,by omega⟩ | exact oneAll_of rfl | exact ⟨rfl,oneAll_of rfl⟩ | exact Ref.refl _ | exact Thin.ref (.skip (Thin.refl _)) | exact Thin.ref (.skip (.skip (Thin.refl _))) | exact hn5 | exact Thin.ref (by (repeat (first | exact Thin.nil _ | exact Thin.refl _ | refine Thin.keep rfl (fun _ h => h) ?_ | refine Thin.skip ?_))) | exact ⟨rfl,Nat.le_of_ble_eq_true rfl⟩ | ((try unfold maxLen); (try simp only [List.length_nil,List.length_cons,List.length_append]); omega) | (refine ⟨rfl,?_⟩; (try simp only [List.length_nil,List.length_cons,List.length_append]); omega)) ?_ | intro _)); (all_goals (conv => whnf))
  all_goals first | (exfalso; omega) | skip
  exact ⟨⟨_,Ref.takes [78,77,801,802] rfl (.packE (.packE (.keep rfl (fun _ h => h) (.keep rfl (fun _ h => h) (.nil _))))),bt,_,a1,c1,a2,c2,_,_,rfl,rfl⟩⟩
end Go.Proofs.Ytoocnmfodhnpbaa
/- A table that came in: what the given statements say of it. No condition. -/
namespace Go.Proofs.Ytoocnmfodhnpbaa
open Go.ChangeShapes Go.WideShapes Go.ChangeAt Go.RowKit Go.EG
set_option linter.unusedVariables false
theorem list_of {α : Type} (Q : Nat → α → Prop) : ∀ len : Nat,(∀ i,i < len → ∃ x,Q i x) → ∃ l : List α,l.length = len ∧ ∀ i x,l[i]? = some x → Q i x
  | 0,_ => ⟨[],rfl,fun i x h => by simp at h⟩
  | n + 1,h => by
    obtain ⟨l,hl,hq⟩ := list_of Q n fun i hi => h i (by omega)
    obtain ⟨x,hx⟩ := h n (by omega)
    refine ⟨l ++ [x],by simp [hl],fun i y hy => ?_⟩
    rw [List.getElem?_append] at hy
    split at hy
    · exact hq i y hy
    · rename_i hn
      have hi := (List.getElem?_eq_some_iff.1 hy).1
      simp at hi
      have : i = n := by omega
      subst this
      rw [hl,Nat.sub_self] at hy
      simp at hy
      rw [← hy]; exact hx
section
variable {H : Type} {enc : TypeId × Value → H} {w : World} {base : Nat} {spare : Nat → Bool} {held : Bool}
theorem in_cells {a : Addr} {xs : List Value} (h : ∀ i v,xs[i]? = some v → w.cell? (a.add i) = some v) : In w [] (some a) xs := by
  by_cases hx : xs = []
  · exact .inl hx
  obtain ⟨b,off,spot⟩ := a
  obtain ⟨v0,hv0⟩ : ∃ v,xs[0]? = some v := ⟨_,List.getElem?_eq_getElem (List.length_pos_iff.2 hx)⟩
  have hc0 := h 0 v0 hv0
  have hspot : spot = none := by simpa [Addr.add] using World.cell?_spot hc0
  subst hspot
  refine .inr ⟨b,off,rfl,?_,by simp,fun j v hv => ?_⟩
  · have : w.cell? ⟨b,off,none⟩ = some v0 := by simpa [Addr.add] using hc0
    unfold World.cell? at this
    rcases Nat.lt_or_ge b w.heap.size with h | h
    · exact h
    · rw [Array.getElem?_eq_none h] at this
      simp at this
  · have h1 := h j v hv
    rw [← h1]
    congr 1
    simp only [Addr.add]
    split
    · rename_i h; subst h; rfl
    · rfl
theorem open_intsIn {P : Program} {t e : TypeId} {k : IntKind} {fuel : Nat} {cs : List Value} {x : DataW H × List MemPlace} (ht : P.underlying t = some (.slice e)) (he : P.underlying e = some (.int k)) (hc : P.cellsOf e = 1) (h : DataW.trod enc P w base spare held fuel t cs = some x) :
    ∃ a cap xs,cs = [.slice a (xs : List Int).length cap] ∧ In w [] a (ints k xs) ∧ xs.length ≤ 9223372036854775807 := by
  rcases open_ints ht he hc h with ⟨hcs,_⟩ | ⟨a,len,cap,zs,hcs,_,hl,hm,hz,hd,hcell,hwz⟩
  · exact ⟨none,0,[],hcs,.inl rfl,Nat.zero_le _⟩
  · have hle : len ≤ zs.length := by rw [hz]; split <;> omega
    have hlen : (zs.take len).length = len := by rw [List.length_take]; omega
    refine ⟨some a,cap,zs.take len,by rw [hlen]; exact hcs,in_cells fun i v hv => ?_,by rw [hlen]; unfold maxLen at hm; omega⟩
    have hi : i < (zs.take len).length := by
      have := (List.getElem?_eq_some_iff.1 hv).1
      rwa [ints_length] at this
    rw [ints_getD hi] at hv
    cases hv
    rw [hcell i (by omega),List.getD_eq_getElem?_getD,List.getD_eq_getElem?_getD,List.getElem?_take,if_pos (by omega)]
theorem open_bools {P : Program} {t e : TypeId} {fuel : Nat} {cs : List Value} {x : DataW H × List MemPlace} (ht : P.underlying t = some (.slice e)) (he : P.underlying e = some .bool) (hc : P.cellsOf e = 1) (h : DataW.trod enc P w base spare held fuel t cs = some x) :
    ∃ a cap xs,cs = [.slice a (xs : List Bool).length cap] ∧ In w [] a (xs.map Value.bool) := by
  rcases DataW.trod_slice ht h with ⟨hcs,_⟩ | ⟨a,len,cap,elems,rest,n,_,rfl,rfl,hb,hl,hm,hlen,hel,hsp,hns⟩
  · exact ⟨none,0,[],hcs,.inl rfl⟩
  · obtain ⟨l,hl2,hq⟩ := list_of (fun i (b : Bool) => w.cell? (a.add i) = some (.bool b)) len fun i hi => by
      have h1 := hel i hi
      rw [hc,Nat.mul_one,List.getElem?_eq_getElem (by omega)] at h1
      obtain ⟨cs',hcs,hy⟩ := Option.bind_eq_some_iff.1 h1
      obtain ⟨b,rfl,_⟩ := DataW.trod_bool he hy
      exact ⟨b,cell_of_cells?_one hcs⟩
    refine ⟨some a,cap,l,by rw [hl2],in_cells fun i v hv => ?_⟩
    rw [List.getElem?_map] at hv
    cases hb : l[i]? with
    | none => rw [hb] at hv; cases hv
    | some b => rw [hb] at hv; cases hv; exact hq i b hb
theorem open_rows {P : Program} {t e e' : TypeId} {fuel : Nat} {cs : List Value} {x : DataW H × List MemPlace} (ht : P.underlying t = some (.slice e)) (he : P.underlying e = some (.slice e')) (he' : P.underlying e' = some (.int .i64)) (hc : P.cellsOf e = 1) (hc' : P.cellsOf e' = 1) (h : DataW.trod enc P w base spare held fuel t cs = some x) :
    ∃ a cap nr,cs = [.slice a (nr : List RA).length cap] ∧ In w [] a (nr.map RA.v) ∧ (∀ r ∈ nr,In w [] r.a (ints .i64 r.xs) ∧ r.xs.length ≤ 9223372036854775807) ∧ nr.length ≤ 9223372036854775807 := by
  rcases DataW.trod_slice ht h with ⟨hcs,_⟩ | ⟨a,len,cap,elems,rest,n,_,rfl,rfl,hb,hl,hm,hlen,hel,hsp,hns⟩
  · exact ⟨none,0,[],hcs,.inl rfl,(fun r hr => by cases hr),Nat.zero_le _⟩
  · obtain ⟨l,hl2,hq⟩ := list_of (fun i (r : RA) => w.cell? (a.add i) = some r.v ∧ In w [] r.a (ints .i64 r.xs) ∧ r.xs.length ≤ 9223372036854775807) len fun i hi => by
      have h1 := hel i hi
      rw [hc,Nat.mul_one,List.getElem?_eq_getElem (by omega)] at h1
      obtain ⟨cs',hcs,hy⟩ := Option.bind_eq_some_iff.1 h1
      obtain ⟨a',cap',xs,rfl,h2,h3⟩ := open_intsIn he he' hc' hy
      exact ⟨⟨xs,a',cap'⟩,cell_of_cells?_one hcs,h2,h3⟩
    refine ⟨some a,cap,l,by rw [hl2],in_cells fun i v hv => ?_,fun r hr => ?_,by unfold maxLen at hm; omega⟩
    · rw [List.getElem?_map] at hv
      cases hb : l[i]? with
      | none => rw [hb] at hv; cases hv
      | some b => rw [hb] at hv; cases hv; exact (hq i b hb).1
    · obtain ⟨i,hi⟩ := List.getElem?_of_mem hr
      exact (hq i r hi).2
theorem take1 {α : Type} {l : List α} {i : Nat} {x : α} (h : (l.drop i).take 1 = [x]) : l[i]? = some x := by
  have := congrArg (fun l => l[0]?) h
  simpa using this
theorem list_six {α : Type} {l : List α} {a b c d e f : α} (h : l.length = 6) (h0 : l[0]? = some a) (h1 : l[1]? = some b) (h2 : l[2]? = some c) (h3 : l[3]? = some d) (h4 : l[4]? = some e) (h5 : l[5]? = some f) : l = [a,b,c,d,e,f] := by
  match l,h with
  | [x0,x1,x2,x3,x4,x5],_ => simp_all
set_option maxRecDepth 100000 in
theorem open_In {r : Reach} {b0 : Nat} {v : Value} {d : DataW H} {ps : List MemPlace} (hval : Value.okWide Try.prog w r b0 28 v) (hd : DataW.Trod enc Try.prog w base spare held 28 v d ps) : ∃ x : IA,v = x.v ∧ IIn w x := by
  obtain ⟨cs,rfl,hsz⟩ := okWide_struct Try.underlying28 hval
  obtain ⟨fuel,hf⟩ := hd
  rw [show (Value.agg cs).cells.toList = cs.toList from rfl] at hf
  obtain ⟨xs,n,_,_,hl,hlen,hfi⟩ := DataW.trod_struct Try.underlying28 hf
  rw [show Try.prog.cellsOf 28 = 6 from by kernel_rfl] at hl
  have f0 : DataW.trod enc Try.prog w base spare held n 26 ((cs.toList.drop 0).take (Try.prog.cellsOf 26)) = xs[0]? := hfi 0 _ rfl
  have f1 : DataW.trod enc Try.prog w base spare held n 22 ((cs.toList.drop 4).take (Try.prog.cellsOf 22)) = xs[1]? := hfi 1 _ rfl
  have f2 : DataW.trod enc Try.prog w base spare held n 4 ((cs.toList.drop 5).take (Try.prog.cellsOf 4)) = xs[2]? := hfi 2 _ rfl
  rw [List.getElem?_eq_getElem (by rw [hlen]; decide)] at f0 f1 f2
  rw [show Try.prog.cellsOf 22 = 1 from by kernel_rfl] at f1
  rw [show Try.prog.cellsOf 4 = 1 from by kernel_rfl] at f2
  rw [show Try.prog.cellsOf 26 = 4 from by kernel_rfl] at f0
  obtain ⟨ys,n2,_,_,hl2,hlen2,gfi⟩ := DataW.trod_struct Try.underlying26 f0
  have g0 : DataW.trod enc Try.prog w base spare held n2 3 ((((cs.toList.drop 0).take 4).drop 0).take (Try.prog.cellsOf 3)) = ys[0]? := gfi 0 _ rfl
  have g1 : DataW.trod enc Try.prog w base spare held n2 22 ((((cs.toList.drop 0).take 4).drop 1).take (Try.prog.cellsOf 22)) = ys[1]? := gfi 1 _ rfl
  have g2 : DataW.trod enc Try.prog w base spare held n2 23 ((((cs.toList.drop 0).take 4).drop 2).take (Try.prog.cellsOf 23)) = ys[2]? := gfi 2 _ rfl
  have g3 : DataW.trod enc Try.prog w base spare held n2 24 ((((cs.toList.drop 0).take 4).drop 3).take (Try.prog.cellsOf 24)) = ys[3]? := gfi 3 _ rfl
  rw [List.getElem?_eq_getElem (by rw [hlen2]; decide)] at g0 g1 g2 g3
  rw [show Try.prog.cellsOf 3 = 1 from by kernel_rfl] at g0
  rw [show Try.prog.cellsOf 22 = 1 from by kernel_rfl] at g1
  rw [show Try.prog.cellsOf 23 = 1 from by kernel_rfl] at g2
  rw [show Try.prog.cellsOf 24 = 1 from by kernel_rfl] at g3
  obtain ⟨st,e0,_,_⟩ := DataW.trod_int Try.underlying3 g0
  obtain ⟨ca,cc,cls,e1,i1,l1⟩ := open_intsIn Try.underlying22 Try.underlying3 (by kernel_rfl) g1
  obtain ⟨na,nc,nr,e2,i2,i2',l2⟩ := open_rows Try.underlying23 Try.underlying22 Try.underlying3 (by kernel_rfl) (by kernel_rfl) g2
  obtain ⟨aa,ac,acc,e3,i3⟩ := open_bools Try.underlying24 Try.underlying4 (by kernel_rfl) g3
  obtain ⟨ha,hc,H',e4,i4,l4⟩ := open_intsIn Try.underlying22 Try.underlying3 (by kernel_rfl) f1
  obtain ⟨b,e5,_⟩ := DataW.trod_bool Try.underlying4 f2
  have k : ∀ {j : Nat} {z : Value},j < 4 → ((((cs.toList.drop 0).take 4).drop j).take 1 = [z]) → cs.toList[j]? = some z := fun {j} {z} hj h => by
    have := take1 h
    rw [List.drop_zero,List.getElem?_take,if_pos hj] at this
    exact this
  refine ⟨⟨⟨st,cls,ca,cc,nr,na,nc,acc,aa,ac⟩,H',ha,hc,b⟩,?_,⟨⟨i1,i2,i3,fun r hr => (i2' r hr).1⟩,i4,l2,fun r hr => (i2' r hr).2,l4⟩⟩
  have := list_six hl (k (by decide) e0) (k (by decide) e1) (k (by decide) e2) (k (by decide) e3) (take1 e4) (take1 e5)
  obtain ⟨l⟩ := cs
  dsimp only at this
  rw [this]
end
end Go.Proofs.Ytoocnmfodhnpbaa
/- The machine of a set of letters: the program. -/
namespace Go.Proofs.Ytoocnmfodhnpbaa
open Go.EG
attribute [local irreducible] CallK QCall Go.Calls
set_option linter.unusedSimpArgs false
set_option linter.unusedVariables false
set_option maxRecDepth 20000
set_option maxHeartbeats 4000000
def letR1 (f : Nat → Bool) (i : Nat) : List Int := (List.range 256).map fun j => if j < i ∧ f j = true then 1 else 0
theorem letR1_len (f : Nat → Bool) (i : Nat) : (letR1 f i).length = 256 := by simp [letR1]
theorem letR1_zero (f : Nat → Bool) : letR1 f 0 = List.replicate 256 0 := by
  unfold letR1
  rw [List.eq_replicate_iff]
  refine ⟨by simp,fun x hx => ?_⟩
  obtain ⟨j,_,rfl⟩ := List.mem_map.1 hx
  simp
theorem letR1_get (f : Nat → Bool) (i : Nat) {j : Nat} (h : j < 256) : (letR1 f i).getD j 0 = if j < i ∧ f j = true then 1 else 0 := by
  simp [letR1,List.getD_eq_getElem?_getD,List.getElem?_range h]
theorem letR1_no (f : Nat → Bool) {i : Nat} (hf : f i = false) : letR1 f (i + 1) = letR1 f i := by
  unfold letR1
  refine List.map_congr_left fun j _ => ?_
  by_cases h : j = i
  · subst h; simp [hf]
  · have : (j < i + 1) ↔ (j < i) := by omega
    simp [this]
theorem letR1_yes (f : Nat → Bool) {i : Nat} (hi : i < 256) (hf : f i = true) : (letR1 f i).set i 1 = letR1 f (i + 1) := by
  refine List.ext_getElem? fun j => ?_
  rw [List.getElem?_set]
  by_cases h : i = j
  · subst h
    rw [if_pos rfl,if_pos (by rw [letR1_len]; exact hi)]
    simp [letR1,List.getElem?_range hi,hf]
  · rw [if_neg h]
    unfold letR1
    rw [List.getElem?_map,List.getElem?_map]
    cases hj : (List.range 256)[j]? with
    | none => rfl
    | some v =>
      have hv : v = j := by
        have := List.getElem?_eq_some_iff.1 hj
        obtain ⟨h1,h2⟩ := this
        rw [List.getElem_range] at h2; exact h2.symm
      subst hv
      have : (v < i + 1) ↔ (v < i) := by omega
      simp [this]
def letM (f : Nat → Bool) : Mch := ⟨0,letR1 f 256,[[0,1],[0,1]],[false,true]⟩
theorem letM_ok (f : Nat → Bool) : MOk (letM f) 2 := by
  have hl : (letM f).nx.length = 2 := rfl
  have hs : (letM f).start = 0 := rfl
  refine ⟨letR1_len f 256,by omega,by omega,rfl,⟨by omega,by omega⟩,by omega,?_,?_⟩
  · intro r hr
    have : r = [0,1] := by simpa [letM] using hr
    subst this
    exact ⟨rfl,fun q hq => by simp at hq; omega⟩
  · intro c hc
    obtain ⟨j,_,rfl⟩ := List.mem_map.1 hc
    split <;> decide
theorem letM_chk (f : Nat → Bool) : chkM (letM f) = 0 := by
  have h := letM_ok f
  have hF : Frm (letM f) ((letM f).nx.getD 0 []).length := ⟨h.cls,h.pos,h.acc,h.start,h.k1,h.row,h.letter⟩
  rw [chkM_ok hF]; rfl
theorem letM_stp (f : Nat → Bool) {q b : Nat} (hq : q < 2) (hb : b < 256) : stp (letM f) q b = if f b = true then 1 else 0 := by
  have h1 : (letM f).cls.getD b 0 = if b < 256 ∧ f b = true then 1 else 0 := letR1_get f 256 hb
  have h2 : (letM f).nx.getD q [] = [0,1] := by
    rcases (show q = 0 ∨ q = 1 by omega) with rfl | rfl <;> rfl
  unfold stp
  rw [h1,h2]
  cases f b
  · rw [if_neg (by simp),if_neg (by simp)]; rfl
  · rw [if_pos ⟨hb,rfl⟩,if_pos rfl]; rfl
def newLM (key : Nat) (f : Nat → Bool) (v : Value) (L1 : List Ent) : Prop := ∃ y F,v = MA.v y ∧ L1 = [frE key F] ∧ MFz F y ∧ y.m = letM f
theorem calls_Letters33 (key : Nat) (s : Let4) (hs : s.Ok) (w : World) :
    Calls Try.prog fn_evergreenlaw33_Letters #[l4V s] w fun e w' => ∃ v L1,e = .returned v ∧ R w [] L1 w' ∧ newLM key s.has v L1 := by
  refine new_call [.v (l4V s)] ok_evergreenlaw33_Letters (by simp) ?_
  have z1 : (List.replicate 256 [Value.int .i64 0]).flatten = ints .i64 (letR1 s.has 0) := by
    rw [letR1_zero,← flat_zeros]
  (repeat' ((conv => whnf); first | refine ⟨_,⟨rfl,trivial⟩,?_⟩ | (refine bcase_prop (fun h => ?_) (fun h => ?_) <;> try (exfalso; omega)) | (refine bcase_nprop (fun h => ?_) (fun h => ?_) <;> try (exfalso; omega)) | (refine bcase_intro (fun h => ?_) (fun h => ?_) <;> (try simp only [Bool.not_eq_true',Bool.not_eq_false',decide_eq_true_eq,decide_eq_false_iff_not,Bool.not_eq_true,Bool.not_eq_false,Decidable.not_not] at h)) | refine And.intro (by first | omega | exact rfl | assumption | exact ⟨rfl,rfl,rfl,rfl,rfl⟩ | exact ⟨rfl,rfl,rfl,rfl⟩ | exact ⟨rfl,by omega⟩ | exact oneAll_of rfl | exact ⟨rfl,oneAll_of rfl⟩ | exact Ref.refl _ | exact Thin.ref (.skip (Thin.refl _)) | exact Thin.ref (.skip (.skip (Thin.refl _))) | exact ⟨rfl,Nat.le_of_ble_eq_true rfl⟩ | ((try unfold maxLen); (try simp only [List.length_nil,List.length_cons,List.length_append]); omega) | (refine ⟨rfl,?_⟩; (try simp only [List.length_nil,List.length_cons,List.length_append]); omega)) ?_ | intro _)); (all_goals (conv => whnf))
  rename_i b1 b2 b5 b6 b7 b8 b9 b3
  refine VC_loop Nat (fun i => [(1,.ptr 1 b1 0),(2,.ptr 2 b2 0),(3,.ptr 3 b3 0),(11,.v (.int .i64 i))])
    (fun i => [.own 5 (some ⟨b5,0,none⟩) 256 256 ty_int 1 (ints .i64 (letR1 s.has i)),.own 6 (some ⟨b6,0,none⟩) 2 2 ty_int 1 (ints .i64 [0,1]),.own 7 (some ⟨b7,0,none⟩) 2 2 ty_int 1 (ints .i64 [0,1]),.own 8 (some ⟨b8,0,none⟩) 2 2 ty_Sl_int 1 [.slice (some ⟨b6,0,none⟩) 2 2,.slice (some ⟨b7,0,none⟩) 2 2],.own 9 (some ⟨b9,0,none⟩) 2 2 ty_bool 1 [.bool false,.bool true],.box 1 b1 [.int .u64 s.s0,.int .u64 s.s1,.int .u64 s.s2,.int .u64 s.s3] ty_api_Letters,.box 2 b2 [.int .i64 0,.slice none 0 0,.slice none 0 0,.slice none 0 0] ty_api_Machine,.box 3 b3 [.int .i64 0,.slice (some ⟨b5,0,none⟩) 256 256,.slice (some ⟨b8,0,none⟩) 2 2,.slice (some ⟨b9,0,none⟩) 2 2] ty_api_Machine])
    (fun i => i ≤ 256) (fun i => 256 - i) 0 (Nat.zero_le _) (by (repeat ((conv => whnf); refine And.intro (by first | exact rfl | exact vint_eq (by omega) | exact vint_eq (by (dsimp only; omega)) | exact vsl_eq (by omega) | exact vsl_eq (by first | (dsimp only; omega) | (simp; done) | (simp; omega))) ?_)); exact trivial) (Ref.takes [5,6,7,8,9,1,2,3] rfl (.own rfl z1 (Thin.refl _))) ?_
  intro i hi
  by_cases hlt : i < 256
  · have c1 := calls_r16Has s hs i hlt
    have m1 : (i : Int) % 256 = i := Int.emod_eq_of_lt (by omega) (by omega)
    have q0 : ((i : Nat) : Int).toNat = i := by omega
    have hll := letR1_len s.has i
    have bb : i + 1 ≤ (ints .i64 (letR1 s.has i)).length := by rw [ints_length]; omega
    cases hf : s.has i
    · rw [hf] at c1
      have hn := letR1_no s.has hf
      (repeat' ((conv => whnf); first | rw [m1] | rw [q0] | (first | refine CallK_pure (.v _) (fun w hR => c1 w) ?_ | refine QCall_pure (.v _) (fun w hR => c1 w) ?_) | refine ⟨_,⟨rfl,trivial⟩,?_⟩ | (refine bcase_prop (fun h => ?_) (fun h => ?_) <;> try (exfalso; omega)) | (refine bcase_nprop (fun h => ?_) (fun h => ?_) <;> try (exfalso; omega)) | (refine bcase_intro (fun h => ?_) (fun h => ?_) <;> (try simp only [Bool.not_eq_true',Bool.not_eq_false',decide_eq_true_eq,decide_eq_false_iff_not,Bool.not_eq_true,Bool.not_eq_false,Decidable.not_not] at h)) | refine And.intro (by first | omega | exact rfl | assumption | exact ⟨rfl,rfl,rfl,rfl,rfl⟩ | exact ⟨rfl,rfl,rfl,rfl⟩ | exact ⟨rfl,by omega⟩ | exact oneAll_of rfl | exact ⟨rfl,oneAll_of rfl⟩ | exact Ref.refl _ | exact Thin.ref (.skip (Thin.refl _)) | exact Thin.ref (.skip (.skip (Thin.refl _))) | exact ⟨rfl,Nat.le_of_ble_eq_true rfl⟩ | ((try unfold maxLen); (try simp only [List.length_nil,List.length_cons,List.length_append]); omega) | (refine ⟨rfl,?_⟩; (try simp only [List.length_nil,List.length_cons,List.length_append]); omega)) ?_ | intro _)); (all_goals (conv => whnf))
      all_goals first | (exfalso; omega) | skip
      exact loop_next (i + 1) (by omega) (by omega) (by (repeat ((conv => whnf); refine And.intro (by first | exact rfl | exact vint_eq (by omega) | exact vint_eq (by (dsimp only; omega)) | exact vsl_eq (by omega) | exact vsl_eq (by first | (dsimp only; omega) | (simp; done) | (simp; omega))) ?_)); exact trivial) (Ref.takes [5,6,7,8,9,1,2,3] rfl (.own rfl (by rw [hn]) (Thin.refl _)))
    · rw [hf] at c1
      have hn := letR1_yes s.has hlt hf
      have s1 : splice (ints .i64 (letR1 s.has i)) i [.int .i64 1] = ints .i64 (letR1 s.has (i + 1)) := by rw [splice_ints (by omega),hn]
      (repeat' ((conv => whnf); first | rw [m1] | rw [q0] | rw [s1] | (first | refine CallK_pure (.v _) (fun w hR => c1 w) ?_ | refine QCall_pure (.v _) (fun w hR => c1 w) ?_) | refine ⟨.sl 5 _ _ _,⟨rfl,rfl,rfl,rfl⟩,?_⟩ | refine ⟨_,⟨rfl,trivial⟩,?_⟩ | (refine bcase_prop (fun h => ?_) (fun h => ?_) <;> try (exfalso; omega)) | (refine bcase_nprop (fun h => ?_) (fun h => ?_) <;> try (exfalso; omega)) | (refine bcase_intro (fun h => ?_) (fun h => ?_) <;> (try simp only [Bool.not_eq_true',Bool.not_eq_false',decide_eq_true_eq,decide_eq_false_iff_not,Bool.not_eq_true,Bool.not_eq_false,Decidable.not_not] at h)) | refine And.intro (by first | omega | exact rfl | assumption | exact ⟨rfl,rfl,rfl,rfl,rfl⟩ | exact ⟨rfl,rfl,rfl,rfl⟩ | exact ⟨rfl,by omega⟩ | exact oneAll_of rfl | exact ⟨rfl,oneAll_of rfl⟩ | exact Ref.refl _ | exact Thin.ref (.skip (Thin.refl _)) | exact Thin.ref (.skip (.skip (Thin.refl _))) | exact ⟨rfl,bb⟩ | exact ⟨rfl,Nat.le_of_ble_eq_true rfl⟩ | ((try unfold maxLen); (try simp only [List.length_nil,List.length_cons,List.length_append]); omega) | (refine ⟨rfl,?_⟩; (try simp only [List.length_nil,List.length_cons,List.length_append]); omega)) ?_ | intro _)); (all_goals (conv => whnf))
      all_goals first | (exfalso; omega) | skip
      exact loop_next (i + 1) (by omega) (by omega) (by (repeat ((conv => whnf); refine And.intro (by first | exact rfl | exact vint_eq (by omega) | exact vint_eq (by (dsimp only; omega)) | exact vsl_eq (by omega) | exact vsl_eq (by first | (dsimp only; omega) | (simp; done) | (simp; omega))) ?_)); exact trivial) (Ref.takes [5,6,7,8,9,1,2,3] rfl (Thin.refl _))
  · obtain rfl : i = 256 := by omega
    (repeat' ((conv => whnf); first | refine ⟨_,⟨rfl,trivial⟩,?_⟩ | (refine bcase_prop (fun h => ?_) (fun h => ?_) <;> try (exfalso; omega)) | (refine bcase_nprop (fun h => ?_) (fun h => ?_) <;> try (exfalso; omega)) | (refine bcase_intro (fun h => ?_) (fun h => ?_) <;> (try simp only [Bool.not_eq_true',Bool.not_eq_false',decide_eq_true_eq,decide_eq_false_iff_not,Bool.not_eq_true,Bool.not_eq_false,Decidable.not_not] at h)) | refine And.intro (by first | omega | exact rfl | assumption | exact ⟨rfl,rfl,rfl,rfl,rfl⟩ | exact ⟨rfl,rfl,rfl,rfl⟩ | exact ⟨rfl,by omega⟩ | exact oneAll_of rfl | exact ⟨rfl,oneAll_of rfl⟩ | exact Ref.refl _ | exact Thin.ref (.skip (Thin.refl _)) | exact Thin.ref (.skip (.skip (Thin.refl _))) | exact ⟨rfl,Nat.le_of_ble_eq_true rfl⟩ | ((try unfold maxLen); (try simp only [List.length_nil,List.length_cons,List.length_append]); omega) | (refine ⟨rfl,?_⟩; (try simp only [List.length_nil,List.length_cons,List.length_append]); omega)) ?_ | intro _)); (all_goals (conv => whnf))
    all_goals first | (exfalso; omega) | skip
    refine ⟨⟨_,((Ref.takes [5,6,7,8,9] rfl (Thin.refl _)).trans (Ref.freezeNew 79)).trans (((Ref.takes [5,79,6,7,8,9] rfl (Thin.refl _)).trans Ref.freezeRow).trans (((Ref.takes [6,79,7,8,9] rfl (Thin.refl _)).trans Ref.freezeRow).trans (((Ref.takes [7,79,8,9] rfl (Thin.refl _)).trans Ref.freezeRow).trans (((Ref.takes [8,79,9] rfl (Thin.refl _)).trans Ref.freezeRow).trans (((Ref.takes [9,79] rfl (Thin.refl _)).trans Ref.freezeRow).trans (Thin.ref (Thin.abs (k' := key) (.nil _)))))))),
      ⟨0,letR1 s.has 256,some ⟨b5,0,none⟩,256,[⟨[0,1],some ⟨b6,0,none⟩,2⟩,⟨[0,1],some ⟨b7,0,none⟩,2⟩],some ⟨b8,0,none⟩,2,[false,true],some ⟨b9,0,none⟩,2⟩,_,?_,rfl,⟨?_,?_,?_,?_⟩,?_⟩⟩
    · dsimp only [MA.v,MA.cells]; rw [letR1_len]; rfl
    · exact FIn.head.tail.tail.tail.tail
    · exact FIn.head.tail
    · exact FIn.head
    · intro r hr
      simp only [List.mem_cons,List.not_mem_nil,or_false] at hr
      rcases hr with rfl | rfl
      · exact FIn.head.tail.tail.tail
      · exact FIn.head.tail.tail
    · rfl
end Go.Proofs.Ytoocnmfodhnpbaa
/- The example of the chapter: the program. -/
namespace Go.Proofs.Ytoocnmfodhnpbaa
open Go.EG
attribute [local irreducible] CallK QCall Go.Calls
set_option linter.unusedSimpArgs false
set_option linter.unusedVariables false
set_option maxRecDepth 20000
set_option maxHeartbeats 4000000
theorem letM_E (f : Nat → Bool) : ∀ (t : List Nat) (q : Nat),q < 2 → (∀ b ∈ t,b < 256) → runE (letM f) q t = match t.getLast? with | none => q | some b => if f b = true then 1 else 0
  | [],q,_,_ => rfl
  | [b],q,hq,hb => by
    show stp (letM f) q b = _
    rw [letM_stp f hq (hb b (by simp))]; rfl
  | b :: c :: t,q,hq,hb => by
    show runE (letM f) (stp (letM f) q b) (c :: t) = _
    have hs : stp (letM f) q b < 2 := by
      rw [letM_stp f hq (hb b (by simp))]; split <;> decide
    rw [letM_E f (c :: t) _ hs (fun x hx => hb x (List.mem_cons_of_mem _ hx))]
    rw [List.getLast?_cons_cons]
    cases h : (c :: t).getLast? with
    | none => simp at h
    | some z => rfl
theorem letM_H (f : Nat → Bool) (h : Nat) : ∀ (t : List Nat) (q : Nat),q < 2 → (∀ b ∈ t,b < 256) → runH (letM f) [0,(h : Int)] q t = h * t.countP f
  | [],q,_,_ => by simp [runH]
  | b :: t,q,hq,hb => by
    have hs : stp (letM f) q b < 2 := by
      rw [letM_stp f hq (hb b (by simp))]; split <;> decide
    show (([0,(h : Int)] : List Int).getD (stp (letM f) q b) 0).toNat + runH (letM f) [0,(h : Int)] (stp (letM f) q b) t = _
    rw [letM_H f h t _ hs (fun x hx => hb x (List.mem_cons_of_mem _ hx)),letM_stp f hq (hb b (by simp)),List.countP_cons]
    cases f b
    · simp
    · simp [Nat.mul_add,Nat.add_comm]
def allD (S : Sto) (i : Int) : Prop := 1 ≤ i ∧ i ≤ S.E.length
theorem allD_clo {S : Sto} (hw : WF S) : Clo S (allD S) := by
  intro i h
  obtain ⟨ho,_⟩ := hw.at_ h.1 h.2
  unfold allD at *
  refine ⟨h.1,h.2,fun hk => ?_,fun hk => ?_⟩
  · rcases ho with ho | ho | ho <;> omega
  · rcases ho with ho | ho | ho <;> omega
theorem allD_known {S : Sto} {n : Int} : n = 0 ∨ ¬ known S n ∨ allD S n := by
  by_cases h : known S n
  · by_cases h0 : n = 0
    · exact .inl h0
    · have := h.1
      exact .inr (.inr ⟨by omega,h.2⟩)
  · exact .inr (.inl h)
def gB : List Rul := [⟨1,97,0,0,0⟩,⟨1,98,0,0,0⟩,⟨2,0,1,2,0⟩,⟨3,0,1,0,2⟩,⟨2,0,3,4,0⟩]
abbrev tB : Tm := .pr (.pr (.lt 97) (.lt 98)) (.pw (.lt 97) 2)
theorem gB_chk : chk 1 gB = 0 := by decide
theorem gB_rul : ∀ i,i < gB.length → okR (gB.getD i rul0) (i + 1) := fun i hi => by
  have := (chk_zero.1 gB_chk) i hi
  rwa [show (1 : Int) + (i : Int) = i + 1 by omega] at this
theorem gB_let : ∀ i,i < gB.length → 0 ≤ (gB.getD i rul0).l ∧ (gB.getD i rul0).l < 256 := by decide
theorem gB_gram : Gram gB := ⟨gB_rul,gB_let,by decide⟩
theorem gB_imp : ∃ S to,stImp ⟨10,[]⟩ [0] gB = some (S,to) ∧ WF S ∧ known S (to.getD 5 0) ∧ tm S.E (to.getD 5 0) = tB := by
  obtain ⟨S,to,h1,h2,_,h4,_⟩ := stImp_ok (g := gB) (WF.new 10 (by decide)) (Rel.start _) (fun i hi => by
    have := gB_rul i hi
    rwa [show (([] : List Tm).length : Int) + 1 + (i : Int) = i + 1 by simp; omega]) gB_let (by decide) (by decide)
  obtain ⟨a,b,c⟩ := h4.at_ 5 (by decide) (by decide)
  exact ⟨S,to,h1,h2,⟨by omega,b⟩,c⟩
def sB : Let4 := ⟨0,8589934592,0,0⟩
theorem sB_ok : sB.Ok := ⟨by decide,by decide,by decide,by decide⟩
theorem tabE_let {y : MA} {f : Nat → Bool} (hy : y.m = letM f) {h : Int} (hh : 0 ≤ h ∧ h ≤ 1048576) : tabE y [0,h] = 0 := by
  refine tabE_ok (by rw [hy]; exact letM_chk f) ⟨?_,by simp; omega⟩
  have : y.m.nx.length = y.nr.length := List.length_map ..
  rw [← this,hy]; rfl
theorem MFz.in_ {w0 w : World} {fp0 : List Nat} {L Lr : List Ent} {key : Nat} {F : List Frz} {x : MA} (hR : R w0 fp0 L w) (hm : pickE key L = some (frE key F,Lr)) (h : MFz F x) : McI w [] x := by
  have hm' := (pickE_perm hm).mem_iff.2 (List.mem_cons_self (a := frE key F) (l := Lr))
  exact ⟨FIn.in_ hR hm' h.cls,FIn.in_ hR hm' h.nx,FIn.in_ hR hm' h.acc,fun r hr => FIn.in_ hR hm' (h.row r hr)⟩
theorem calls_awake33 (w : World) : Calls Try.prog fn_evergreenlaw33_awake #[] w fun e w' => e = .returned (.bool true) ∧ Ext w w' := by
  refine pure_call [] w ok_evergreenlaw33_awake (by simp) ?_
  have c1 := fun w => calls_New 10 77 w
  rw [show clipS 10 = 10 from rfl] at c1
  obtain ⟨S,to,himp,hw,hk,ht⟩ := gB_imp
  have c2 := fun b key fp w hR a c hin => calls_Import b ⟨10,[]⟩ (WF.new 10 (by decide)) gB gB_gram S to himp (by decide) a c key fp w hR hin
  have hl : gB.length = 5 := rfl
  rw [hl] at c2
  generalize to.getD 5 0 = n at *
  have c3 := fun w => calls_Letters33 79 sB sB_ok w
  have hT : TbOk ⟨letM sB.has,[0,1],false,allD S⟩ 2 := ⟨letM_ok _,rfl,fun h hh => by simp at hh; omega⟩
  have q0 : askOk ⟨letM sB.has,[0,1],false,allD S⟩ S n 0 := ⟨hk,by decide,by show (0 : Int) < ((2 : Nat) : Int); decide⟩
  have c5 := fun bt b => calls_THits bt b ⟨letM sB.has,[0,1],false,allD S⟩ hT S hw (allD_clo hw) n 0 allD_known
  have c6 := fun bt b => calls_TPart bt b ⟨letM sB.has,[0,1],false,allD S⟩ hT S hw (allD_clo hw) n 1 2 0 allD_known
  have r1 : runH (letM sB.has) [0,1] 0 (ori false tB.txt) = 3 := by
    have := letM_H sB.has 1 tB.txt 0 (by decide) (by decide)
    exact this.trans (by decide)
  have r2 : runH (letM sB.has) [0,1] 0 (ori false ((tB.txt.drop 1).take 2)) = 1 := by
    have := letM_H sB.has 1 ((tB.txt.drop 1).take 2) 0 (by decide) (by decide)
    exact this.trans (by decide)
  have r3 : runE (letM sB.has) 0 (ori false ((tB.txt.drop 1).take 2)) = 1 := by
    have := letM_E sB.has ((tB.txt.drop 1).take 2) 0 (by decide) (by decide)
    exact this.trans (by decide)
  have e5 : hitV ⟨letM sB.has,[0,1],false,allD S⟩ S n 0 = .tuple #[.int .i64 3,.nilIface] := by
    unfold hitV
    rw [if_pos q0,ht]
    dsimp only
    rw [show (0 : Int).toNat = 0 from rfl,r1,if_pos (by decide)]; rfl
  have e6 : prtV ⟨letM sB.has,[0,1],false,allD S⟩ S n 1 2 0 = .tuple #[.int .i64 1,.int .i64 1,.nilIface] := by
    unfold prtV
    rw [if_pos q0,ht,if_pos (by decide)]
    dsimp only
    rw [show (0 : Int).toNat = 0 from rfl,show (1 : Int).toNat = 1 from rfl,show (2 : Int).toNat = 2 from rfl,r2,r3,if_pos (by decide)]; rfl
  simp only [e5] at c5
  simp only [e6] at c6
  have c4 := fun bs (y : MA) (hy : y.m = letM sB.has) (w' : World) hm ha hc hh => calls_TabNew 78 bs (allD S) S.E (w := w') y hm [0,1] ha hc hh false (tabE_let (f := sB.has) hy (by decide))
  have c4 := fun bs (y : MA) (hy : y.m = letM sB.has) (w' : World) hm ha hc hh => by
    have := c4 bs y hy w' hm ha hc hh
    rw [hy] at this
    exact this
  (repeat' ((conv => whnf); first | (refine CallK_new (fun w hR => c1 w) ?_; rintro _ _ ⟨bn,fpn,rfl,rfl⟩; refine ⟨.v _,rfl,?_⟩) | (refine CallK_pack (key := 77) rfl (fun w hR h0 => c2 _ _ _ _ h0 _ _ (In.beside (key := 22) hR rfl)) ?_; rintro _ _ ⟨rfl,fp',rfl⟩; refine ⟨.v _,rfl,?_⟩) | ((refine CallK_new (fun w' hR => c3 w') ?_); rintro _ _ ⟨y,F,rfl,rfl,hF,hy⟩; refine ⟨.v _,rfl,?_⟩) | ((refine CallK_new (fun w' hR => c4 _ y hy w' (hF.in_ (key := 79) hR rfl) _ _ (In.ownR (key := 31) hR rfl)) ?_); rintro _ _ ⟨bt,fpt,rfl,rfl⟩; refine ⟨.v _,rfl,?_⟩) | (refine CallK_pack2 (key1 := 78) (key2 := 77) rfl rfl (fun w hR h0 => c5 _ _ _ _ _ _ _ h0) ?_; rintro _ _ ⟨rfl,fp1',fp2',rfl⟩; refine ⟨.v _,rfl,?_⟩) | (refine CallK_pack2 (key1 := 78) (key2 := 77) rfl rfl (fun w hR h0 => c6 _ _ _ _ _ _ _ h0) ?_; rintro _ _ ⟨rfl,fp1',fp2',rfl⟩; refine ⟨.v _,rfl,?_⟩) | refine ⟨_,⟨rfl,trivial⟩,?_⟩ | (refine bcase_prop (fun h => ?_) (fun h => ?_) <;> try (exfalso; omega)) | (refine bcase_nprop (fun h => ?_) (fun h => ?_) <;> try (exfalso; omega)) | (refine bcase_intro (fun h => ?_) (fun h => ?_) <;> (try simp only [Bool.not_eq_true',Bool.not_eq_false',decide_eq_true_eq,decide_eq_false_iff_not,Bool.not_eq_true,Bool.not_eq_false,Decidable.not_not] at h)) | refine And.intro (by first | omega | exact rfl | assumption | exact ⟨rfl,rfl,rfl,rfl,rfl⟩ | exact ⟨rfl,rfl,rfl,rfl⟩ | exact ⟨rfl,by omega⟩ | exact oneAll_of rfl | exact ⟨rfl,oneAll_of rfl⟩ | exact Ref.refl _ | exact Thin.ref (.skip (Thin.refl _)) | exact Thin.ref (.skip (.skip (Thin.refl _))) | exact ⟨rfl,Nat.le_of_ble_eq_true rfl⟩ | ((try unfold maxLen); (try simp only [List.length_nil,List.length_cons,List.length_append]); omega) | (refine ⟨rfl,?_⟩; (try simp only [List.length_nil,List.length_cons,List.length_append]); omega)) ?_ | intro _)); (all_goals (conv => whnf))
  all_goals first | (exfalso; omega) | exact ⟨rfl⟩ | skip
end Go.Proofs.Ytoocnmfodhnpbaa
/- Runs over texts and ranges are those of the plain text: the program. -/
namespace Go.Proofs.Ytoocnmfodhnpbaa
open Go.EG
attribute [local irreducible] CallK QCall Go.Calls
set_option linter.unusedSimpArgs false
set_option linter.unusedVariables false
set_option maxRecDepth 20000
set_option maxHeartbeats 4000000
theorem Sml.ok {x : IA} (h : Sml x) (D : Int → Prop) : TbOk ⟨x.m.m,x.H,x.back,D⟩ (x.m.m.nx.getD 0 []).length := by
  obtain ⟨h0,h1,h2⟩ := tabE_zero h.2
  exact ⟨chkM_zero h0,by rw [show x.m.m.nx.length = x.m.nr.length from List.length_map ..]; exact h1,h2⟩
structure TxG where
  i : Nat
  f1 : List Nat
  f2 : List Nat
end Go.Proofs.Ytoocnmfodhnpbaa
/- A range is run over as its two parts are,one after the other: the program. -/
namespace Go.Proofs.Ytoocnmfodhnpbaa
open Go.EG
attribute [local irreducible] CallK QCall Go.Calls
set_option linter.unusedSimpArgs false
set_option linter.unusedVariables false
set_option maxRecDepth 20000
set_option maxHeartbeats 4000000
def pR (T : Tb) (q : Nat) (t : List Nat) : Value := if runH T.M T.H q t ≤ LM then .tuple #[.int .i64 (runE T.M q t),.int .i64 (runH T.M T.H q t),.nilIface] else .tuple #[.int .i64 0,.int .i64 0,errV 2]
theorem prtV_ok {T : Tb} {S : Sto} {n : Int} (hk : known S n) {i m q : Nat} (hv : i + m ≤ (tm S.E n).txt.length) (hq : q < T.M.nx.length) : prtV T S n i m q = pR T q (ori T.back (sub (tm S.E n).txt i m)) := by
  unfold prtV
  rw [if_pos ⟨hk,by omega,by omega⟩,if_pos ⟨by omega,by omega,by omega,by omega⟩,Int.toNat_natCast,Int.toNat_natCast,Int.toNat_natCast]
  rfl
def chV (T : Tb) (q : Nat) (s t : List Nat) : Value :=
  if runH T.M T.H q s ≤ LM then
    (if runH T.M T.H (runE T.M q s) t ≤ LM then .tuple #[.int .i64 (runE T.M (runE T.M q s) t),.int .i64 ((runH T.M T.H q s : Int) + (runH T.M T.H (runE T.M q s) t : Int)),.bool true] else .tuple #[.int .i64 0,.int .i64 ((runH T.M T.H q s : Int) + 0),.bool false])
  else (if runH T.M T.H 0 t ≤ LM then .tuple #[.int .i64 (runE T.M 0 t),.int .i64 (0 + (runH T.M T.H 0 t : Int)),.bool false] else .tuple #[.int .i64 0,.int .i64 (0 + 0),.bool false])
theorem sub_byt {S : Sto} (hw : WF S) {n : Int} (hk : known S n) {back : Bool} {i m : Nat} : ∀ b ∈ ori back (sub (tm S.E n).txt i m),b < 256 := fun b hb =>
  hw.byt _ _ (Nat.le_refl _) hk.2 b (List.mem_of_mem_drop (List.mem_of_mem_take ((ori_mem _).1 hb)))
theorem calls_chain (bt bs : Nat) (T : Tb) {kk : Nat} (hT : TbOk T kk) (S : Sto) (hw : WF S) (hD : Clo S T.D) (n : Int) (hk : known S n) (hn : n = 0 ∨ ¬ known S n ∨ T.D n) (i1 m1 i2 m2 q : Nat) (v1 : i1 + m1 ≤ (tm S.E n).txt.length) (v2 : i2 + m2 ≤ (tm S.E n).txt.length) (hq : q < T.M.nx.length) :
    XC fn_evergreenlaw33_chain #[pS bt,.int .i64 n,.agg #[.int .i64 i1,.int .i64 m1],.agg #[.int .i64 i2,.int .i64 m2],.int .i64 q] bt bs T S
      (if T.back = true then chV T q (ori T.back (sub (tm S.E n).txt i2 m2)) (ori T.back (sub (tm S.E n).txt i1 m1)) else chV T q (ori T.back (sub (tm S.E n).txt i1 m1)) (ori T.back (sub (tm S.E n).txt i2 m2))) := by
  intro k1 k2 fp1 fp2 w hR
  have hR : R w (fp1 ++ fp2) [packE 78 fp1 (fX bt bs T S.E),packE 77 fp2 (fS bs S)] w := (Thin.packE (Thin.packE (.nil []))).ref w hR
  refine part_call [.v (pS bt),.v (.int .i64 n),.v (.agg #[.int .i64 i1,.int .i64 m1]),.v (.agg #[.int .i64 i2,.int .i64 m2]),.v (.int .i64 q)] ok_evergreenlaw33_chain (by simp) hR ?_
  have c1 := calls_TBack bt bs T S.E
  have hb1 := sub_byt hw hk (back := T.back) (i := i1) (m := m1)
  have hb2 := sub_byt hw hk (back := T.back) (i := i2) (m := m2)
  have pa := fun q' hq' => prtV_ok (T := T) hk (q := q') v1 hq'
  have pb := fun q' hq' => prtV_ok (T := T) hk (q := q') v2 hq'
  have c2 := fun q' : Nat => calls_TPart bt bs T hT S hw hD n i1 m1 q' hn
  have c3 := fun q' : Nat => calls_TPart bt bs T hT S hw hD n i2 m2 q' hn
  have hpos := hT.m.pos
  have e1 := fun q' hq' => runE_lt hT.m (q := q') hb1 hq'
  have e2 := fun q' hq' => runE_lt hT.m (q := q') hb2 hq'
  generalize ori T.back (sub (tm S.E n).txt i1 m1) = A at *
  generalize ori T.back (sub (tm S.E n).txt i2 m2) = B at *
  have hLM : LM = 1152921504606846976 := rfl
  cases hB : T.back
  · rw [if_neg (by decide)]
    rw [hB] at c1
    have d1 := c2 q
    rw [pa q hq] at d1
    unfold chV
    unfold pR at d1
    by_cases g1 : runH T.M T.H q A ≤ LM
    · rw [if_pos g1] at d1 ⊢
      have d2 := c3 (runE T.M q A)
      rw [pb _ (e1 q hq)] at d2
      unfold pR at d2
      generalize runE T.M q A = Q at *
      by_cases g2 : runH T.M T.H Q B ≤ LM
      · rw [if_pos g2] at d2 ⊢
        (repeat' ((conv => whnf); first | (refine CallK_pack (key := 78) rfl (fun w hR h0 => c1 _ _ _ h0) ?_; rintro _ _ ⟨rfl,fp',rfl⟩; refine ⟨.v _,rfl,?_⟩) | (refine CallK_pack2 (key1 := 78) (key2 := 77) rfl rfl (fun w hR h0 => d1 _ _ _ _ _ h0) ?_; rintro _ _ ⟨rfl,fp1',fp2',rfl⟩; refine ⟨.v _,rfl,?_⟩) | (refine CallK_pack2 (key1 := 78) (key2 := 77) rfl rfl (fun w hR h0 => d2 _ _ _ _ _ h0) ?_; rintro _ _ ⟨rfl,fp1',fp2',rfl⟩; refine ⟨.v _,rfl,?_⟩) | (refine bcase_prop (fun h => ?_) (fun h => ?_) <;> try (exfalso; omega)) | (refine bcase_nprop (fun h => ?_) (fun h => ?_) <;> try (exfalso; omega)) | (refine bcase_intro (fun h => ?_) (fun h => ?_) <;> (try simp only [Bool.not_eq_true',Bool.not_eq_false',decide_eq_true_eq,decide_eq_false_iff_not,Bool.not_eq_true,Bool.not_eq_false,Decidable.not_not] at h)) | refine And.intro (by first | omega | exact rfl | assumption | exact ⟨rfl,rfl,rfl,rfl,rfl⟩ | exact ⟨rfl,rfl,rfl,rfl⟩ | exact ⟨rfl,by omega⟩ | exact oneAll_of rfl | exact ⟨rfl,oneAll_of rfl⟩ | exact Ref.refl _ | exact Thin.ref (.skip (Thin.refl _)) | exact Thin.ref (.skip (.skip (Thin.refl _))) | exact ⟨rfl,Nat.le_of_ble_eq_true rfl⟩ | ((try unfold maxLen); (try simp only [List.length_nil,List.length_cons,List.length_append]); omega) | (refine ⟨rfl,?_⟩; (try simp only [List.length_nil,List.length_cons,List.length_append]); omega)) ?_ | intro _)); (all_goals (conv => whnf))
        all_goals first | (exfalso; omega) | skip
        exact ⟨endXP (Ref.takes [78,77] rfl (Thin.refl _)) rfl⟩
      · rw [if_neg g2] at d2 ⊢
        (repeat' ((conv => whnf); first | (refine CallK_pack (key := 78) rfl (fun w hR h0 => c1 _ _ _ h0) ?_; rintro _ _ ⟨rfl,fp',rfl⟩; refine ⟨.v _,rfl,?_⟩) | (refine CallK_pack2 (key1 := 78) (key2 := 77) rfl rfl (fun w hR h0 => d1 _ _ _ _ _ h0) ?_; rintro _ _ ⟨rfl,fp1',fp2',rfl⟩; refine ⟨.v _,rfl,?_⟩) | (refine CallK_pack2 (key1 := 78) (key2 := 77) rfl rfl (fun w hR h0 => d2 _ _ _ _ _ h0) ?_; rintro _ _ ⟨rfl,fp1',fp2',rfl⟩; refine ⟨.v _,rfl,?_⟩) | (refine bcase_prop (fun h => ?_) (fun h => ?_) <;> try (exfalso; omega)) | (refine bcase_nprop (fun h => ?_) (fun h => ?_) <;> try (exfalso; omega)) | (refine bcase_intro (fun h => ?_) (fun h => ?_) <;> (try simp only [Bool.not_eq_true',Bool.not_eq_false',decide_eq_true_eq,decide_eq_false_iff_not,Bool.not_eq_true,Bool.not_eq_false,Decidable.not_not] at h)) | refine And.intro (by first | omega | exact rfl | assumption | exact ⟨rfl,rfl,rfl,rfl,rfl⟩ | exact ⟨rfl,rfl,rfl,rfl⟩ | exact ⟨rfl,by omega⟩ | exact oneAll_of rfl | exact ⟨rfl,oneAll_of rfl⟩ | exact Ref.refl _ | exact Thin.ref (.skip (Thin.refl _)) | exact Thin.ref (.skip (.skip (Thin.refl _))) | exact ⟨rfl,Nat.le_of_ble_eq_true rfl⟩ | ((try unfold maxLen); (try simp only [List.length_nil,List.length_cons,List.length_append]); omega) | (refine ⟨rfl,?_⟩; (try simp only [List.length_nil,List.length_cons,List.length_append]); omega)) ?_ | intro _)); (all_goals (conv => whnf))
        all_goals first | (exfalso; omega) | skip
        exact ⟨endXP (Ref.takes [78,77] rfl (Thin.refl _)) rfl⟩
    · rw [if_neg g1] at d1 ⊢
      have d2 := c3 0
      rw [pb 0 hpos] at d2
      unfold pR at d2
      by_cases g2 : runH T.M T.H 0 B ≤ LM
      · rw [if_pos g2] at d2 ⊢
        (repeat' ((conv => whnf); first | (refine CallK_pack (key := 78) rfl (fun w hR h0 => c1 _ _ _ h0) ?_; rintro _ _ ⟨rfl,fp',rfl⟩; refine ⟨.v _,rfl,?_⟩) | (refine CallK_pack2 (key1 := 78) (key2 := 77) rfl rfl (fun w hR h0 => d1 _ _ _ _ _ h0) ?_; rintro _ _ ⟨rfl,fp1',fp2',rfl⟩; refine ⟨.v _,rfl,?_⟩) | (refine CallK_pack2 (key1 := 78) (key2 := 77) rfl rfl (fun w hR h0 => d2 _ _ _ _ _ h0) ?_; rintro _ _ ⟨rfl,fp1',fp2',rfl⟩; refine ⟨.v _,rfl,?_⟩) | (refine bcase_prop (fun h => ?_) (fun h => ?_) <;> try (exfalso; omega)) | (refine bcase_nprop (fun h => ?_) (fun h => ?_) <;> try (exfalso; omega)) | (refine bcase_intro (fun h => ?_) (fun h => ?_) <;> (try simp only [Bool.not_eq_true',Bool.not_eq_false',decide_eq_true_eq,decide_eq_false_iff_not,Bool.not_eq_true,Bool.not_eq_false,Decidable.not_not] at h)) | refine And.intro (by first | omega | exact rfl | assumption | exact ⟨rfl,rfl,rfl,rfl,rfl⟩ | exact ⟨rfl,rfl,rfl,rfl⟩ | exact ⟨rfl,by omega⟩ | exact oneAll_of rfl | exact ⟨rfl,oneAll_of rfl⟩ | exact Ref.refl _ | exact Thin.ref (.skip (Thin.refl _)) | exact Thin.ref (.skip (.skip (Thin.refl _))) | exact ⟨rfl,Nat.le_of_ble_eq_true rfl⟩ | ((try unfold maxLen); (try simp only [List.length_nil,List.length_cons,List.length_append]); omega) | (refine ⟨rfl,?_⟩; (try simp only [List.length_nil,List.length_cons,List.length_append]); omega)) ?_ | intro _)); (all_goals (conv => whnf))
        all_goals first | (exfalso; omega) | skip
        exact ⟨endXP (Ref.takes [78,77] rfl (Thin.refl _)) rfl⟩
      · rw [if_neg g2] at d2 ⊢
        (repeat' ((conv => whnf); first | (refine CallK_pack (key := 78) rfl (fun w hR h0 => c1 _ _ _ h0) ?_; rintro _ _ ⟨rfl,fp',rfl⟩; refine ⟨.v _,rfl,?_⟩) | (refine CallK_pack2 (key1 := 78) (key2 := 77) rfl rfl (fun w hR h0 => d1 _ _ _ _ _ h0) ?_; rintro _ _ ⟨rfl,fp1',fp2',rfl⟩; refine ⟨.v _,rfl,?_⟩) | (refine CallK_pack2 (key1 := 78) (key2 := 77) rfl rfl (fun w hR h0 => d2 _ _ _ _ _ h0) ?_; rintro _ _ ⟨rfl,fp1',fp2',rfl⟩; refine ⟨.v _,rfl,?_⟩) | (refine bcase_prop (fun h => ?_) (fun h => ?_) <;> try (exfalso; omega)) | (refine bcase_nprop (fun h => ?_) (fun h => ?_) <;> try (exfalso; omega)) | (refine bcase_intro (fun h => ?_) (fun h => ?_) <;> (try simp only [Bool.not_eq_true',Bool.not_eq_false',decide_eq_true_eq,decide_eq_false_iff_not,Bool.not_eq_true,Bool.not_eq_false,Decidable.not_not] at h)) | refine And.intro (by first | omega | exact rfl | assumption | exact ⟨rfl,rfl,rfl,rfl,rfl⟩ | exact ⟨rfl,rfl,rfl,rfl⟩ | exact ⟨rfl,by omega⟩ | exact oneAll_of rfl | exact ⟨rfl,oneAll_of rfl⟩ | exact Ref.refl _ | exact Thin.ref (.skip (Thin.refl _)) | exact Thin.ref (.skip (.skip (Thin.refl _))) | exact ⟨rfl,Nat.le_of_ble_eq_true rfl⟩ | ((try unfold maxLen); (try simp only [List.length_nil,List.length_cons,List.length_append]); omega) | (refine ⟨rfl,?_⟩; (try simp only [List.length_nil,List.length_cons,List.length_append]); omega)) ?_ | intro _)); (all_goals (conv => whnf))
        all_goals first | (exfalso; omega) | skip
        exact ⟨endXP (Ref.takes [78,77] rfl (Thin.refl _)) rfl⟩
  · rw [if_pos rfl]
    rw [hB] at c1
    have d1 := c3 q
    rw [pb q hq] at d1
    unfold chV
    unfold pR at d1
    by_cases g1 : runH T.M T.H q B ≤ LM
    · rw [if_pos g1] at d1 ⊢
      have d2 := c2 (runE T.M q B)
      rw [pa _ (e2 q hq)] at d2
      unfold pR at d2
      generalize runE T.M q B = Q at *
      by_cases g2 : runH T.M T.H Q A ≤ LM
      · rw [if_pos g2] at d2 ⊢
        (repeat' ((conv => whnf); first | (refine CallK_pack (key := 78) rfl (fun w hR h0 => c1 _ _ _ h0) ?_; rintro _ _ ⟨rfl,fp',rfl⟩; refine ⟨.v _,rfl,?_⟩) | (refine CallK_pack2 (key1 := 78) (key2 := 77) rfl rfl (fun w hR h0 => d1 _ _ _ _ _ h0) ?_; rintro _ _ ⟨rfl,fp1',fp2',rfl⟩; refine ⟨.v _,rfl,?_⟩) | (refine CallK_pack2 (key1 := 78) (key2 := 77) rfl rfl (fun w hR h0 => d2 _ _ _ _ _ h0) ?_; rintro _ _ ⟨rfl,fp1',fp2',rfl⟩; refine ⟨.v _,rfl,?_⟩) | (refine bcase_prop (fun h => ?_) (fun h => ?_) <;> try (exfalso; omega)) | (refine bcase_nprop (fun h => ?_) (fun h => ?_) <;> try (exfalso; omega)) | (refine bcase_intro (fun h => ?_) (fun h => ?_) <;> (try simp only [Bool.not_eq_true',Bool.not_eq_false',decide_eq_true_eq,decide_eq_false_iff_not,Bool.not_eq_true,Bool.not_eq_false,Decidable.not_not] at h)) | refine And.intro (by first | omega | exact rfl | assumption | exact ⟨rfl,rfl,rfl,rfl,rfl⟩ | exact ⟨rfl,rfl,rfl,rfl⟩ | exact ⟨rfl,by omega⟩ | exact oneAll_of rfl | exact ⟨rfl,oneAll_of rfl⟩ | exact Ref.refl _ | exact Thin.ref (.skip (Thin.refl _)) | exact Thin.ref (.skip (.skip (Thin.refl _))) | exact ⟨rfl,Nat.le_of_ble_eq_true rfl⟩ | ((try unfold maxLen); (try simp only [List.length_nil,List.length_cons,List.length_append]); omega) | (refine ⟨rfl,?_⟩; (try simp only [List.length_nil,List.length_cons,List.length_append]); omega)) ?_ | intro _)); (all_goals (conv => whnf))
        all_goals first | (exfalso; omega) | skip
        exact ⟨endXP (Ref.takes [78,77] rfl (Thin.refl _)) rfl⟩
      · rw [if_neg g2] at d2 ⊢
        (repeat' ((conv => whnf); first | (refine CallK_pack (key := 78) rfl (fun w hR h0 => c1 _ _ _ h0) ?_; rintro _ _ ⟨rfl,fp',rfl⟩; refine ⟨.v _,rfl,?_⟩) | (refine CallK_pack2 (key1 := 78) (key2 := 77) rfl rfl (fun w hR h0 => d1 _ _ _ _ _ h0) ?_; rintro _ _ ⟨rfl,fp1',fp2',rfl⟩; refine ⟨.v _,rfl,?_⟩) | (refine CallK_pack2 (key1 := 78) (key2 := 77) rfl rfl (fun w hR h0 => d2 _ _ _ _ _ h0) ?_; rintro _ _ ⟨rfl,fp1',fp2',rfl⟩; refine ⟨.v _,rfl,?_⟩) | (refine bcase_prop (fun h => ?_) (fun h => ?_) <;> try (exfalso; omega)) | (refine bcase_nprop (fun h => ?_) (fun h => ?_) <;> try (exfalso; omega)) | (refine bcase_intro (fun h => ?_) (fun h => ?_) <;> (try simp only [Bool.not_eq_true',Bool.not_eq_false',decide_eq_true_eq,decide_eq_false_iff_not,Bool.not_eq_true,Bool.not_eq_false,Decidable.not_not] at h)) | refine And.intro (by first | omega | exact rfl | assumption | exact ⟨rfl,rfl,rfl,rfl,rfl⟩ | exact ⟨rfl,rfl,rfl,rfl⟩ | exact ⟨rfl,by omega⟩ | exact oneAll_of rfl | exact ⟨rfl,oneAll_of rfl⟩ | exact Ref.refl _ | exact Thin.ref (.skip (Thin.refl _)) | exact Thin.ref (.skip (.skip (Thin.refl _))) | exact ⟨rfl,Nat.le_of_ble_eq_true rfl⟩ | ((try unfold maxLen); (try simp only [List.length_nil,List.length_cons,List.length_append]); omega) | (refine ⟨rfl,?_⟩; (try simp only [List.length_nil,List.length_cons,List.length_append]); omega)) ?_ | intro _)); (all_goals (conv => whnf))
        all_goals first | (exfalso; omega) | skip
        exact ⟨endXP (Ref.takes [78,77] rfl (Thin.refl _)) rfl⟩
    · rw [if_neg g1] at d1 ⊢
      have d2 := c2 0
      rw [pa 0 hpos] at d2
      unfold pR at d2
      by_cases g2 : runH T.M T.H 0 A ≤ LM
      · rw [if_pos g2] at d2 ⊢
        (repeat' ((conv => whnf); first | (refine CallK_pack (key := 78) rfl (fun w hR h0 => c1 _ _ _ h0) ?_; rintro _ _ ⟨rfl,fp',rfl⟩; refine ⟨.v _,rfl,?_⟩) | (refine CallK_pack2 (key1 := 78) (key2 := 77) rfl rfl (fun w hR h0 => d1 _ _ _ _ _ h0) ?_; rintro _ _ ⟨rfl,fp1',fp2',rfl⟩; refine ⟨.v _,rfl,?_⟩) | (refine CallK_pack2 (key1 := 78) (key2 := 77) rfl rfl (fun w hR h0 => d2 _ _ _ _ _ h0) ?_; rintro _ _ ⟨rfl,fp1',fp2',rfl⟩; refine ⟨.v _,rfl,?_⟩) | (refine bcase_prop (fun h => ?_) (fun h => ?_) <;> try (exfalso; omega)) | (refine bcase_nprop (fun h => ?_) (fun h => ?_) <;> try (exfalso; omega)) | (refine bcase_intro (fun h => ?_) (fun h => ?_) <;> (try simp only [Bool.not_eq_true',Bool.not_eq_false',decide_eq_true_eq,decide_eq_false_iff_not,Bool.not_eq_true,Bool.not_eq_false,Decidable.not_not] at h)) | refine And.intro (by first | omega | exact rfl | assumption | exact ⟨rfl,rfl,rfl,rfl,rfl⟩ | exact ⟨rfl,rfl,rfl,rfl⟩ | exact ⟨rfl,by omega⟩ | exact oneAll_of rfl | exact ⟨rfl,oneAll_of rfl⟩ | exact Ref.refl _ | exact Thin.ref (.skip (Thin.refl _)) | exact Thin.ref (.skip (.skip (Thin.refl _))) | exact ⟨rfl,Nat.le_of_ble_eq_true rfl⟩ | ((try unfold maxLen); (try simp only [List.length_nil,List.length_cons,List.length_append]); omega) | (refine ⟨rfl,?_⟩; (try simp only [List.length_nil,List.length_cons,List.length_append]); omega)) ?_ | intro _)); (all_goals (conv => whnf))
        all_goals first | (exfalso; omega) | skip
        exact ⟨endXP (Ref.takes [78,77] rfl (Thin.refl _)) rfl⟩
      · rw [if_neg g2] at d2 ⊢
        (repeat' ((conv => whnf); first | (refine CallK_pack (key := 78) rfl (fun w hR h0 => c1 _ _ _ h0) ?_; rintro _ _ ⟨rfl,fp',rfl⟩; refine ⟨.v _,rfl,?_⟩) | (refine CallK_pack2 (key1 := 78) (key2 := 77) rfl rfl (fun w hR h0 => d1 _ _ _ _ _ h0) ?_; rintro _ _ ⟨rfl,fp1',fp2',rfl⟩; refine ⟨.v _,rfl,?_⟩) | (refine CallK_pack2 (key1 := 78) (key2 := 77) rfl rfl (fun w hR h0 => d2 _ _ _ _ _ h0) ?_; rintro _ _ ⟨rfl,fp1',fp2',rfl⟩; refine ⟨.v _,rfl,?_⟩) | (refine bcase_prop (fun h => ?_) (fun h => ?_) <;> try (exfalso; omega)) | (refine bcase_nprop (fun h => ?_) (fun h => ?_) <;> try (exfalso; omega)) | (refine bcase_intro (fun h => ?_) (fun h => ?_) <;> (try simp only [Bool.not_eq_true',Bool.not_eq_false',decide_eq_true_eq,decide_eq_false_iff_not,Bool.not_eq_true,Bool.not_eq_false,Decidable.not_not] at h)) | refine And.intro (by first | omega | exact rfl | assumption | exact ⟨rfl,rfl,rfl,rfl,rfl⟩ | exact ⟨rfl,rfl,rfl,rfl⟩ | exact ⟨rfl,by omega⟩ | exact oneAll_of rfl | exact ⟨rfl,oneAll_of rfl⟩ | exact Ref.refl _ | exact Thin.ref (.skip (Thin.refl _)) | exact Thin.ref (.skip (.skip (Thin.refl _))) | exact ⟨rfl,Nat.le_of_ble_eq_true rfl⟩ | ((try unfold maxLen); (try simp only [List.length_nil,List.length_cons,List.length_append]); omega) | (refine ⟨rfl,?_⟩; (try simp only [List.length_nil,List.length_cons,List.length_append]); omega)) ?_ | intro _)); (all_goals (conv => whnf))
        all_goals first | (exfalso; omega) | skip
        exact ⟨endXP (Ref.takes [78,77] rfl (Thin.refl _)) rfl⟩
def umd (x : Int) (L : Nat) : Nat := (x % 18446744073709551616 % (L : Int)).toNat
theorem umd_lt (x : Int) {L : Nat} (h : 0 < L) : umd x L < L := by
  unfold umd
  have h1 := Int.emod_lt_of_pos (x % 18446744073709551616) (show (0 : Int) < (L : Int) by omega)
  omega
theorem umd_eq (x : Int) {L : Nat} (h : 0 < L) : x % 18446744073709551616 % (L : Int) = (umd x L : Nat) := by
  unfold umd
  have h0 := Int.emod_nonneg (x % 18446744073709551616) (show ((L : Int)) ≠ 0 by omega)
  omega
theorem law_TransferCuts (w : World) (x : IA) (hx : IIn w x) (g : List Rul) (hg : MIn g) (a : Option Addr) (c : Nat) (hin : In w [] a (rulsC g)) (pick from_ n cut q : Int) (hp : -9223372036854775808 ≤ pick ∧ pick ≤ 9223372036854775807) :
    Calls Try.prog fn_evergreenlaw33_TransferCuts #[x.v,.slice a g.length c,.int .i64 pick,.int .i64 from_,.int .i64 n,.int .i64 cut,.int .i64 q] w fun e w' => e = .returned (.bool true) ∧ Ext w w' := by
  refine pure_call [.v x.v,.v (.slice a g.length c),.v (.int .i64 pick),.v (.int .i64 from_),.v (.int .i64 n),.v (.int .i64 cut),.v (.int .i64 q)] w ok_evergreenlaw33_TransferCuts (by simp) ?_
  have c0 := calls_awake33
  by_cases hl : g.length ≤ 30
  case neg =>
    obtain ⟨m,H,ha,hc,back⟩ := x
    dsimp only [IA.v,IA.cells]
    (repeat' ((conv => whnf); first | (first | refine CallK_pure (.v _) (fun w hR => c0 w) ?_ | refine QCall_pure (.v _) (fun w hR => c0 w) ?_) | (refine bcase_prop (fun h => ?_) (fun h => ?_) <;> try (exfalso; omega)) | (refine bcase_nprop (fun h => ?_) (fun h => ?_) <;> try (exfalso; omega)) | (refine bcase_intro (fun h => ?_) (fun h => ?_) <;> (try simp only [Bool.not_eq_true',Bool.not_eq_false',decide_eq_true_eq,decide_eq_false_iff_not,Bool.not_eq_true,Bool.not_eq_false,Decidable.not_not] at h)) | refine And.intro (by first | omega | exact rfl | assumption | exact ⟨rfl,rfl,rfl,rfl,rfl⟩ | exact ⟨rfl,rfl,rfl,rfl⟩ | exact ⟨rfl,by omega⟩ | exact oneAll_of rfl | exact ⟨rfl,oneAll_of rfl⟩ | exact Ref.refl _ | exact Thin.ref (.skip (Thin.refl _)) | exact Thin.ref (.skip (.skip (Thin.refl _))) | exact ⟨rfl,Nat.le_of_ble_eq_true rfl⟩ | ((try unfold maxLen); (try simp only [List.length_nil,List.length_cons,List.length_append]); omega) | (refine ⟨rfl,?_⟩; (try simp only [List.length_nil,List.length_cons,List.length_append]); omega)) ?_ | intro _)); (all_goals (conv => whnf))
    all_goals first | (exfalso; omega) | exact ⟨rfl⟩
  by_cases hs : Sml x
  case neg =>
    have c1 := fun w' h => calls_small (w := w') x h false ⟨fun h => Bool.noConfusion h,fun h => absurd h hs⟩
    obtain ⟨m,H,ha,hc,back⟩ := x
    dsimp only [IA.v,IA.cells] at *
    (repeat' ((conv => whnf); first | (first | refine CallK_pure (.v _) (fun w hR => c0 w) ?_ | refine QCall_pure (.v _) (fun w hR => c0 w) ?_) | (refine CallK_pure (.v _) (fun w' hR => c1 w' (hx.cast hR)) ?_) | (refine QCall_pure (.v _) (fun w' hR => c1 w' (hx.cast hR)) ?_) | (refine bcase_prop (fun h => ?_) (fun h => ?_) <;> try (exfalso; omega)) | (refine bcase_nprop (fun h => ?_) (fun h => ?_) <;> try (exfalso; omega)) | (refine bcase_intro (fun h => ?_) (fun h => ?_) <;> (try simp only [Bool.not_eq_true',Bool.not_eq_false',decide_eq_true_eq,decide_eq_false_iff_not,Bool.not_eq_true,Bool.not_eq_false,Decidable.not_not] at h)) | refine And.intro (by first | omega | exact rfl | assumption | exact ⟨rfl,rfl,rfl,rfl,rfl⟩ | exact ⟨rfl,rfl,rfl,rfl⟩ | exact ⟨rfl,by omega⟩ | exact oneAll_of rfl | exact ⟨rfl,oneAll_of rfl⟩ | exact Ref.refl _ | exact Thin.ref (.skip (Thin.refl _)) | exact Thin.ref (.skip (.skip (Thin.refl _))) | exact ⟨rfl,Nat.le_of_ble_eq_true rfl⟩ | ((try unfold maxLen); (try simp only [List.length_nil,List.length_cons,List.length_append]); omega) | (refine ⟨rfl,?_⟩; (try simp only [List.length_nil,List.length_cons,List.length_append]); omega)) ?_ | intro _)); (all_goals (conv => whnf))
    all_goals first | (exfalso; omega) | exact ⟨rfl⟩
  have c1 := fun w' h => calls_small (w := w') x h true ⟨fun _ => hs,fun _ => rfl⟩
  have c2 := fun w' h1 h2 => calls_begun33 x hs (allD (gS g)) g hg (by omega) pick hp a c w' h1 h2
  have hw := gS_wf hg (by omega)
  have hk := gId_known hg (by omega) pick
  have hE := gE_len hg (by omega)
  have hT := hs.ok (allD (gS g))
  have hpos := hT.m.pos
  have h40 := hs.1
  have hNl : x.m.m.nx.length = x.m.nr.length := List.length_map ..
  unfold beg33Q at c2
  generalize gId g pick = id at *
  have hlen := hw.le hk.2
  have hLM : LM = 1152921504606846976 := rfl
  have hlt : (tm (gS g).E id).len = (tm (gS g).E id).txt.length := rfl
  have cL := fun a1 c1 a2 c2 w h => calls_Length (a1 := a1) (c1 := c1) (a2 := a2) (c2 := c2) (gE g) (by omega) hk.1 hk.2 w h
  obtain ⟨L,hL⟩ : ∃ L,(tm (gS g).E id).len = L := ⟨_,rfl⟩
  have hL2 : (tm (gE g) id).len = L := hL
  obtain ⟨i,hi⟩ : ∃ i,umd from_ (L + 1) = i := ⟨_,rfl⟩
  have i1 := umd_lt from_ (L := L + 1) (by omega)
  have i2 := umd_eq from_ (L := L + 1) (by omega)
  obtain ⟨k,hk2⟩ : ∃ k,umd n (L - i + 1) = k := ⟨_,rfl⟩
  have k1 := umd_lt n (L := L - i + 1) (by omega)
  have k2 := umd_eq n (L := L - i + 1) (by omega)
  obtain ⟨j,hj⟩ : ∃ j,umd cut (k + 1) = j := ⟨_,rfl⟩
  have j1 := umd_lt cut (L := k + 1) (by omega)
  have j2 := umd_eq cut (L := k + 1) (by omega)
  obtain ⟨s,hs2⟩ : ∃ s,umd q x.m.nr.length = s := ⟨_,rfl⟩
  have s1 := umd_lt q (L := x.m.nr.length) (by dsimp only at hpos; omega)
  have s2 := umd_eq q (L := x.m.nr.length) (by dsimp only at hpos; omega)
  rw [hi] at i1 i2
  rw [hk2] at k1 k2
  rw [hj] at j1 j2
  rw [hs2] at s1 s2
  have sN : s < x.m.m.nx.length := by omega
  have d1 := fun bt b => calls_TPart bt b _ hT (gS g) hw (allD_clo hw) id i k s allD_known
  have d2 := fun bt b => calls_chain bt b _ hT (gS g) hw (allD_clo hw) id hk allD_known i j (i + j) (k - j) s (by omega) (by omega) sN
  have d3 := fun bt b => calls_TEnd bt b _ hT (gS g) hw (allD_clo hw) id s allD_known
  have d4 := fun bt b => calls_THits bt b _ hT (gS g) hw (allD_clo hw) id s allD_known
  have d5 := fun bt b => calls_TPart bt b _ hT (gS g) hw (allD_clo hw) id (0 : Nat) L s allD_known
  have r1 : from_ % 18446744073709551616 % (((L : Int) + 1) % 18446744073709551616) = (i : Int) := by
    rw [show ((L : Int) + 1) % 18446744073709551616 = ((L + 1 : Nat) : Int) by omega]; exact i2
  have r2 : n % 18446744073709551616 % (((L : Int) - (i : Int) + 1) % 18446744073709551616) = (k : Int) := by
    rw [show ((L : Int) - (i : Int) + 1) % 18446744073709551616 = ((L - i + 1 : Nat) : Int) by omega]; exact k2
  have r3 : cut % 18446744073709551616 % (((k : Int) + 1) % 18446744073709551616) = (j : Int) := by
    rw [show ((k : Int) + 1) % 18446744073709551616 = ((k + 1 : Nat) : Int) by omega]; exact j2
  have r4 : q % 18446744073709551616 % ((x.m.nr.length : Int) % 18446744073709551616) = (s : Int) := by
    rw [show (x.m.nr.length : Int) % 18446744073709551616 = (x.m.nr.length : Int) by omega]; exact s2
  clear i2 k2 j2 s2
  have z1 : ((i + j : Nat) : Int) = (i : Int) + (j : Int) := by omega
  have z2 : ((k - j : Nat) : Int) = (k : Int) - (j : Int) := by omega
  rw [prtV_ok hk (by omega) sN] at d1
  rw [prtV_ok hk (by omega) sN] at d5
  obtain ⟨A,B,hAB,hch⟩ : ∃ A B,ori x.back (sub (tm (gS g).E id).txt i k) = A ++ B ∧ ((if x.back = true then chV ⟨x.m.m,x.H,x.back,allD (gS g)⟩ s (ori x.back (sub (tm (gS g).E id).txt (i + j) (k - j))) (ori x.back (sub (tm (gS g).E id).txt i j)) else chV ⟨x.m.m,x.H,x.back,allD (gS g)⟩ s (ori x.back (sub (tm (gS g).E id).txt i j)) (ori x.back (sub (tm (gS g).E id).txt (i + j) (k - j)))) = chV ⟨x.m.m,x.H,x.back,allD (gS g)⟩ s A B) := by
    have e : sub (tm (gS g).E id).txt i k = sub (tm (gS g).E id).txt i j ++ sub (tm (gS g).E id).txt (i + j) (k - j) := cut_two _ _ _ _ (by omega)
    have e2 := ori_append x.back (sub (tm (gS g).E id).txt i j) (sub (tm (gS g).E id).txt (i + j) (k - j))
    rw [← e] at e2
    cases hb : x.back
    · rw [hb,if_neg (by decide)] at e2
      exact ⟨_,_,e2,if_neg (by decide)⟩
    · rw [hb,if_pos rfl] at e2
      exact ⟨_,_,e2,if_pos rfl⟩
  dsimp only at d1 d2 d5 hch
  rw [hch] at d2
  rw [hAB] at d1
  have e3 : endV ⟨x.m.m,x.H,x.back,allD (gS g)⟩ (gS g) id s = .tuple #[.int .i64 (runE x.m.m s (ori x.back (tm (gS g).E id).txt)),.nilIface] := by
    unfold endV
    rw [if_pos ⟨hk,by omega,by show (s : Int) < x.m.m.nx.length; omega⟩,Int.toNat_natCast]
  have e4 : hitV ⟨x.m.m,x.H,x.back,allD (gS g)⟩ (gS g) id s = if runH x.m.m x.H s (ori x.back (tm (gS g).E id).txt) ≤ LM then .tuple #[.int .i64 (runH x.m.m x.H s (ori x.back (tm (gS g).E id).txt)),.nilIface] else .tuple #[.int .i64 0,errV 2] := by
    unfold hitV
    rw [if_pos ⟨hk,by omega,by show (s : Int) < x.m.m.nx.length; omega⟩,Int.toNat_natCast]
  have e5 : sub (tm (gS g).E id).txt 0 L = (tm (gS g).E id).txt := by
    unfold sub
    rw [List.drop_zero,List.take_of_length_le (by omega)]
  simp only [e3] at d3
  simp only [e4] at d4
  rw [e5] at d5
  unfold pR at d1 d5
  unfold chV at d2
  dsimp only at d1 d2 d5
  rw [runH_append,runE_append] at d1
  generalize runH x.m.m x.H s (ori x.back (tm (gS g).E id).txt) = hW at *
  generalize runE x.m.m s (ori x.back (tm (gS g).E id).txt) = eW at *
  generalize runH x.m.m x.H (runE x.m.m s A) B = h2 at *
  generalize runE x.m.m (runE x.m.m s A) B = e2 at *
  generalize runH x.m.m x.H s A = h1 at *
  generalize runH x.m.m x.H 0 B = h3 at *
  generalize runE x.m.m 0 B = e9 at *
  simp only [z1,z2] at d2
  simp only [show ((0 : Nat) : Int) = 0 from rfl] at d5
  have hxi := hx
  have c7 := calls_Is 2 2 (by decide)
  have c8 := calls_Is0 2 (by decide)
  clear hAB hch e3 e4 e5 hs hT hpos
  obtain ⟨m,H,ha,hc,back⟩ := x
  dsimp only [IA.v,IA.cells] at *
  by_cases q1 : h1 ≤ LM
  case neg =>
    rw [if_neg (by omega)] at d1
    rw [if_neg q1] at d2
    by_cases q3 : h3 ≤ LM
    · rw [if_pos q3] at d2
      (repeat' ((conv => whnf); first | rw [hL2] | rw [r1] | rw [r2] | rw [r3] | rw [r4] | (first | refine CallK_pure (.v _) (fun w hR => c0 w) ?_ | refine QCall_pure (.v _) (fun w hR => c0 w) ?_) | (first | refine CallK_pure (.v _) (fun w hR => c7 w) ?_ | refine QCall_pure (.v _) (fun w hR => c7 w) ?_) | (first | refine CallK_pure (.v _) (fun w hR => c8 w) ?_ | refine QCall_pure (.v _) (fun w hR => c8 w) ?_) | (refine CallK_pure (.v _) (fun w' hR => c1 w' (hxi.cast hR)) ?_) | (refine QCall_pure (.v _) (fun w' hR => c1 w' (hxi.cast hR)) ?_) | ((refine CallK_new (fun w' hR => c2 w' (hxi.cast hR) (hin.cast hR (by simp))) ?_); rintro _ _ ⟨bt,b,a1,k1,a2,k2,f1,f2,rfl,rfl⟩; refine ⟨.v _,rfl,?_⟩) | (refine CallK_pure (.v _) (fun w hR => cL _ _ _ _ w (In.ownR (key := 802) hR rfl)) ?_) | (refine CallK_pack2 (key1 := 78) (key2 := 77) rfl rfl (fun w hR h0 => d1 _ _ _ _ _ _ _ h0) ?_; rintro _ _ ⟨rfl,fp1',fp2',rfl⟩; refine ⟨.v _,rfl,?_⟩) | (refine CallK_pack2 (key1 := 78) (key2 := 77) rfl rfl (fun w hR h0 => d2 _ _ _ _ _ _ _ h0) ?_; rintro _ _ ⟨rfl,fp1',fp2',rfl⟩; refine ⟨.v _,rfl,?_⟩) | (refine CallK_pack2 (key1 := 78) (key2 := 77) rfl rfl (fun w hR h0 => d3 _ _ _ _ _ _ _ h0) ?_; rintro _ _ ⟨rfl,fp1',fp2',rfl⟩; refine ⟨.v _,rfl,?_⟩) | (refine CallK_pack2 (key1 := 78) (key2 := 77) rfl rfl (fun w hR h0 => d4 _ _ _ _ _ _ _ h0) ?_; rintro _ _ ⟨rfl,fp1',fp2',rfl⟩; refine ⟨.v _,rfl,?_⟩) | (refine CallK_pack2 (key1 := 78) (key2 := 77) rfl rfl (fun w hR h0 => d5 _ _ _ _ _ _ _ h0) ?_; rintro _ _ ⟨rfl,fp1',fp2',rfl⟩; refine ⟨.v _,rfl,?_⟩) | refine ⟨_,⟨rfl,trivial⟩,?_⟩ | (refine bcase_prop (fun h => ?_) (fun h => ?_) <;> try (exfalso; omega)) | (refine bcase_nprop (fun h => ?_) (fun h => ?_) <;> try (exfalso; omega)) | (refine bcase_intro (fun h => ?_) (fun h => ?_) <;> (try simp only [Bool.not_eq_true',Bool.not_eq_false',decide_eq_true_eq,decide_eq_false_iff_not,Bool.not_eq_true,Bool.not_eq_false,Decidable.not_not] at h)) | refine And.intro (by first | omega | exact rfl | assumption | exact ⟨rfl,rfl,rfl,rfl,rfl⟩ | exact ⟨rfl,rfl,rfl,rfl⟩ | exact ⟨rfl,by omega⟩ | exact oneAll_of rfl | exact ⟨rfl,oneAll_of rfl⟩ | exact Ref.refl _ | exact Thin.ref (.skip (Thin.refl _)) | exact Thin.ref (.skip (.skip (Thin.refl _))) | exact ⟨rfl,Nat.le_of_ble_eq_true rfl⟩ | ((try unfold maxLen); (try simp only [List.length_nil,List.length_cons,List.length_append]); omega) | (refine ⟨rfl,?_⟩; (try simp only [List.length_nil,List.length_cons,List.length_append]); omega)) ?_ | intro _)); (all_goals (conv => whnf))
      all_goals first | (exfalso; omega) | exact ⟨rfl⟩ | (refine ⟨?_⟩; show Value.bool (decide _) = _; rw [decide_eq_true (by omega)]) | skip
    · rw [if_neg q3] at d2
      (repeat' ((conv => whnf); first | rw [hL2] | rw [r1] | rw [r2] | rw [r3] | rw [r4] | (first | refine CallK_pure (.v _) (fun w hR => c0 w) ?_ | refine QCall_pure (.v _) (fun w hR => c0 w) ?_) | (first | refine CallK_pure (.v _) (fun w hR => c7 w) ?_ | refine QCall_pure (.v _) (fun w hR => c7 w) ?_) | (first | refine CallK_pure (.v _) (fun w hR => c8 w) ?_ | refine QCall_pure (.v _) (fun w hR => c8 w) ?_) | (refine CallK_pure (.v _) (fun w' hR => c1 w' (hxi.cast hR)) ?_) | (refine QCall_pure (.v _) (fun w' hR => c1 w' (hxi.cast hR)) ?_) | ((refine CallK_new (fun w' hR => c2 w' (hxi.cast hR) (hin.cast hR (by simp))) ?_); rintro _ _ ⟨bt,b,a1,k1,a2,k2,f1,f2,rfl,rfl⟩; refine ⟨.v _,rfl,?_⟩) | (refine CallK_pure (.v _) (fun w hR => cL _ _ _ _ w (In.ownR (key := 802) hR rfl)) ?_) | (refine CallK_pack2 (key1 := 78) (key2 := 77) rfl rfl (fun w hR h0 => d1 _ _ _ _ _ _ _ h0) ?_; rintro _ _ ⟨rfl,fp1',fp2',rfl⟩; refine ⟨.v _,rfl,?_⟩) | (refine CallK_pack2 (key1 := 78) (key2 := 77) rfl rfl (fun w hR h0 => d2 _ _ _ _ _ _ _ h0) ?_; rintro _ _ ⟨rfl,fp1',fp2',rfl⟩; refine ⟨.v _,rfl,?_⟩) | (refine CallK_pack2 (key1 := 78) (key2 := 77) rfl rfl (fun w hR h0 => d3 _ _ _ _ _ _ _ h0) ?_; rintro _ _ ⟨rfl,fp1',fp2',rfl⟩; refine ⟨.v _,rfl,?_⟩) | (refine CallK_pack2 (key1 := 78) (key2 := 77) rfl rfl (fun w hR h0 => d4 _ _ _ _ _ _ _ h0) ?_; rintro _ _ ⟨rfl,fp1',fp2',rfl⟩; refine ⟨.v _,rfl,?_⟩) | (refine CallK_pack2 (key1 := 78) (key2 := 77) rfl rfl (fun w hR h0 => d5 _ _ _ _ _ _ _ h0) ?_; rintro _ _ ⟨rfl,fp1',fp2',rfl⟩; refine ⟨.v _,rfl,?_⟩) | refine ⟨_,⟨rfl,trivial⟩,?_⟩ | (refine bcase_prop (fun h => ?_) (fun h => ?_) <;> try (exfalso; omega)) | (refine bcase_nprop (fun h => ?_) (fun h => ?_) <;> try (exfalso; omega)) | (refine bcase_intro (fun h => ?_) (fun h => ?_) <;> (try simp only [Bool.not_eq_true',Bool.not_eq_false',decide_eq_true_eq,decide_eq_false_iff_not,Bool.not_eq_true,Bool.not_eq_false,Decidable.not_not] at h)) | refine And.intro (by first | omega | exact rfl | assumption | exact ⟨rfl,rfl,rfl,rfl,rfl⟩ | exact ⟨rfl,rfl,rfl,rfl⟩ | exact ⟨rfl,by omega⟩ | exact oneAll_of rfl | exact ⟨rfl,oneAll_of rfl⟩ | exact Ref.refl _ | exact Thin.ref (.skip (Thin.refl _)) | exact Thin.ref (.skip (.skip (Thin.refl _))) | exact ⟨rfl,Nat.le_of_ble_eq_true rfl⟩ | ((try unfold maxLen); (try simp only [List.length_nil,List.length_cons,List.length_append]); omega) | (refine ⟨rfl,?_⟩; (try simp only [List.length_nil,List.length_cons,List.length_append]); omega)) ?_ | intro _)); (all_goals (conv => whnf))
      all_goals first | (exfalso; omega) | exact ⟨rfl⟩ | (refine ⟨?_⟩; show Value.bool (decide _) = _; rw [decide_eq_true (by omega)]) | skip
  rw [if_pos q1] at d2
  by_cases q2 : h2 ≤ LM
  case neg =>
    rw [if_neg (by omega)] at d1
    rw [if_neg q2] at d2
    (repeat' ((conv => whnf); first | rw [hL2] | rw [r1] | rw [r2] | rw [r3] | rw [r4] | (first | refine CallK_pure (.v _) (fun w hR => c0 w) ?_ | refine QCall_pure (.v _) (fun w hR => c0 w) ?_) | (first | refine CallK_pure (.v _) (fun w hR => c7 w) ?_ | refine QCall_pure (.v _) (fun w hR => c7 w) ?_) | (first | refine CallK_pure (.v _) (fun w hR => c8 w) ?_ | refine QCall_pure (.v _) (fun w hR => c8 w) ?_) | (refine CallK_pure (.v _) (fun w' hR => c1 w' (hxi.cast hR)) ?_) | (refine QCall_pure (.v _) (fun w' hR => c1 w' (hxi.cast hR)) ?_) | ((refine CallK_new (fun w' hR => c2 w' (hxi.cast hR) (hin.cast hR (by simp))) ?_); rintro _ _ ⟨bt,b,a1,k1,a2,k2,f1,f2,rfl,rfl⟩; refine ⟨.v _,rfl,?_⟩) | (refine CallK_pure (.v _) (fun w hR => cL _ _ _ _ w (In.ownR (key := 802) hR rfl)) ?_) | (refine CallK_pack2 (key1 := 78) (key2 := 77) rfl rfl (fun w hR h0 => d1 _ _ _ _ _ _ _ h0) ?_; rintro _ _ ⟨rfl,fp1',fp2',rfl⟩; refine ⟨.v _,rfl,?_⟩) | (refine CallK_pack2 (key1 := 78) (key2 := 77) rfl rfl (fun w hR h0 => d2 _ _ _ _ _ _ _ h0) ?_; rintro _ _ ⟨rfl,fp1',fp2',rfl⟩; refine ⟨.v _,rfl,?_⟩) | (refine CallK_pack2 (key1 := 78) (key2 := 77) rfl rfl (fun w hR h0 => d3 _ _ _ _ _ _ _ h0) ?_; rintro _ _ ⟨rfl,fp1',fp2',rfl⟩; refine ⟨.v _,rfl,?_⟩) | (refine CallK_pack2 (key1 := 78) (key2 := 77) rfl rfl (fun w hR h0 => d4 _ _ _ _ _ _ _ h0) ?_; rintro _ _ ⟨rfl,fp1',fp2',rfl⟩; refine ⟨.v _,rfl,?_⟩) | (refine CallK_pack2 (key1 := 78) (key2 := 77) rfl rfl (fun w hR h0 => d5 _ _ _ _ _ _ _ h0) ?_; rintro _ _ ⟨rfl,fp1',fp2',rfl⟩; refine ⟨.v _,rfl,?_⟩) | refine ⟨_,⟨rfl,trivial⟩,?_⟩ | (refine bcase_prop (fun h => ?_) (fun h => ?_) <;> try (exfalso; omega)) | (refine bcase_nprop (fun h => ?_) (fun h => ?_) <;> try (exfalso; omega)) | (refine bcase_intro (fun h => ?_) (fun h => ?_) <;> (try simp only [Bool.not_eq_true',Bool.not_eq_false',decide_eq_true_eq,decide_eq_false_iff_not,Bool.not_eq_true,Bool.not_eq_false,Decidable.not_not] at h)) | refine And.intro (by first | omega | exact rfl | assumption | exact ⟨rfl,rfl,rfl,rfl,rfl⟩ | exact ⟨rfl,rfl,rfl,rfl⟩ | exact ⟨rfl,by omega⟩ | exact oneAll_of rfl | exact ⟨rfl,oneAll_of rfl⟩ | exact Ref.refl _ | exact Thin.ref (.skip (Thin.refl _)) | exact Thin.ref (.skip (.skip (Thin.refl _))) | exact ⟨rfl,Nat.le_of_ble_eq_true rfl⟩ | ((try unfold maxLen); (try simp only [List.length_nil,List.length_cons,List.length_append]); omega) | (refine ⟨rfl,?_⟩; (try simp only [List.length_nil,List.length_cons,List.length_append]); omega)) ?_ | intro _)); (all_goals (conv => whnf))
    all_goals first | (exfalso; omega) | exact ⟨rfl⟩ | (refine ⟨?_⟩; show Value.bool (decide _) = _; rw [decide_eq_true (by omega)]) | skip
  rw [if_pos q2] at d2
  by_cases q4 : h1 + h2 ≤ LM
  case neg =>
    rw [if_neg q4] at d1
    (repeat' ((conv => whnf); first | rw [hL2] | rw [r1] | rw [r2] | rw [r3] | rw [r4] | (first | refine CallK_pure (.v _) (fun w hR => c0 w) ?_ | refine QCall_pure (.v _) (fun w hR => c0 w) ?_) | (first | refine CallK_pure (.v _) (fun w hR => c7 w) ?_ | refine QCall_pure (.v _) (fun w hR => c7 w) ?_) | (first | refine CallK_pure (.v _) (fun w hR => c8 w) ?_ | refine QCall_pure (.v _) (fun w hR => c8 w) ?_) | (refine CallK_pure (.v _) (fun w' hR => c1 w' (hxi.cast hR)) ?_) | (refine QCall_pure (.v _) (fun w' hR => c1 w' (hxi.cast hR)) ?_) | ((refine CallK_new (fun w' hR => c2 w' (hxi.cast hR) (hin.cast hR (by simp))) ?_); rintro _ _ ⟨bt,b,a1,k1,a2,k2,f1,f2,rfl,rfl⟩; refine ⟨.v _,rfl,?_⟩) | (refine CallK_pure (.v _) (fun w hR => cL _ _ _ _ w (In.ownR (key := 802) hR rfl)) ?_) | (refine CallK_pack2 (key1 := 78) (key2 := 77) rfl rfl (fun w hR h0 => d1 _ _ _ _ _ _ _ h0) ?_; rintro _ _ ⟨rfl,fp1',fp2',rfl⟩; refine ⟨.v _,rfl,?_⟩) | (refine CallK_pack2 (key1 := 78) (key2 := 77) rfl rfl (fun w hR h0 => d2 _ _ _ _ _ _ _ h0) ?_; rintro _ _ ⟨rfl,fp1',fp2',rfl⟩; refine ⟨.v _,rfl,?_⟩) | (refine CallK_pack2 (key1 := 78) (key2 := 77) rfl rfl (fun w hR h0 => d3 _ _ _ _ _ _ _ h0) ?_; rintro _ _ ⟨rfl,fp1',fp2',rfl⟩; refine ⟨.v _,rfl,?_⟩) | (refine CallK_pack2 (key1 := 78) (key2 := 77) rfl rfl (fun w hR h0 => d4 _ _ _ _ _ _ _ h0) ?_; rintro _ _ ⟨rfl,fp1',fp2',rfl⟩; refine ⟨.v _,rfl,?_⟩) | (refine CallK_pack2 (key1 := 78) (key2 := 77) rfl rfl (fun w hR h0 => d5 _ _ _ _ _ _ _ h0) ?_; rintro _ _ ⟨rfl,fp1',fp2',rfl⟩; refine ⟨.v _,rfl,?_⟩) | refine ⟨_,⟨rfl,trivial⟩,?_⟩ | (refine bcase_prop (fun h => ?_) (fun h => ?_) <;> try (exfalso; omega)) | (refine bcase_nprop (fun h => ?_) (fun h => ?_) <;> try (exfalso; omega)) | (refine bcase_intro (fun h => ?_) (fun h => ?_) <;> (try simp only [Bool.not_eq_true',Bool.not_eq_false',decide_eq_true_eq,decide_eq_false_iff_not,Bool.not_eq_true,Bool.not_eq_false,Decidable.not_not] at h)) | refine And.intro (by first | omega | exact rfl | assumption | exact ⟨rfl,rfl,rfl,rfl,rfl⟩ | exact ⟨rfl,rfl,rfl,rfl⟩ | exact ⟨rfl,by omega⟩ | exact oneAll_of rfl | exact ⟨rfl,oneAll_of rfl⟩ | exact Ref.refl _ | exact Thin.ref (.skip (Thin.refl _)) | exact Thin.ref (.skip (.skip (Thin.refl _))) | exact ⟨rfl,Nat.le_of_ble_eq_true rfl⟩ | ((try unfold maxLen); (try simp only [List.length_nil,List.length_cons,List.length_append]); omega) | (refine ⟨rfl,?_⟩; (try simp only [List.length_nil,List.length_cons,List.length_append]); omega)) ?_ | intro _)); (all_goals (conv => whnf))
    all_goals first | (exfalso; omega) | exact ⟨rfl⟩ | (refine ⟨?_⟩; show Value.bool (decide _) = _; rw [decide_eq_true (by omega)]) | skip
  rw [if_pos q4] at d1
  by_cases q5 : hW ≤ LM
  · rw [if_pos q5] at d5
    simp only [if_pos q5] at d4
    (repeat' ((conv => whnf); first | rw [hL2] | rw [r1] | rw [r2] | rw [r3] | rw [r4] | (first | refine CallK_pure (.v _) (fun w hR => c0 w) ?_ | refine QCall_pure (.v _) (fun w hR => c0 w) ?_) | (first | refine CallK_pure (.v _) (fun w hR => c7 w) ?_ | refine QCall_pure (.v _) (fun w hR => c7 w) ?_) | (first | refine CallK_pure (.v _) (fun w hR => c8 w) ?_ | refine QCall_pure (.v _) (fun w hR => c8 w) ?_) | (refine CallK_pure (.v _) (fun w' hR => c1 w' (hxi.cast hR)) ?_) | (refine QCall_pure (.v _) (fun w' hR => c1 w' (hxi.cast hR)) ?_) | ((refine CallK_new (fun w' hR => c2 w' (hxi.cast hR) (hin.cast hR (by simp))) ?_); rintro _ _ ⟨bt,b,a1,k1,a2,k2,f1,f2,rfl,rfl⟩; refine ⟨.v _,rfl,?_⟩) | (refine CallK_pure (.v _) (fun w hR => cL _ _ _ _ w (In.ownR (key := 802) hR rfl)) ?_) | (refine CallK_pack2 (key1 := 78) (key2 := 77) rfl rfl (fun w hR h0 => d1 _ _ _ _ _ _ _ h0) ?_; rintro _ _ ⟨rfl,fp1',fp2',rfl⟩; refine ⟨.v _,rfl,?_⟩) | (refine CallK_pack2 (key1 := 78) (key2 := 77) rfl rfl (fun w hR h0 => d2 _ _ _ _ _ _ _ h0) ?_; rintro _ _ ⟨rfl,fp1',fp2',rfl⟩; refine ⟨.v _,rfl,?_⟩) | (refine CallK_pack2 (key1 := 78) (key2 := 77) rfl rfl (fun w hR h0 => d3 _ _ _ _ _ _ _ h0) ?_; rintro _ _ ⟨rfl,fp1',fp2',rfl⟩; refine ⟨.v _,rfl,?_⟩) | (refine CallK_pack2 (key1 := 78) (key2 := 77) rfl rfl (fun w hR h0 => d4 _ _ _ _ _ _ _ h0) ?_; rintro _ _ ⟨rfl,fp1',fp2',rfl⟩; refine ⟨.v _,rfl,?_⟩) | (refine CallK_pack2 (key1 := 78) (key2 := 77) rfl rfl (fun w hR h0 => d5 _ _ _ _ _ _ _ h0) ?_; rintro _ _ ⟨rfl,fp1',fp2',rfl⟩; refine ⟨.v _,rfl,?_⟩) | refine ⟨_,⟨rfl,trivial⟩,?_⟩ | (refine bcase_prop (fun h => ?_) (fun h => ?_) <;> try (exfalso; omega)) | (refine bcase_nprop (fun h => ?_) (fun h => ?_) <;> try (exfalso; omega)) | (refine bcase_intro (fun h => ?_) (fun h => ?_) <;> (try simp only [Bool.not_eq_true',Bool.not_eq_false',decide_eq_true_eq,decide_eq_false_iff_not,Bool.not_eq_true,Bool.not_eq_false,Decidable.not_not] at h)) | refine And.intro (by first | omega | exact rfl | assumption | exact ⟨rfl,rfl,rfl,rfl,rfl⟩ | exact ⟨rfl,rfl,rfl,rfl⟩ | exact ⟨rfl,by omega⟩ | exact oneAll_of rfl | exact ⟨rfl,oneAll_of rfl⟩ | exact Ref.refl _ | exact Thin.ref (.skip (Thin.refl _)) | exact Thin.ref (.skip (.skip (Thin.refl _))) | exact ⟨rfl,Nat.le_of_ble_eq_true rfl⟩ | ((try unfold maxLen); (try simp only [List.length_nil,List.length_cons,List.length_append]); omega) | (refine ⟨rfl,?_⟩; (try simp only [List.length_nil,List.length_cons,List.length_append]); omega)) ?_ | intro _)); (all_goals (conv => whnf))
    all_goals first | (exfalso; omega) | exact ⟨rfl⟩ | (refine ⟨?_⟩; show Value.bool (decide _) = _; rw [decide_eq_true (by omega)]) | skip
  · rw [if_neg q5] at d5
    simp only [if_neg q5] at d4
    (repeat' ((conv => whnf); first | rw [hL2] | rw [r1] | rw [r2] | rw [r3] | rw [r4] | (first | refine CallK_pure (.v _) (fun w hR => c0 w) ?_ | refine QCall_pure (.v _) (fun w hR => c0 w) ?_) | (first | refine CallK_pure (.v _) (fun w hR => c7 w) ?_ | refine QCall_pure (.v _) (fun w hR => c7 w) ?_) | (first | refine CallK_pure (.v _) (fun w hR => c8 w) ?_ | refine QCall_pure (.v _) (fun w hR => c8 w) ?_) | (refine CallK_pure (.v _) (fun w' hR => c1 w' (hxi.cast hR)) ?_) | (refine QCall_pure (.v _) (fun w' hR => c1 w' (hxi.cast hR)) ?_) | ((refine CallK_new (fun w' hR => c2 w' (hxi.cast hR) (hin.cast hR (by simp))) ?_); rintro _ _ ⟨bt,b,a1,k1,a2,k2,f1,f2,rfl,rfl⟩; refine ⟨.v _,rfl,?_⟩) | (refine CallK_pure (.v _) (fun w hR => cL _ _ _ _ w (In.ownR (key := 802) hR rfl)) ?_) | (refine CallK_pack2 (key1 := 78) (key2 := 77) rfl rfl (fun w hR h0 => d1 _ _ _ _ _ _ _ h0) ?_; rintro _ _ ⟨rfl,fp1',fp2',rfl⟩; refine ⟨.v _,rfl,?_⟩) | (refine CallK_pack2 (key1 := 78) (key2 := 77) rfl rfl (fun w hR h0 => d2 _ _ _ _ _ _ _ h0) ?_; rintro _ _ ⟨rfl,fp1',fp2',rfl⟩; refine ⟨.v _,rfl,?_⟩) | (refine CallK_pack2 (key1 := 78) (key2 := 77) rfl rfl (fun w hR h0 => d3 _ _ _ _ _ _ _ h0) ?_; rintro _ _ ⟨rfl,fp1',fp2',rfl⟩; refine ⟨.v _,rfl,?_⟩) | (refine CallK_pack2 (key1 := 78) (key2 := 77) rfl rfl (fun w hR h0 => d4 _ _ _ _ _ _ _ h0) ?_; rintro _ _ ⟨rfl,fp1',fp2',rfl⟩; refine ⟨.v _,rfl,?_⟩) | (refine CallK_pack2 (key1 := 78) (key2 := 77) rfl rfl (fun w hR h0 => d5 _ _ _ _ _ _ _ h0) ?_; rintro _ _ ⟨rfl,fp1',fp2',rfl⟩; refine ⟨.v _,rfl,?_⟩) | refine ⟨_,⟨rfl,trivial⟩,?_⟩ | (refine bcase_prop (fun h => ?_) (fun h => ?_) <;> try (exfalso; omega)) | (refine bcase_nprop (fun h => ?_) (fun h => ?_) <;> try (exfalso; omega)) | (refine bcase_intro (fun h => ?_) (fun h => ?_) <;> (try simp only [Bool.not_eq_true',Bool.not_eq_false',decide_eq_true_eq,decide_eq_false_iff_not,Bool.not_eq_true,Bool.not_eq_false,Decidable.not_not] at h)) | refine And.intro (by first | omega | exact rfl | assumption | exact ⟨rfl,rfl,rfl,rfl,rfl⟩ | exact ⟨rfl,rfl,rfl,rfl⟩ | exact ⟨rfl,by omega⟩ | exact oneAll_of rfl | exact ⟨rfl,oneAll_of rfl⟩ | exact Ref.refl _ | exact Thin.ref (.skip (Thin.refl _)) | exact Thin.ref (.skip (.skip (Thin.refl _))) | exact ⟨rfl,Nat.le_of_ble_eq_true rfl⟩ | ((try unfold maxLen); (try simp only [List.length_nil,List.length_cons,List.length_append]); omega) | (refine ⟨rfl,?_⟩; (try simp only [List.length_nil,List.length_cons,List.length_append]); omega)) ?_ | intro _)); (all_goals (conv => whnf))
    all_goals first | (exfalso; omega) | exact ⟨rfl⟩ | (refine ⟨?_⟩; show Value.bool (decide _) = _; rw [decide_eq_true (by omega)]) | skip
end Go.Proofs.Ytoocnmfodhnpbaa
