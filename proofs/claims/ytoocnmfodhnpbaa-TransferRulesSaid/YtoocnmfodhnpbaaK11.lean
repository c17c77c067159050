/- Machines that came in, small ones; a table of a store of results: the program. -/
import Derived.Test.YtoocnmfodhnpbaaK9
import Derived.Test.YtoocnmfodhnpbaaK8
import Derived.Test.YtoocnmfodhnpbaaK10
import Derived.Test.YtoocnmfodhnpbaaK5
import Derived.Test.YtoocnmfodhnpbaaK2
import Derived.Test.YtoocnmfodhnpbaaRows
import Derived.Test.YtoocnmfodhnpbaaK4
namespace Go.Proofs.Ytoocnmfodhnpbaa
open Go.EG
attribute [local irreducible] CallK QCall Go.Calls
set_option linter.unusedSimpArgs false
set_option linter.unusedVariables false
set_option maxRecDepth 20000
set_option maxHeartbeats 4000000
structure IA where
  m : MA
  H : List Int
  ha : Option Addr
  hc : Nat
  back : Bool
abbrev IA.cells (x : IA) : List Value := [.int .i64 x.m.start,.slice x.m.ca x.m.cls.length x.m.cc,.slice x.m.na x.m.nr.length x.m.nc,.slice x.m.aa x.m.acc.length x.m.ac,.slice x.ha x.H.length x.hc,.bool x.back]
abbrev IA.v (x : IA) : Value := .agg x.cells.toArray
structure IIn (w : World) (x : IA) : Prop where
  m : McI w [] x.m
  h : In w [] x.ha (ints .i64 x.H)
  ln : x.m.nr.length ≤ 9223372036854775807
  lr : ∀ r ∈ x.m.nr,r.xs.length ≤ 9223372036854775807
  lh : x.H.length ≤ 9223372036854775807
theorem IIn.cast {w w' : World} {L : List Ent} {x : IA} (h : IIn w x) (hR : R w [] L w') : IIn w' x :=
  ⟨h.m.cast hR,h.h.cast hR (fun _ h => by cases h),h.ln,h.lr,h.lh⟩
def Sml (x : IA) : Prop := x.m.nr.length ≤ 40 ∧ tabE x.m x.H = 0
theorem calls_small {w : World} (x : IA) (hx : IIn w x) (b : Bool) (hb : (b = true) ↔ Sml x) :
    Calls Try.prog fn_evergreenlaw33_small #[x.v] w fun e w' => e = .returned (.bool b) ∧ Ext w w' := by
  refine pure_call [.v x.v] w ok_evergreenlaw33_small (by simp) ?_
  have c1 := fun w' h => calls_Check (w := w') x.m h ⟨hx.ln,hx.lr⟩
  have t0 := fun h => tabE_zero (x := x.m) (H := x.H) h
  have t1 := fun h1 h2 => tabE_ok (x := x.m) (H := x.H) h1 h2
  have hxh := hx.lh
  have hxm := hx.m
  have hxi := hx.h
  obtain ⟨m,H,ha,hc,back⟩ := x
  unfold Sml at hb
  dsimp only [IA.v,IA.cells] at *
  generalize hE : tabE m H = E at *
  by_cases h40 : m.nr.length ≤ 40
  case neg =>
    have hbf : b = false := by
      cases b
      · rfl
      · exact absurd (hb.1 rfl).1 h40
    subst hbf
    (repeat' ((conv => whnf); first | refine ⟨_,⟨rfl,trivial⟩,?_⟩ | (refine bcase_prop (fun h => ?_) (fun h => ?_) <;> try (exfalso; omega)) | (refine bcase_nprop (fun h => ?_) (fun h => ?_) <;> try (exfalso; omega)) | (refine bcase_intro (fun h => ?_) (fun h => ?_) <;> (try simp only [Bool.not_eq_true',Bool.not_eq_false',decide_eq_true_eq,decide_eq_false_iff_not,Bool.not_eq_true,Bool.not_eq_false,Decidable.not_not] at h)) | refine And.intro (by first | omega | exact rfl | assumption | exact ⟨rfl,rfl,rfl,rfl,rfl⟩ | exact ⟨rfl,rfl,rfl,rfl⟩ | exact ⟨rfl,by omega⟩ | exact oneAll_of rfl | exact ⟨rfl,oneAll_of rfl⟩ | exact Ref.refl _ | exact Thin.ref (.skip (Thin.refl _)) | exact Thin.ref (.skip (.skip (Thin.refl _))) | exact ⟨rfl,Nat.le_of_ble_eq_true rfl⟩ | ((try unfold maxLen); (try simp only [List.length_nil,List.length_cons,List.length_append]); omega) | (refine ⟨rfl,?_⟩; (try simp only [List.length_nil,List.length_cons,List.length_append]); omega)) ?_ | intro _)); (all_goals (conv => whnf))
    all_goals first | (exfalso; omega) | exact ⟨rfl⟩
  by_cases hch : chkM m.m = 0
  case neg =>
    have hbf : b = false := by
      cases b
      · rfl
      · exact absurd (t0 (hb.1 rfl).2).1 hch
    subst hbf
    rw [errO_ne hch] at c1
    generalize chkM m.m = Z at *
    (repeat' ((conv => whnf); first | refine ⟨_,⟨rfl,trivial⟩,?_⟩ | (refine CallK_pure (.v _) (fun w' hR => c1 w' (hxm.cast hR)) ?_) | (refine QCall_pure (.v _) (fun w' hR => c1 w' (hxm.cast hR)) ?_) | (refine bcase_prop (fun h => ?_) (fun h => ?_) <;> try (exfalso; omega)) | (refine bcase_nprop (fun h => ?_) (fun h => ?_) <;> try (exfalso; omega)) | (refine bcase_intro (fun h => ?_) (fun h => ?_) <;> (try simp only [Bool.not_eq_true',Bool.not_eq_false',decide_eq_true_eq,decide_eq_false_iff_not,Bool.not_eq_true,Bool.not_eq_false,Decidable.not_not] at h)) | refine And.intro (by first | omega | exact rfl | assumption | exact ⟨rfl,rfl,rfl,rfl,rfl⟩ | exact ⟨rfl,rfl,rfl,rfl⟩ | exact ⟨rfl,by omega⟩ | exact oneAll_of rfl | exact ⟨rfl,oneAll_of rfl⟩ | exact Ref.refl _ | exact Thin.ref (.skip (Thin.refl _)) | exact Thin.ref (.skip (.skip (Thin.refl _))) | exact ⟨rfl,Nat.le_of_ble_eq_true rfl⟩ | ((try unfold maxLen); (try simp only [List.length_nil,List.length_cons,List.length_append]); omega) | (refine ⟨rfl,?_⟩; (try simp only [List.length_nil,List.length_cons,List.length_append]); omega)) ?_ | intro _)); (all_goals (conv => whnf))
    all_goals first | (exfalso; omega) | exact ⟨rfl⟩
  rw [hch] at c1
  by_cases hlen : H.length = m.nr.length
  case neg =>
    have hbf : b = false := by
      cases b
      · rfl
      · exact absurd (t0 (hb.1 rfl).2).2.1 hlen
    subst hbf
    (repeat' ((conv => whnf); first | refine ⟨_,⟨rfl,trivial⟩,?_⟩ | (refine CallK_pure (.v _) (fun w' hR => c1 w' (hxm.cast hR)) ?_) | (refine QCall_pure (.v _) (fun w' hR => c1 w' (hxm.cast hR)) ?_) | (refine bcase_prop (fun h => ?_) (fun h => ?_) <;> try (exfalso; omega)) | (refine bcase_nprop (fun h => ?_) (fun h => ?_) <;> try (exfalso; omega)) | (refine bcase_intro (fun h => ?_) (fun h => ?_) <;> (try simp only [Bool.not_eq_true',Bool.not_eq_false',decide_eq_true_eq,decide_eq_false_iff_not,Bool.not_eq_true,Bool.not_eq_false,Decidable.not_not] at h)) | refine And.intro (by first | omega | exact rfl | assumption | exact ⟨rfl,rfl,rfl,rfl,rfl⟩ | exact ⟨rfl,rfl,rfl,rfl⟩ | exact ⟨rfl,by omega⟩ | exact oneAll_of rfl | exact ⟨rfl,oneAll_of rfl⟩ | exact Ref.refl _ | exact Thin.ref (.skip (Thin.refl _)) | exact Thin.ref (.skip (.skip (Thin.refl _))) | exact ⟨rfl,Nat.le_of_ble_eq_true rfl⟩ | ((try unfold maxLen); (try simp only [List.length_nil,List.length_cons,List.length_append]); omega) | (refine ⟨rfl,?_⟩; (try simp only [List.length_nil,List.length_cons,List.length_append]); omega)) ?_ | intro _)); (all_goals (conv => whnf))
    all_goals first | (exfalso; omega) | exact ⟨rfl⟩ | skip
  (repeat' ((conv => whnf); first | refine ⟨_,⟨rfl,trivial⟩,?_⟩ | (refine CallK_pure (.v _) (fun w' hR => c1 w' (hxm.cast hR)) ?_) | (refine QCall_pure (.v _) (fun w' hR => c1 w' (hxm.cast hR)) ?_) | (refine bcase_prop (fun h => ?_) (fun h => ?_) <;> try (exfalso; omega)) | (refine bcase_nprop (fun h => ?_) (fun h => ?_) <;> try (exfalso; omega)) | (refine bcase_intro (fun h => ?_) (fun h => ?_) <;> (try simp only [Bool.not_eq_true',Bool.not_eq_false',decide_eq_true_eq,decide_eq_false_iff_not,Bool.not_eq_true,Bool.not_eq_false,Decidable.not_not] at h)) | refine And.intro (by first | omega | exact rfl | assumption | exact ⟨rfl,rfl,rfl,rfl,rfl⟩ | exact ⟨rfl,rfl,rfl,rfl⟩ | exact ⟨rfl,by omega⟩ | exact oneAll_of rfl | exact ⟨rfl,oneAll_of rfl⟩ | exact Ref.refl _ | exact Thin.ref (.skip (Thin.refl _)) | exact Thin.ref (.skip (.skip (Thin.refl _))) | exact ⟨rfl,Nat.le_of_ble_eq_true rfl⟩ | ((try unfold maxLen); (try simp only [List.length_nil,List.length_cons,List.length_append]); omega) | (refine ⟨rfl,?_⟩; (try simp only [List.length_nil,List.length_cons,List.length_append]); omega)) ?_ | intro _)); (all_goals (conv => whnf))
  all_goals first | (exfalso; omega) | skip
  refine VC_loop Nat (fun i => [(27,.v (.slice ha H.length hc)),(28,.v (.int .i64 H.length)),(29,.v (.int .i64 i))]) (fun i => []) (fun i => i ≤ H.length ∧ ∀ h ∈ H.take i,0 ≤ h ∧ h ≤ 1048576) (fun i => H.length - i) 0 ⟨Nat.zero_le _,by simp⟩ (by (repeat ((conv => whnf); refine And.intro (by first | exact rfl | exact vint_eq (by omega) | exact vint_eq (by (dsimp only; omega)) | exact vsl_eq (by omega) | exact vsl_eq (by first | (dsimp only; omega) | (simp; done) | (simp; omega))) ?_)); exact trivial) (Thin.ref (.nil _)) ?_
  rintro i ⟨hi,hall⟩
  by_cases hlt : i < H.length
  · have rdh := fun {L : List Ent} => rdI (L := L) hxi (i := i) hlt
    have n1 : ha ≠ none := hxi.ne' (k := i) (by rw [ints_length]; exact hlt)
    have q0 : ((i : Nat) : Int).toNat = i := by omega
    have hall' : (0 ≤ H.getD i 0 ∧ H.getD i 0 ≤ 1048576) → ∀ h ∈ H.take (i + 1),0 ≤ h ∧ h ≤ 1048576 := fun hh => by
      rw [show H.take (i + 1) = H.take i ++ [H.getD i 0] by
        rw [List.take_add_one,List.getD_eq_getElem?_getD,List.getElem?_eq_getElem hlt]; rfl]
      intro h hm
      rcases List.mem_append.1 hm with hm | hm
      · exact hall h hm
      · rw [List.mem_singleton.1 hm]; exact hh
    have hbad : ¬ (0 ≤ H.getD i 0 ∧ H.getD i 0 ≤ 1048576) → b = false := fun hh => by
      cases b
      · rfl
      · exact absurd ((t0 (hb.1 rfl).2).2.2 _ (memG hlt)) hh
    (repeat' ((conv => whnf); first | rw [q0] | refine ⟨_,rdh,?_⟩ | (refine bcase_prop (fun h => ?_) (fun h => ?_) <;> try (exfalso; omega)) | (refine bcase_nprop (fun h => ?_) (fun h => ?_) <;> try (exfalso; omega)) | (refine bcase_intro (fun h => ?_) (fun h => ?_) <;> (try simp only [Bool.not_eq_true',Bool.not_eq_false',decide_eq_true_eq,decide_eq_false_iff_not,Bool.not_eq_true,Bool.not_eq_false,Decidable.not_not] at h)) | refine And.intro (by first | omega | exact rfl | assumption | exact ⟨rfl,rfl,rfl,rfl,rfl⟩ | exact ⟨rfl,rfl,rfl,rfl⟩ | exact ⟨rfl,by omega⟩ | exact oneAll_of rfl | exact ⟨rfl,oneAll_of rfl⟩ | exact Ref.refl _ | exact Thin.ref (.skip (Thin.refl _)) | exact Thin.ref (.skip (.skip (Thin.refl _))) | exact ⟨rfl,Nat.le_of_ble_eq_true rfl⟩ | ((try unfold maxLen); (try simp only [List.length_nil,List.length_cons,List.length_append]); omega) | (refine ⟨rfl,?_⟩; (try simp only [List.length_nil,List.length_cons,List.length_append]); omega)) ?_ | intro _)); (all_goals (conv => whnf))
    all_goals first | (exfalso; omega) | (refine ⟨?_⟩; rw [hbad (by omega)]) | skip
    all_goals exact loop_next (i + 1) ⟨by omega,hall' ⟨by omega,by omega⟩⟩ (by omega) (by (repeat ((conv => whnf); refine And.intro (by first | exact rfl | exact vint_eq (by omega) | exact vint_eq (by (dsimp only; omega)) | exact vsl_eq (by omega) | exact vsl_eq (by first | (dsimp only; omega) | (simp; done) | (simp; omega))) ?_)); exact trivial) (Thin.ref (.nil _))
  · rw [List.take_of_length_le (by omega)] at hall
    have hbt : b = true := hb.2 ⟨h40,t1 hch ⟨hlen,hall⟩⟩
    (repeat' ((conv => whnf); first | (refine bcase_prop (fun h => ?_) (fun h => ?_) <;> try (exfalso; omega)) | (refine bcase_nprop (fun h => ?_) (fun h => ?_) <;> try (exfalso; omega)) | (refine bcase_intro (fun h => ?_) (fun h => ?_) <;> (try simp only [Bool.not_eq_true',Bool.not_eq_false',decide_eq_true_eq,decide_eq_false_iff_not,Bool.not_eq_true,Bool.not_eq_false,Decidable.not_not] at h)) | refine And.intro (by first | omega | exact rfl | assumption | exact ⟨rfl,rfl,rfl,rfl,rfl⟩ | exact ⟨rfl,rfl,rfl,rfl⟩ | exact ⟨rfl,by omega⟩ | exact oneAll_of rfl | exact ⟨rfl,oneAll_of rfl⟩ | exact Ref.refl _ | exact Thin.ref (.skip (Thin.refl _)) | exact Thin.ref (.skip (.skip (Thin.refl _))) | exact ⟨rfl,Nat.le_of_ble_eq_true rfl⟩ | ((try unfold maxLen); (try simp only [List.length_nil,List.length_cons,List.length_append]); omega) | (refine ⟨rfl,?_⟩; (try simp only [List.length_nil,List.length_cons,List.length_append]); omega)) ?_ | intro _)); (all_goals (conv => whnf))
    all_goals first | (exfalso; omega) | (refine ⟨?_⟩; rw [hbt])
def beg33Q (g : List Rul) (x : IA) (pick : Int) (D : Int → Prop) (v : Value) (L1 : List Ent) : Prop :=
  ∃ bt b a1 c1 a2 c2 fp1 fp2,v = .tuple #[pS bt,stV (gE g).length a1 c1 a2 c2,.int .i64 (gId g pick),.bool true] ∧ L1 = [packE 78 fp1 (fX bt b ⟨x.m.m,x.H,x.back,D⟩ (gS g).E),packE 77 fp2 (fS b (gS g)),.own 801 a1 (gE g).length c1 ty_api_Rule 5 (ruE (gE g)),.own 802 a2 (gE g).length c2 ty_int 1 (leE (gE g))]
theorem calls_begun33 (x : IA) (hs : Sml x) (D : Int → Prop) (g : List Rul) (hg : MIn g) (hl : g.length ≤ 40) (pick : Int) (hp : -9223372036854775808 ≤ pick ∧ pick ≤ 9223372036854775807) (a : Option Addr) (c : Nat) (w : World) (hx : IIn w x) (hin : In w [] a (rulsC g)) :
    Calls Try.prog fn_evergreenlaw33_begun #[x.v,.slice a g.length c,.int .i64 pick] w fun e w' => ∃ v L1,e = .returned v ∧ R w [] L1 w' ∧ beg33Q g x pick D v L1 := by
  refine new_call [.v x.v,.v (.slice a g.length c),.v (.int .i64 pick)] ok_evergreenlaw33_begun (by simp) ?_
  have c1 := fun w => calls_New 1000 77 w
  rw [show clipS 1000 = 1000 from rfl] at c1
  have c2 := fun b key fp w hR hin => calls_lBuildN b g hg hl a c key fp w hR hin
  have c3 := fun w h => calls_rBuild g hg hl a c w h
  have c4 := fun bs w' hm hh => calls_TabNew 78 bs D (gS g).E (w := w') x.m hm x.H x.ha x.hc hh x.back hs.2
  have p1 := calls_Pick pick (g.length + 1) (by omega) (by omega) hp
  have hres := (bst_all hg hl).len
  have i1 := pickF_lt (n := pick) (many := g.length + 1) (by omega)
  have r1 : (ints .i64 (buildF [] [0] g).2)[pickF pick (g.length + 1)]? = some (.int .i64 (gId g pick)) := ints_getD (by omega)
  have hxm := hx.m
  have hxh := hx.h
  clear hs hx
  obtain ⟨m,H,ha,hc,back⟩ := x
  dsimp only [IA.v,IA.cells] at *
  (repeat' ((conv => whnf); first | (refine CallK_new (fun w hR => c1 w) ?_; rintro _ _ ⟨bn,fpn,rfl,rfl⟩; refine ⟨.v _,rfl,?_⟩) | rw [Int.toNat_natCast] | rw [Nat.mul_one] | (first | refine CallK_pure (.v _) (fun w hR => p1 w) ?_ | refine QCall_pure (.v _) (fun w hR => p1 w) ?_) | refine ⟨_,rdO 804 rfl r1,?_⟩ | (refine CallK_pack (key := 77) rfl (fun w hR h0 => c2 _ _ _ _ h0 (inCast1 hin hR)) ?_; rintro _ _ ⟨a5,c5,fp5,hn5,rfl,rfl⟩; refine ⟨.v _,rfl,?_⟩) | ((refine CallK_new (fun w' hR => c4 _ w' (hxm.cast hR) (hxh.cast hR (by simp))) ?_); rintro _ _ ⟨bt,fpt,rfl,rfl⟩; refine ⟨.v _,rfl,?_⟩) | ((refine CallK_new (fun w hR => c3 w (hin.cast hR (by simp))) ?_); rintro _ _ ⟨a1,c1,a2,c2,a3,c3,rfl,rfl⟩; refine ⟨.v _,rfl,?_⟩) | refine ⟨_,⟨rfl,trivial⟩,?_⟩ | refine VC_drop 7 ?_ | (refine bcase_prop (fun h => ?_) (fun h => ?_) <;> try (exfalso; omega)) | (refine bcase_nprop (fun h => ?_) (fun h => ?_) <;> try (exfalso; omega)) | (refine bcase_intro (fun h => ?_) (fun h => ?_) <;> (try simp only [Bool.not_eq_true',Bool.not_eq_false',decide_eq_true_eq,decide_eq_false_iff_not,Bool.not_eq_true,Bool.not_eq_false,Decidable.not_not] at h)) | refine And.intro (by first | omega | exact rfl | assumption | exact ⟨rfl,rfl,rfl,rfl,rfl⟩ | exact ⟨rfl,rfl,rfl,rfl⟩ | exact ⟨rfl,by omega⟩ | exact oneAll_of rfl | exact ⟨rfl,oneAll_of rfl⟩ | exact Ref.refl _ | exact Thin.ref (.skip (Thin.refl _)) | exact Thin.ref (.skip (.skip (Thin.refl _))) | exact hn5 | exact Thin.ref (by (repeat (first | exact Thin.nil _ | exact Thin.refl _ | refine Thin.keep rfl (fun _ h => h) ?_ | refine Thin.skip ?_))) | exact ⟨rfl,Nat.le_of_ble_eq_true rfl⟩ | ((try unfold maxLen); (try simp only [List.length_nil,List.length_cons,List.length_append]); omega) | (refine ⟨rfl,?_⟩; (try simp only [List.length_nil,List.length_cons,List.length_append]); omega)) ?_ | intro _)); (all_goals (conv => whnf))
  all_goals first | (exfalso; omega) | skip
  exact ⟨⟨_,Ref.takes [78,77,801,802] rfl (.packE (.packE (.keep rfl (fun _ h => h) (.keep rfl (fun _ h => h) (.nil _))))),bt,_,a1,c1,a2,c2,_,_,rfl,rfl⟩⟩
end Go.Proofs.Ytoocnmfodhnpbaa
/- A table that came in: what the given statements say of it. No condition. -/
namespace Go.Proofs.Ytoocnmfodhnpbaa
open Go.ChangeShapes Go.WideShapes Go.ChangeAt Go.RowKit Go.EG
set_option linter.unusedVariables false
theorem list_of {α : Type} (Q : Nat → α → Prop) : ∀ len : Nat,(∀ i,i < len → ∃ x,Q i x) → ∃ l : List α,l.length = len ∧ ∀ i x,l[i]? = some x → Q i x
  | 0,_ => ⟨[],rfl,fun i x h => by simp at h⟩
  | n + 1,h => by
    obtain ⟨l,hl,hq⟩ := list_of Q n fun i hi => h i (by omega)
    obtain ⟨x,hx⟩ := h n (by omega)
    refine ⟨l ++ [x],by simp [hl],fun i y hy => ?_⟩
    rw [List.getElem?_append] at hy
    split at hy
    · exact hq i y hy
    · rename_i hn
      have hi := (List.getElem?_eq_some_iff.1 hy).1
      simp at hi
      have : i = n := by omega
      subst this
      rw [hl,Nat.sub_self] at hy
      simp at hy
      rw [← hy]; exact hx
section
variable {H : Type} {enc : TypeId × Value → H} {w : World} {base : Nat} {spare : Nat → Bool} {held : Bool}
theorem in_cells {a : Addr} {xs : List Value} (h : ∀ i v,xs[i]? = some v → w.cell? (a.add i) = some v) : In w [] (some a) xs := by
  by_cases hx : xs = []
  · exact .inl hx
  obtain ⟨b,off,spot⟩ := a
  obtain ⟨v0,hv0⟩ : ∃ v,xs[0]? = some v := ⟨_,List.getElem?_eq_getElem (List.length_pos_iff.2 hx)⟩
  have hc0 := h 0 v0 hv0
  have hspot : spot = none := by simpa [Addr.add] using World.cell?_spot hc0
  subst hspot
  refine .inr ⟨b,off,rfl,?_,by simp,fun j v hv => ?_⟩
  · have : w.cell? ⟨b,off,none⟩ = some v0 := by simpa [Addr.add] using hc0
    unfold World.cell? at this
    rcases Nat.lt_or_ge b w.heap.size with h | h
    · exact h
    · rw [Array.getElem?_eq_none h] at this
      simp at this
  · have h1 := h j v hv
    rw [← h1]
    congr 1
    simp only [Addr.add]
    split
    · rename_i h; subst h; rfl
    · rfl
theorem open_intsIn {P : Program} {t e : TypeId} {k : IntKind} {fuel : Nat} {cs : List Value} {x : DataW H × List MemPlace} (ht : P.underlying t = some (.slice e)) (he : P.underlying e = some (.int k)) (hc : P.cellsOf e = 1) (h : DataW.trod enc P w base spare held fuel t cs = some x) :
    ∃ a cap xs,cs = [.slice a (xs : List Int).length cap] ∧ In w [] a (ints k xs) ∧ xs.length ≤ 9223372036854775807 := by
  rcases open_ints ht he hc h with ⟨hcs,_⟩ | ⟨a,len,cap,zs,hcs,_,hl,hm,hz,hd,hcell,hwz⟩
  · exact ⟨none,0,[],hcs,.inl rfl,Nat.zero_le _⟩
  · have hle : len ≤ zs.length := by rw [hz]; split <;> omega
    have hlen : (zs.take len).length = len := by rw [List.length_take]; omega
    refine ⟨some a,cap,zs.take len,by rw [hlen]; exact hcs,in_cells fun i v hv => ?_,by rw [hlen]; unfold maxLen at hm; omega⟩
    have hi : i < (zs.take len).length := by
      have := (List.getElem?_eq_some_iff.1 hv).1
      rwa [ints_length] at this
    rw [ints_getD hi] at hv
    cases hv
    rw [hcell i (by omega),List.getD_eq_getElem?_getD,List.getD_eq_getElem?_getD,List.getElem?_take,if_pos (by omega)]
theorem open_bools {P : Program} {t e : TypeId} {fuel : Nat} {cs : List Value} {x : DataW H × List MemPlace} (ht : P.underlying t = some (.slice e)) (he : P.underlying e = some .bool) (hc : P.cellsOf e = 1) (h : DataW.trod enc P w base spare held fuel t cs = some x) :
    ∃ a cap xs,cs = [.slice a (xs : List Bool).length cap] ∧ In w [] a (xs.map Value.bool) := by
  rcases DataW.trod_slice ht h with ⟨hcs,_⟩ | ⟨a,len,cap,elems,rest,n,_,rfl,rfl,hb,hl,hm,hlen,hel,hsp,hns⟩
  · exact ⟨none,0,[],hcs,.inl rfl⟩
  · obtain ⟨l,hl2,hq⟩ := list_of (fun i (b : Bool) => w.cell? (a.add i) = some (.bool b)) len fun i hi => by
      have h1 := hel i hi
      rw [hc,Nat.mul_one,List.getElem?_eq_getElem (by omega)] at h1
      obtain ⟨cs',hcs,hy⟩ := Option.bind_eq_some_iff.1 h1
      obtain ⟨b,rfl,_⟩ := DataW.trod_bool he hy
      exact ⟨b,cell_of_cells?_one hcs⟩
    refine ⟨some a,cap,l,by rw [hl2],in_cells fun i v hv => ?_⟩
    rw [List.getElem?_map] at hv
    cases hb : l[i]? with
    | none => rw [hb] at hv; cases hv
    | some b => rw [hb] at hv; cases hv; exact hq i b hb
theorem open_rows {P : Program} {t e e' : TypeId} {fuel : Nat} {cs : List Value} {x : DataW H × List MemPlace} (ht : P.underlying t = some (.slice e)) (he : P.underlying e = some (.slice e')) (he' : P.underlying e' = some (.int .i64)) (hc : P.cellsOf e = 1) (hc' : P.cellsOf e' = 1) (h : DataW.trod enc P w base spare held fuel t cs = some x) :
    ∃ a cap nr,cs = [.slice a (nr : List RA).length cap] ∧ In w [] a (nr.map RA.v) ∧ (∀ r ∈ nr,In w [] r.a (ints .i64 r.xs) ∧ r.xs.length ≤ 9223372036854775807) ∧ nr.length ≤ 9223372036854775807 := by
  rcases DataW.trod_slice ht h with ⟨hcs,_⟩ | ⟨a,len,cap,elems,rest,n,_,rfl,rfl,hb,hl,hm,hlen,hel,hsp,hns⟩
  · exact ⟨none,0,[],hcs,.inl rfl,(fun r hr => by cases hr),Nat.zero_le _⟩
  · obtain ⟨l,hl2,hq⟩ := list_of (fun i (r : RA) => w.cell? (a.add i) = some r.v ∧ In w [] r.a (ints .i64 r.xs) ∧ r.xs.length ≤ 9223372036854775807) len fun i hi => by
      have h1 := hel i hi
      rw [hc,Nat.mul_one,List.getElem?_eq_getElem (by omega)] at h1
      obtain ⟨cs',hcs,hy⟩ := Option.bind_eq_some_iff.1 h1
      obtain ⟨a',cap',xs,rfl,h2,h3⟩ := open_intsIn he he' hc' hy
      exact ⟨⟨xs,a',cap'⟩,cell_of_cells?_one hcs,h2,h3⟩
    refine ⟨some a,cap,l,by rw [hl2],in_cells fun i v hv => ?_,fun r hr => ?_,by unfold maxLen at hm; omega⟩
    · rw [List.getElem?_map] at hv
      cases hb : l[i]? with
      | none => rw [hb] at hv; cases hv
      | some b => rw [hb] at hv; cases hv; exact (hq i b hb).1
    · obtain ⟨i,hi⟩ := List.getElem?_of_mem hr
      exact (hq i r hi).2
theorem take1 {α : Type} {l : List α} {i : Nat} {x : α} (h : (l.drop i).take 1 = [x]) : l[i]? = some x := by
  have := congrArg (fun l => l[0]?) h
  simpa using this
theorem list_six {α : Type} {l : List α} {a b c d e f : α} (h : l.length = 6) (h0 : l[0]? = some a) (h1 : l[1]? = some b) (h2 : l[2]? = some c) (h3 : l[3]? = some d) (h4 : l[4]? = some e) (h5 : l[5]? = some f) : l = [a,b,c,d,e,f] := by
  match l,h with
  | [x0,x1,x2,x3,x4,x5],_ => simp_all
set_option maxRecDepth 100000 in
theorem open_In {r : Reach} {b0 : Nat} {v : Value} {d : DataW H} {ps : List MemPlace} (hval : Value.okWide Try.prog w r b0 28 v) (hd : DataW.Trod enc Try.prog w base spare held 28 v d ps) : ∃ x : IA,v = x.v ∧ IIn w x := by
  obtain ⟨cs,rfl,hsz⟩ := okWide_struct Try.underlying28 hval
  obtain ⟨fuel,hf⟩ := hd
  rw [show (Value.agg cs).cells.toList = cs.toList from rfl] at hf
  obtain ⟨xs,n,_,_,hl,hlen,hfi⟩ := DataW.trod_struct Try.underlying28 hf
  rw [show Try.prog.cellsOf 28 = 6 from by kernel_rfl] at hl
  have f0 : DataW.trod enc Try.prog w base spare held n 26 ((cs.toList.drop 0).take (Try.prog.cellsOf 26)) = xs[0]? := hfi 0 _ rfl
  have f1 : DataW.trod enc Try.prog w base spare held n 22 ((cs.toList.drop 4).take (Try.prog.cellsOf 22)) = xs[1]? := hfi 1 _ rfl
  have f2 : DataW.trod enc Try.prog w base spare held n 4 ((cs.toList.drop 5).take (Try.prog.cellsOf 4)) = xs[2]? := hfi 2 _ rfl
  rw [List.getElem?_eq_getElem (by rw [hlen]; decide)] at f0 f1 f2
  rw [show Try.prog.cellsOf 22 = 1 from by kernel_rfl] at f1
  rw [show Try.prog.cellsOf 4 = 1 from by kernel_rfl] at f2
  rw [show Try.prog.cellsOf 26 = 4 from by kernel_rfl] at f0
  obtain ⟨ys,n2,_,_,hl2,hlen2,gfi⟩ := DataW.trod_struct Try.underlying26 f0
  have g0 : DataW.trod enc Try.prog w base spare held n2 3 ((((cs.toList.drop 0).take 4).drop 0).take (Try.prog.cellsOf 3)) = ys[0]? := gfi 0 _ rfl
  have g1 : DataW.trod enc Try.prog w base spare held n2 22 ((((cs.toList.drop 0).take 4).drop 1).take (Try.prog.cellsOf 22)) = ys[1]? := gfi 1 _ rfl
  have g2 : DataW.trod enc Try.prog w base spare held n2 23 ((((cs.toList.drop 0).take 4).drop 2).take (Try.prog.cellsOf 23)) = ys[2]? := gfi 2 _ rfl
  have g3 : DataW.trod enc Try.prog w base spare held n2 24 ((((cs.toList.drop 0).take 4).drop 3).take (Try.prog.cellsOf 24)) = ys[3]? := gfi 3 _ rfl
  rw [List.getElem?_eq_getElem (by rw [hlen2]; decide)] at g0 g1 g2 g3
  rw [show Try.prog.cellsOf 3 = 1 from by kernel_rfl] at g0
  rw [show Try.prog.cellsOf 22 = 1 from by kernel_rfl] at g1
  rw [show Try.prog.cellsOf 23 = 1 from by kernel_rfl] at g2
  rw [show Try.prog.cellsOf 24 = 1 from by kernel_rfl] at g3
  obtain ⟨st,e0,_,_⟩ := DataW.trod_int Try.underlying3 g0
  obtain ⟨ca,cc,cls,e1,i1,l1⟩ := open_intsIn Try.underlying22 Try.underlying3 (by kernel_rfl) g1
  obtain ⟨na,nc,nr,e2,i2,i2',l2⟩ := open_rows Try.underlying23 Try.underlying22 Try.underlying3 (by kernel_rfl) (by kernel_rfl) g2
  obtain ⟨aa,ac,acc,e3,i3⟩ := open_bools Try.underlying24 Try.underlying4 (by kernel_rfl) g3
  obtain ⟨ha,hc,H',e4,i4,l4⟩ := open_intsIn Try.underlying22 Try.underlying3 (by kernel_rfl) f1
  obtain ⟨b,e5,_⟩ := DataW.trod_bool Try.underlying4 f2
  have k : ∀ {j : Nat} {z : Value},j < 4 → ((((cs.toList.drop 0).take 4).drop j).take 1 = [z]) → cs.toList[j]? = some z := fun {j} {z} hj h => by
    have := take1 h
    rw [List.drop_zero,List.getElem?_take,if_pos hj] at this
    exact this
  refine ⟨⟨⟨st,cls,ca,cc,nr,na,nc,acc,aa,ac⟩,H',ha,hc,b⟩,?_,⟨⟨i1,i2,i3,fun r hr => (i2' r hr).1⟩,i4,l2,fun r hr => (i2' r hr).2,l4⟩⟩
  have := list_six hl (k (by decide) e0) (k (by decide) e1) (k (by decide) e2) (k (by decide) e3) (take1 e4) (take1 e5)
  obtain ⟨l⟩ := cs
  dsimp only at this
  rw [this]
end
end Go.Proofs.Ytoocnmfodhnpbaa
/- The machine of a set of letters: the program. -/
namespace Go.Proofs.Ytoocnmfodhnpbaa
open Go.EG
attribute [local irreducible] CallK QCall Go.Calls
set_option linter.unusedSimpArgs false
set_option linter.unusedVariables false
set_option maxRecDepth 20000
set_option maxHeartbeats 4000000
def letR1 (f : Nat → Bool) (i : Nat) : List Int := (List.range 256).map fun j => if j < i ∧ f j = true then 1 else 0
theorem letR1_len (f : Nat → Bool) (i : Nat) : (letR1 f i).length = 256 := by simp [letR1]
theorem letR1_zero (f : Nat → Bool) : letR1 f 0 = List.replicate 256 0 := by
  unfold letR1
  rw [List.eq_replicate_iff]
  refine ⟨by simp,fun x hx => ?_⟩
  obtain ⟨j,_,rfl⟩ := List.mem_map.1 hx
  simp
theorem letR1_get (f : Nat → Bool) (i : Nat) {j : Nat} (h : j < 256) : (letR1 f i).getD j 0 = if j < i ∧ f j = true then 1 else 0 := by
  simp [letR1,List.getD_eq_getElem?_getD,List.getElem?_range h]
theorem letR1_no (f : Nat → Bool) {i : Nat} (hf : f i = false) : letR1 f (i + 1) = letR1 f i := by
  unfold letR1
  refine List.map_congr_left fun j _ => ?_
  by_cases h : j = i
  · subst h; simp [hf]
  · have : (j < i + 1) ↔ (j < i) := by omega
    simp [this]
theorem letR1_yes (f : Nat → Bool) {i : Nat} (hi : i < 256) (hf : f i = true) : (letR1 f i).set i 1 = letR1 f (i + 1) := by
  refine List.ext_getElem? fun j => ?_
  rw [List.getElem?_set]
  by_cases h : i = j
  · subst h
    rw [if_pos rfl,if_pos (by rw [letR1_len]; exact hi)]
    simp [letR1,List.getElem?_range hi,hf]
  · rw [if_neg h]
    unfold letR1
    rw [List.getElem?_map,List.getElem?_map]
    cases hj : (List.range 256)[j]? with
    | none => rfl
    | some v =>
      have hv : v = j := by
        have := List.getElem?_eq_some_iff.1 hj
        obtain ⟨h1,h2⟩ := this
        rw [List.getElem_range] at h2; exact h2.symm
      subst hv
      have : (v < i + 1) ↔ (v < i) := by omega
      simp [this]
def letM (f : Nat → Bool) : Mch := ⟨0,letR1 f 256,[[0,1],[0,1]],[false,true]⟩
theorem letM_ok (f : Nat → Bool) : MOk (letM f) 2 := by
  have hl : (letM f).nx.length = 2 := rfl
  have hs : (letM f).start = 0 := rfl
  refine ⟨letR1_len f 256,by omega,by omega,rfl,⟨by omega,by omega⟩,by omega,?_,?_⟩
  · intro r hr
    have : r = [0,1] := by simpa [letM] using hr
    subst this
    exact ⟨rfl,fun q hq => by simp at hq; omega⟩
  · intro c hc
    obtain ⟨j,_,rfl⟩ := List.mem_map.1 hc
    split <;> decide
theorem letM_chk (f : Nat → Bool) : chkM (letM f) = 0 := by
  have h := letM_ok f
  have hF : Frm (letM f) ((letM f).nx.getD 0 []).length := ⟨h.cls,h.pos,h.acc,h.start,h.k1,h.row,h.letter⟩
  rw [chkM_ok hF]; rfl
theorem letM_stp (f : Nat → Bool) {q b : Nat} (hq : q < 2) (hb : b < 256) : stp (letM f) q b = if f b = true then 1 else 0 := by
  have h1 : (letM f).cls.getD b 0 = if b < 256 ∧ f b = true then 1 else 0 := letR1_get f 256 hb
  have h2 : (letM f).nx.getD q [] = [0,1] := by
    rcases (show q = 0 ∨ q = 1 by omega) with rfl | rfl <;> rfl
  unfold stp
  rw [h1,h2]
  cases f b
  · rw [if_neg (by simp),if_neg (by simp)]; rfl
  · rw [if_pos ⟨hb,rfl⟩,if_pos rfl]; rfl
def newLM (key : Nat) (f : Nat → Bool) (v : Value) (L1 : List Ent) : Prop := ∃ y F,v = MA.v y ∧ L1 = [frE key F] ∧ MFz F y ∧ y.m = letM f
theorem calls_Letters33 (key : Nat) (s : Let4) (hs : s.Ok) (w : World) :
    Calls Try.prog fn_evergreenlaw33_Letters #[l4V s] w fun e w' => ∃ v L1,e = .returned v ∧ R w [] L1 w' ∧ newLM key s.has v L1 := by
  refine new_call [.v (l4V s)] ok_evergreenlaw33_Letters (by simp) ?_
  have z1 : (List.replicate 256 [Value.int .i64 0]).flatten = ints .i64 (letR1 s.has 0) := by
    rw [letR1_zero,← flat_zeros]
  (repeat' ((conv => whnf); first | refine ⟨_,⟨rfl,trivial⟩,?_⟩ | (refine bcase_prop (fun h => ?_) (fun h => ?_) <;> try (exfalso; omega)) | (refine bcase_nprop (fun h => ?_) (fun h => ?_) <;> try (exfalso; omega)) | (refine bcase_intro (fun h => ?_) (fun h => ?_) <;> (try simp only [Bool.not_eq_true',Bool.not_eq_false',decide_eq_true_eq,decide_eq_false_iff_not,Bool.not_eq_true,Bool.not_eq_false,Decidable.not_not] at h)) | refine And.intro (by first | omega | exact rfl | assumption | exact ⟨rfl,rfl,rfl,rfl,rfl⟩ | exact ⟨rfl,rfl,rfl,rfl⟩ | exact ⟨rfl,by omega⟩ | exact oneAll_of rfl | exact ⟨rfl,oneAll_of rfl⟩ | exact Ref.refl _ | exact Thin.ref (.skip (Thin.refl _)) | exact Thin.ref (.skip (.skip (Thin.refl _))) | exact ⟨rfl,Nat.le_of_ble_eq_true rfl⟩ | ((try unfold maxLen); (try simp only [List.length_nil,List.length_cons,List.length_append]); omega) | (refine ⟨rfl,?_⟩; (try simp only [List.length_nil,List.length_cons,List.length_append]); omega)) ?_ | intro _)); (all_goals (conv => whnf))
  rename_i b1 b2 b5 b6 b7 b8 b9 b3
  refine VC_loop Nat (fun i => [(1,.ptr 1 b1 0),(2,.ptr 2 b2 0),(3,.ptr 3 b3 0),(11,.v (.int .i64 i))])
    (fun i => [.own 5 (some ⟨b5,0,none⟩) 256 256 ty_int 1 (ints .i64 (letR1 s.has i)),.own 6 (some ⟨b6,0,none⟩) 2 2 ty_int 1 (ints .i64 [0,1]),.own 7 (some ⟨b7,0,none⟩) 2 2 ty_int 1 (ints .i64 [0,1]),.own 8 (some ⟨b8,0,none⟩) 2 2 ty_Sl_int 1 [.slice (some ⟨b6,0,none⟩) 2 2,.slice (some ⟨b7,0,none⟩) 2 2],.own 9 (some ⟨b9,0,none⟩) 2 2 ty_bool 1 [.bool false,.bool true],.box 1 b1 [.int .u64 s.s0,.int .u64 s.s1,.int .u64 s.s2,.int .u64 s.s3] ty_api_Letters,.box 2 b2 [.int .i64 0,.slice none 0 0,.slice none 0 0,.slice none 0 0] ty_api_Machine,.box 3 b3 [.int .i64 0,.slice (some ⟨b5,0,none⟩) 256 256,.slice (some ⟨b8,0,none⟩) 2 2,.slice (some ⟨b9,0,none⟩) 2 2] ty_api_Machine])
    (fun i => i ≤ 256) (fun i => 256 - i) 0 (Nat.zero_le _) (by (repeat ((conv => whnf); refine And.intro (by first | exact rfl | exact vint_eq (by omega) | exact vint_eq (by (dsimp only; omega)) | exact vsl_eq (by omega) | exact vsl_eq (by first | (dsimp only; omega) | (simp; done) | (simp; omega))) ?_)); exact trivial) (Ref.takes [5,6,7,8,9,1,2,3] rfl (.own rfl z1 (Thin.refl _))) ?_
  intro i hi
  by_cases hlt : i < 256
  · have c1 := calls_r16Has s hs i hlt
    have m1 : (i : Int) % 256 = i := Int.emod_eq_of_lt (by omega) (by omega)
    have q0 : ((i : Nat) : Int).toNat = i := by omega
    have hll := letR1_len s.has i
    have bb : i + 1 ≤ (ints .i64 (letR1 s.has i)).length := by rw [ints_length]; omega
    cases hf : s.has i
    · rw [hf] at c1
      have hn := letR1_no s.has hf
      (repeat' ((conv => whnf); first | rw [m1] | rw [q0] | (first | refine CallK_pure (.v _) (fun w hR => c1 w) ?_ | refine QCall_pure (.v _) (fun w hR => c1 w) ?_) | refine ⟨_,⟨rfl,trivial⟩,?_⟩ | (refine bcase_prop (fun h => ?_) (fun h => ?_) <;> try (exfalso; omega)) | (refine bcase_nprop (fun h => ?_) (fun h => ?_) <;> try (exfalso; omega)) | (refine bcase_intro (fun h => ?_) (fun h => ?_) <;> (try simp only [Bool.not_eq_true',Bool.not_eq_false',decide_eq_true_eq,decide_eq_false_iff_not,Bool.not_eq_true,Bool.not_eq_false,Decidable.not_not] at h)) | refine And.intro (by first | omega | exact rfl | assumption | exact ⟨rfl,rfl,rfl,rfl,rfl⟩ | exact ⟨rfl,rfl,rfl,rfl⟩ | exact ⟨rfl,by omega⟩ | exact oneAll_of rfl | exact ⟨rfl,oneAll_of rfl⟩ | exact Ref.refl _ | exact Thin.ref (.skip (Thin.refl _)) | exact Thin.ref (.skip (.skip (Thin.refl _))) | exact ⟨rfl,Nat.le_of_ble_eq_true rfl⟩ | ((try unfold maxLen); (try simp only [List.length_nil,List.length_cons,List.length_append]); omega) | (refine ⟨rfl,?_⟩; (try simp only [List.length_nil,List.length_cons,List.length_append]); omega)) ?_ | intro _)); (all_goals (conv => whnf))
      all_goals first | (exfalso; omega) | skip
      exact loop_next (i + 1) (by omega) (by omega) (by (repeat ((conv => whnf); refine And.intro (by first | exact rfl | exact vint_eq (by omega) | exact vint_eq (by (dsimp only; omega)) | exact vsl_eq (by omega) | exact vsl_eq (by first | (dsimp only; omega) | (simp; done) | (simp; omega))) ?_)); exact trivial) (Ref.takes [5,6,7,8,9,1,2,3] rfl (.own rfl (by rw [hn]) (Thin.refl _)))
    · rw [hf] at c1
      have hn := letR1_yes s.has hlt hf
      have s1 : splice (ints .i64 (letR1 s.has i)) i [.int .i64 1] = ints .i64 (letR1 s.has (i + 1)) := by rw [splice_ints (by omega),hn]
      (repeat' ((conv => whnf); first | rw [m1] | rw [q0] | rw [s1] | (first | refine CallK_pure (.v _) (fun w hR => c1 w) ?_ | refine QCall_pure (.v _) (fun w hR => c1 w) ?_) | refine ⟨.sl 5 _ _ _,⟨rfl,rfl,rfl,rfl⟩,?_⟩ | refine ⟨_,⟨rfl,trivial⟩,?_⟩ | (refine bcase_prop (fun h => ?_) (fun h => ?_) <;> try (exfalso; omega)) | (refine bcase_nprop (fun h => ?_) (fun h => ?_) <;> try (exfalso; omega)) | (refine bcase_intro (fun h => ?_) (fun h => ?_) <;> (try simp only [Bool.not_eq_true',Bool.not_eq_false',decide_eq_true_eq,decide_eq_false_iff_not,Bool.not_eq_true,Bool.not_eq_false,Decidable.not_not] at h)) | refine And.intro (by first | omega | exact rfl | assumption | exact ⟨rfl,rfl,rfl,rfl,rfl⟩ | exact ⟨rfl,rfl,rfl,rfl⟩ | exact ⟨rfl,by omega⟩ | exact oneAll_of rfl | exact ⟨rfl,oneAll_of rfl⟩ | exact Ref.refl _ | exact Thin.ref (.skip (Thin.refl _)) | exact Thin.ref (.skip (.skip (Thin.refl _))) | exact ⟨rfl,bb⟩ | exact ⟨rfl,Nat.le_of_ble_eq_true rfl⟩ | ((try unfold maxLen); (try simp only [List.length_nil,List.length_cons,List.length_append]); omega) | (refine ⟨rfl,?_⟩; (try simp only [List.length_nil,List.length_cons,List.length_append]); omega)) ?_ | intro _)); (all_goals (conv => whnf))
      all_goals first | (exfalso; omega) | skip
      exact loop_next (i + 1) (by omega) (by omega) (by (repeat ((conv => whnf); refine And.intro (by first | exact rfl | exact vint_eq (by omega) | exact vint_eq (by (dsimp only; omega)) | exact vsl_eq (by omega) | exact vsl_eq (by first | (dsimp only; omega) | (simp; done) | (simp; omega))) ?_)); exact trivial) (Ref.takes [5,6,7,8,9,1,2,3] rfl (Thin.refl _))
  · obtain rfl : i = 256 := by omega
    (repeat' ((conv => whnf); first | refine ⟨_,⟨rfl,trivial⟩,?_⟩ | (refine bcase_prop (fun h => ?_) (fun h => ?_) <;> try (exfalso; omega)) | (refine bcase_nprop (fun h => ?_) (fun h => ?_) <;> try (exfalso; omega)) | (refine bcase_intro (fun h => ?_) (fun h => ?_) <;> (try simp only [Bool.not_eq_true',Bool.not_eq_false',decide_eq_true_eq,decide_eq_false_iff_not,Bool.not_eq_true,Bool.not_eq_false,Decidable.not_not] at h)) | refine And.intro (by first | omega | exact rfl | assumption | exact ⟨rfl,rfl,rfl,rfl,rfl⟩ | exact ⟨rfl,rfl,rfl,rfl⟩ | exact ⟨rfl,by omega⟩ | exact oneAll_of rfl | exact ⟨rfl,oneAll_of rfl⟩ | exact Ref.refl _ | exact Thin.ref (.skip (Thin.refl _)) | exact Thin.ref (.skip (.skip (Thin.refl _))) | exact ⟨rfl,Nat.le_of_ble_eq_true rfl⟩ | ((try unfold maxLen); (try simp only [List.length_nil,List.length_cons,List.length_append]); omega) | (refine ⟨rfl,?_⟩; (try simp only [List.length_nil,List.length_cons,List.length_append]); omega)) ?_ | intro _)); (all_goals (conv => whnf))
    all_goals first | (exfalso; omega) | skip
    refine ⟨⟨_,((Ref.takes [5,6,7,8,9] rfl (Thin.refl _)).trans (Ref.freezeNew 79)).trans (((Ref.takes [5,79,6,7,8,9] rfl (Thin.refl _)).trans Ref.freezeRow).trans (((Ref.takes [6,79,7,8,9] rfl (Thin.refl _)).trans Ref.freezeRow).trans (((Ref.takes [7,79,8,9] rfl (Thin.refl _)).trans Ref.freezeRow).trans (((Ref.takes [8,79,9] rfl (Thin.refl _)).trans Ref.freezeRow).trans (((Ref.takes [9,79] rfl (Thin.refl _)).trans Ref.freezeRow).trans (Thin.ref (Thin.abs (k' := key) (.nil _)))))))),
      ⟨0,letR1 s.has 256,some ⟨b5,0,none⟩,256,[⟨[0,1],some ⟨b6,0,none⟩,2⟩,⟨[0,1],some ⟨b7,0,none⟩,2⟩],some ⟨b8,0,none⟩,2,[false,true],some ⟨b9,0,none⟩,2⟩,_,?_,rfl,⟨?_,?_,?_,?_⟩,?_⟩⟩
    · dsimp only [MA.v,MA.cells]; rw [letR1_len]; rfl
    · exact FIn.head.tail.tail.tail.tail
    · exact FIn.head.tail
    · exact FIn.head
    · intro r hr
      simp only [List.mem_cons,List.not_mem_nil,or_false] at hr
      rcases hr with rfl | rfl
      · exact FIn.head.tail.tail.tail
      · exact FIn.head.tail.tail
    · rfl
end Go.Proofs.Ytoocnmfodhnpbaa
/- The example of the chapter: the program. -/
namespace Go.Proofs.Ytoocnmfodhnpbaa
open Go.EG
attribute [local irreducible] CallK QCall Go.Calls
set_option linter.unusedSimpArgs false
set_option linter.unusedVariables false
set_option maxRecDepth 20000
set_option maxHeartbeats 4000000
theorem letM_E (f : Nat → Bool) : ∀ (t : List Nat) (q : Nat),q < 2 → (∀ b ∈ t,b < 256) → runE (letM f) q t = match t.getLast? with | none => q | some b => if f b = true then 1 else 0
  | [],q,_,_ => rfl
  | [b],q,hq,hb => by
    show stp (letM f) q b = _
    rw [letM_stp f hq (hb b (by simp))]; rfl
  | b :: c :: t,q,hq,hb => by
    show runE (letM f) (stp (letM f) q b) (c :: t) = _
    have hs : stp (letM f) q b < 2 := by
      rw [letM_stp f hq (hb b (by simp))]; split <;> decide
    rw [letM_E f (c :: t) _ hs (fun x hx => hb x (List.mem_cons_of_mem _ hx))]
    rw [List.getLast?_cons_cons]
    cases h : (c :: t).getLast? with
    | none => simp at h
    | some z => rfl
theorem letM_H (f : Nat → Bool) (h : Nat) : ∀ (t : List Nat) (q : Nat),q < 2 → (∀ b ∈ t,b < 256) → runH (letM f) [0,(h : Int)] q t = h * t.countP f
  | [],q,_,_ => by simp [runH]
  | b :: t,q,hq,hb => by
    have hs : stp (letM f) q b < 2 := by
      rw [letM_stp f hq (hb b (by simp))]; split <;> decide
    show (([0,(h : Int)] : List Int).getD (stp (letM f) q b) 0).toNat + runH (letM f) [0,(h : Int)] (stp (letM f) q b) t = _
    rw [letM_H f h t _ hs (fun x hx => hb x (List.mem_cons_of_mem _ hx)),letM_stp f hq (hb b (by simp)),List.countP_cons]
    cases f b
    · simp
    · simp [Nat.mul_add,Nat.add_comm]
def allD (S : Sto) (i : Int) : Prop := 1 ≤ i ∧ i ≤ S.E.length
theorem allD_clo {S : Sto} (hw : WF S) : Clo S (allD S) := by
  intro i h
  obtain ⟨ho,_⟩ := hw.at_ h.1 h.2
  unfold allD at *
  refine ⟨h.1,h.2,fun hk => ?_,fun hk => ?_⟩
  · rcases ho with ho | ho | ho <;> omega
  · rcases ho with ho | ho | ho <;> omega
theorem allD_known {S : Sto} {n : Int} : n = 0 ∨ ¬ known S n ∨ allD S n := by
  by_cases h : known S n
  · by_cases h0 : n = 0
    · exact .inl h0
    · have := h.1
      exact .inr (.inr ⟨by omega,h.2⟩)
  · exact .inr (.inl h)
def gB : List Rul := [⟨1,97,0,0,0⟩,⟨1,98,0,0,0⟩,⟨2,0,1,2,0⟩,⟨3,0,1,0,2⟩,⟨2,0,3,4,0⟩]
abbrev tB : Tm := .pr (.pr (.lt 97) (.lt 98)) (.pw (.lt 97) 2)
theorem gB_chk : chk 1 gB = 0 := by decide
theorem gB_rul : ∀ i,i < gB.length → okR (gB.getD i rul0) (i + 1) := fun i hi => by
  have := (chk_zero.1 gB_chk) i hi
  rwa [show (1 : Int) + (i : Int) = i + 1 by omega] at this
theorem gB_let : ∀ i,i < gB.length → 0 ≤ (gB.getD i rul0).l ∧ (gB.getD i rul0).l < 256 := by decide
theorem gB_gram : Gram gB := ⟨gB_rul,gB_let,by decide⟩
theorem gB_imp : ∃ S to,stImp ⟨10,[]⟩ [0] gB = some (S,to) ∧ WF S ∧ known S (to.getD 5 0) ∧ tm S.E (to.getD 5 0) = tB := by
  obtain ⟨S,to,h1,h2,_,h4,_⟩ := stImp_ok (g := gB) (WF.new 10 (by decide)) (Rel.start _) (fun i hi => by
    have := gB_rul i hi
    rwa [show (([] : List Tm).length : Int) + 1 + (i : Int) = i + 1 by simp; omega]) gB_let (by decide) (by decide)
  obtain ⟨a,b,c⟩ := h4.at_ 5 (by decide) (by decide)
  exact ⟨S,to,h1,h2,⟨by omega,b⟩,c⟩
def sB : Let4 := ⟨0,8589934592,0,0⟩
theorem sB_ok : sB.Ok := ⟨by decide,by decide,by decide,by decide⟩
theorem tabE_let {y : MA} {f : Nat → Bool} (hy : y.m = letM f) {h : Int} (hh : 0 ≤ h ∧ h ≤ 1048576) : tabE y [0,h] = 0 := by
  refine tabE_ok (by rw [hy]; exact letM_chk f) ⟨?_,by simp; omega⟩
  have : y.m.nx.length = y.nr.length := List.length_map ..
  rw [← this,hy]; rfl
theorem MFz.in_ {w0 w : World} {fp0 : List Nat} {L Lr : List Ent} {key : Nat} {F : List Frz} {x : MA} (hR : R w0 fp0 L w) (hm : pickE key L = some (frE key F,Lr)) (h : MFz F x) : McI w [] x := by
  have hm' := (pickE_perm hm).mem_iff.2 (List.mem_cons_self (a := frE key F) (l := Lr))
  exact ⟨FIn.in_ hR hm' h.cls,FIn.in_ hR hm' h.nx,FIn.in_ hR hm' h.acc,fun r hr => FIn.in_ hR hm' (h.row r hr)⟩
theorem calls_awake33 (w : World) : Calls Try.prog fn_evergreenlaw33_awake #[] w fun e w' => e = .returned (.bool true) ∧ Ext w w' := by
  refine pure_call [] w ok_evergreenlaw33_awake (by simp) ?_
  have c1 := fun w => calls_New 10 77 w
  rw [show clipS 10 = 10 from rfl] at c1
  obtain ⟨S,to,himp,hw,hk,ht⟩ := gB_imp
  have c2 := fun b key fp w hR a c hin => calls_Import b ⟨10,[]⟩ (WF.new 10 (by decide)) gB gB_gram S to himp (by decide) a c key fp w hR hin
  have hl : gB.length = 5 := rfl
  rw [hl] at c2
  generalize to.getD 5 0 = n at *
  have c3 := fun w => calls_Letters33 79 sB sB_ok w
  have hT : TbOk ⟨letM sB.has,[0,1],false,allD S⟩ 2 := ⟨letM_ok _,rfl,fun h hh => by simp at hh; omega⟩
  have q0 : askOk ⟨letM sB.has,[0,1],false,allD S⟩ S n 0 := ⟨hk,by decide,by show (0 : Int) < ((2 : Nat) : Int); decide⟩
  have c5 := fun bt b => calls_THits bt b ⟨letM sB.has,[0,1],false,allD S⟩ hT S hw (allD_clo hw) n 0 allD_known
  have c6 := fun bt b => calls_TPart bt b ⟨letM sB.has,[0,1],false,allD S⟩ hT S hw (allD_clo hw) n 1 2 0 allD_known
  have r1 : runH (letM sB.has) [0,1] 0 (ori false tB.txt) = 3 := by
    have := letM_H sB.has 1 tB.txt 0 (by decide) (by decide)
    exact this.trans (by decide)
  have r2 : runH (letM sB.has) [0,1] 0 (ori false ((tB.txt.drop 1).take 2)) = 1 := by
    have := letM_H sB.has 1 ((tB.txt.drop 1).take 2) 0 (by decide) (by decide)
    exact this.trans (by decide)
  have r3 : runE (letM sB.has) 0 (ori false ((tB.txt.drop 1).take 2)) = 1 := by
    have := letM_E sB.has ((tB.txt.drop 1).take 2) 0 (by decide) (by decide)
    exact this.trans (by decide)
  have e5 : hitV ⟨letM sB.has,[0,1],false,allD S⟩ S n 0 = .tuple #[.int .i64 3,.nilIface] := by
    unfold hitV
    rw [if_pos q0,ht]
    dsimp only
    rw [show (0 : Int).toNat = 0 from rfl,r1,if_pos (by decide)]; rfl
  have e6 : prtV ⟨letM sB.has,[0,1],false,allD S⟩ S n 1 2 0 = .tuple #[.int .i64 1,.int .i64 1,.nilIface] := by
    unfold prtV
    rw [if_pos q0,ht,if_pos (by decide)]
    dsimp only
    rw [show (0 : Int).toNat = 0 from rfl,show (1 : Int).toNat = 1 from rfl,show (2 : Int).toNat = 2 from rfl,r2,r3,if_pos (by decide)]; rfl
  simp only [e5] at c5
  simp only [e6] at c6
  have c4 := fun bs (y : MA) (hy : y.m = letM sB.has) (w' : World) hm ha hc hh => calls_TabNew 78 bs (allD S) S.E (w := w') y hm [0,1] ha hc hh false (tabE_let (f := sB.has) hy (by decide))
  have c4 := fun bs (y : MA) (hy : y.m = letM sB.has) (w' : World) hm ha hc hh => by
    have := c4 bs y hy w' hm ha hc hh
    rw [hy] at this
    exact this
  (repeat' ((conv => whnf); first | (refine CallK_new (fun w hR => c1 w) ?_; rintro _ _ ⟨bn,fpn,rfl,rfl⟩; refine ⟨.v _,rfl,?_⟩) | (refine CallK_pack (key := 77) rfl (fun w hR h0 => c2 _ _ _ _ h0 _ _ (In.beside (key := 22) hR rfl)) ?_; rintro _ _ ⟨rfl,fp',rfl⟩; refine ⟨.v _,rfl,?_⟩) | ((refine CallK_new (fun w' hR => c3 w') ?_); rintro _ _ ⟨y,F,rfl,rfl,hF,hy⟩; refine ⟨.v _,rfl,?_⟩) | ((refine CallK_new (fun w' hR => c4 _ y hy w' (hF.in_ (key := 79) hR rfl) _ _ (In.ownR (key := 31) hR rfl)) ?_); rintro _ _ ⟨bt,fpt,rfl,rfl⟩; refine ⟨.v _,rfl,?_⟩) | (refine CallK_pack2 (key1 := 78) (key2 := 77) rfl rfl (fun w hR h0 => c5 _ _ _ _ _ _ _ h0) ?_; rintro _ _ ⟨rfl,fp1',fp2',rfl⟩; refine ⟨.v _,rfl,?_⟩) | (refine CallK_pack2 (key1 := 78) (key2 := 77) rfl rfl (fun w hR h0 => c6 _ _ _ _ _ _ _ h0) ?_; rintro _ _ ⟨rfl,fp1',fp2',rfl⟩; refine ⟨.v _,rfl,?_⟩) | refine ⟨_,⟨rfl,trivial⟩,?_⟩ | (refine bcase_prop (fun h => ?_) (fun h => ?_) <;> try (exfalso; omega)) | (refine bcase_nprop (fun h => ?_) (fun h => ?_) <;> try (exfalso; omega)) | (refine bcase_intro (fun h => ?_) (fun h => ?_) <;> (try simp only [Bool.not_eq_true',Bool.not_eq_false',decide_eq_true_eq,decide_eq_false_iff_not,Bool.not_eq_true,Bool.not_eq_false,Decidable.not_not] at h)) | refine And.intro (by first | omega | exact rfl | assumption | exact ⟨rfl,rfl,rfl,rfl,rfl⟩ | exact ⟨rfl,rfl,rfl,rfl⟩ | exact ⟨rfl,by omega⟩ | exact oneAll_of rfl | exact ⟨rfl,oneAll_of rfl⟩ | exact Ref.refl _ | exact Thin.ref (.skip (Thin.refl _)) | exact Thin.ref (.skip (.skip (Thin.refl _))) | exact ⟨rfl,Nat.le_of_ble_eq_true rfl⟩ | ((try unfold maxLen); (try simp only [List.length_nil,List.length_cons,List.length_append]); omega) | (refine ⟨rfl,?_⟩; (try simp only [List.length_nil,List.length_cons,List.length_append]); omega)) ?_ | intro _)); (all_goals (conv => whnf))
  all_goals first | (exfalso; omega) | exact ⟨rfl⟩ | skip
end Go.Proofs.Ytoocnmfodhnpbaa
/- Runs over texts and ranges are those of the plain text: the program. -/
namespace Go.Proofs.Ytoocnmfodhnpbaa
open Go.EG
attribute [local irreducible] CallK QCall Go.Calls
set_option linter.unusedSimpArgs false
set_option linter.unusedVariables false
set_option maxRecDepth 20000
set_option maxHeartbeats 4000000
theorem Sml.ok {x : IA} (h : Sml x) (D : Int → Prop) : TbOk ⟨x.m.m,x.H,x.back,D⟩ (x.m.m.nx.getD 0 []).length := by
  obtain ⟨h0,h1,h2⟩ := tabE_zero h.2
  exact ⟨chkM_zero h0,by rw [show x.m.m.nx.length = x.m.nr.length from List.length_map ..]; exact h1,h2⟩
structure TxG where
  i : Nat
  f1 : List Nat
  f2 : List Nat
end Go.Proofs.Ytoocnmfodhnpbaa
/- A range is run over as its two parts are,one after the other: the program. -/
namespace Go.Proofs.Ytoocnmfodhnpbaa
open Go.EG
attribute [local irreducible] CallK QCall Go.Calls
set_option linter.unusedSimpArgs false
set_option linter.unusedVariables false
set_option maxRecDepth 20000
set_option maxHeartbeats 4000000
def umd (x : Int) (L : Nat) : Nat := (x % 18446744073709551616 % (L : Int)).toNat
theorem umd_lt (x : Int) {L : Nat} (h : 0 < L) : umd x L < L := by
  unfold umd
  have h1 := Int.emod_lt_of_pos (x % 18446744073709551616) (show (0 : Int) < (L : Int) by omega)
  omega
theorem umd_eq (x : Int) {L : Nat} (h : 0 < L) : x % 18446744073709551616 % (L : Int) = (umd x L : Nat) := by
  unfold umd
  have h0 := Int.emod_nonneg (x % 18446744073709551616) (show ((L : Int)) ≠ 0 by omega)
  omega
end Go.Proofs.Ytoocnmfodhnpbaa
/- A rule's run is that of its parts: the program. -/
namespace Go.Proofs.Ytoocnmfodhnpbaa
open Go.EG
attribute [local irreducible] CallK QCall Go.Calls
set_option linter.unusedSimpArgs false
set_option linter.unusedVariables false
set_option maxRecDepth 20000
set_option maxHeartbeats 4000000
theorem powT {S : Sto} (h : WF S) {i k : Int} (h1 : 1 ≤ i) (h2 : i ≤ S.E.length) (hk : 1 ≤ k) (hl : (tm S.E i).len * k.toNat ≤ LM) (hroom : S.E.length < S.most) :
    ∃ S' x,stPower S i k = (S',x,0) ∧ WF S' ∧ Grow S S' ∧ 1 ≤ x ∧ known S' x ∧ (tm S'.E x).txt = rep k.toNat (tm S.E i).txt ∧ S'.E.length ≤ S.E.length + 1 := by
  unfold stPower
  rw [if_neg (by rintro (hh | hh); exact hh ⟨by omega,h2⟩; omega),if_neg (by omega)]
  by_cases h1' : k = 1
  · rw [if_pos h1']
    subst h1'
    exact ⟨S,i,rfl,h,Grow.refl S,h1,⟨by omega,h2⟩,(rep_one _).symm,Nat.le_succ _⟩
  · rw [if_neg h1',if_neg (by omega)]
    obtain ⟨s1,s2,s3,s4,s5⟩ := stPut_spec h (fit_pow h1 h2 (by omega) hl)
    have hz : (stPut S (powR i k)).2.2 = 0 := by
      cases hh : (stPut S (powR i k)).2.2 with
      | zero => rfl
      | succ n => have := (s4 (by rw [hh]; simp)).2.1; omega
    obtain ⟨t1,t2,t3,_⟩ := s3 hz
    refine ⟨(stPut S (powR i k)).1,(stPut S (powR i k)).2.1,?_,s1,s2,t1,t2,?_,s5⟩
    · rw [← hz]
    · rw [t3]; rfl
theorem packX_up {w0 : World} {fp0 : List Nat} {bt bs : Nat} {M : Mch} {H : List Int} {back : Bool} {S S' : Sto} (hw : WF S) (hg : Grow S S') {fp : List Nat} {L : List Ent} : Ref w0 fp0 (packE 78 fp (fX bt bs ⟨M,H,back,allD S⟩ S.E) :: L) (packE 78 fp (fX bt bs ⟨M,H,back,allD S'⟩ S'.E) :: L) :=
  (Thin.ref (packX_grow (k' := 78) hw hg (Thin.refl L))).trans (Thin.ref (packX_wide (k' := 78) (D' := allD S') (fun i hi => ⟨hi.1,by have := hg.len; have := hi.2; omega⟩) (Thin.refl L)))
theorem packX_upS {w0 : World} {fp0 : List Nat} {bt bs : Nat} {M : Mch} {H : List Int} {back : Bool} {S S' : Sto} (hw : WF S) (hg : Grow S S') {fp fp2 : List Nat} {α : Type} {fA : α → List Ent} {L : List Ent} : Ref w0 fp0 (packE 78 fp (fX bt bs ⟨M,H,back,allD S⟩ S.E) :: packE 77 fp2 fA :: L) (packE 78 fp (fX bt bs ⟨M,H,back,allD S'⟩ S'.E) :: packE 77 fp2 fA :: L) := packX_up hw hg
structure Two (S S' : Sto) (n a b : Int) : Prop where
  wf : WF S'
  grow : Grow S S'
  ka : known S' a
  kb : known S' b
  kn : known S' n
  txt : (tm S'.E n).txt = (tm S'.E a).txt ++ (tm S'.E b).txt
  len : S'.E.length ≤ S.E.length + 2
theorem two_pair {S : Sto} (hw : WF S) {n : Int} (h1 : 1 ≤ n) (h2 : n ≤ S.E.length) (hk : (atE S.E n).r.k = 2) : Two S S n (atE S.E n).r.a (atE S.E n).r.b := by
  obtain ⟨ho,_⟩ := hw.at_ h1 h2
  rcases ho with ho | ho | ho
  · omega
  · refine ⟨hw,Grow.refl S,⟨by omega,by omega⟩,⟨by omega,by omega⟩,⟨by omega,h2⟩,?_,by omega⟩
    rcases view hw h1 h2 with ⟨v,_⟩ | ⟨_,v,_⟩ | ⟨v,_⟩
    · omega
    · exact v
    · omega
  · omega
theorem two_pow {S : Sto} (hw : WF S) {n : Int} (h1 : 1 ≤ n) (h2 : n ≤ S.E.length) (hk : (atE S.E n).r.k = 3) (hroom : S.E.length + 2 ≤ S.most) :
    ∃ S1 a S' b,stPower S (atE S.E n).r.a ((atE S.E n).r.t / 2) = (S1,a,0) ∧ stPower S1 (atE S.E n).r.a ((atE S.E n).r.t - (atE S.E n).r.t / 2) = (S',b,0) ∧ WF S1 ∧ Two S S' n a b := by
  obtain ⟨ho,_⟩ := hw.at_ h1 h2
  obtain ⟨hx,ht⟩ : (tm S.E n).txt = rep (atE S.E n).r.t.toNat (tm S.E (atE S.E n).r.a).txt ∧ 2 ≤ (atE S.E n).r.t := by
    rcases view hw h1 h2 with ⟨v,_⟩ | ⟨v,_⟩ | ⟨_,v,_,_,v2⟩
    · omega
    · omega
    · exact ⟨v,v2⟩
  obtain ⟨ha1,ha2⟩ : 1 ≤ (atE S.E n).r.a ∧ (atE S.E n).r.a ≤ S.E.length := by
    rcases ho with ho | ho | ho <;> omega
  have hle := hw.le h2
  unfold Tm.len at hle
  rw [hx,len_rep] at hle
  generalize (atE S.E n).r.a = l at *
  generalize (atE S.E n).r.t = t at *
  have e1 : (tm S.E l).len * (t / 2).toNat ≤ LM := Nat.le_trans (by rw [Nat.mul_comm]; exact Nat.mul_le_mul_right _ (by omega)) hle
  obtain ⟨S1,a,p1,p2,p3,p4,p5,p6,p7⟩ := powT hw ha1 ha2 (k := t / 2) (by omega) e1 (by omega)
  have hl1 := p3.len
  have e2 : (tm S1.E l).len * (t - t / 2).toNat ≤ LM := by
    rw [p3.tm ha2]
    exact Nat.le_trans (by rw [Nat.mul_comm]; exact Nat.mul_le_mul_right _ (by omega)) hle
  obtain ⟨S',b,q1,q2,q3,q4,q5,q6,q7⟩ := powT p2 ha1 (by omega) (k := t - t / 2) (by omega) e2 (by rw [p3.most]; omega)
  have hl2 := q3.len
  refine ⟨S1,a,S',b,p1,q1,p2,⟨q2,p3.trans q3,q3.known p5,q5,⟨by omega,by omega⟩,?_,by omega⟩⟩
  rw [(p3.trans q3).tm h2,q3.tm p5.2,p6,q6,p3.tm ha2,hx,← rep_add]
  congr 1
  omega
structure RuG where
  i : Nat
  S : Sto
  f1 : List Nat
  f2 : List Nat
structure RuI (g : List Rul) (z : RuG) : Prop where
  i : z.i ≤ (gE g).length
  wf : WF z.S
  grow : Grow (gS g) z.S
  len : z.S.E.length ≤ (gE g).length + 2 * z.i
theorem law_TransferRules (w : World) (x : IA) (hx : IIn w x) (g : List Rul) (hg : MIn g) (a : Option Addr) (c : Nat) (hin : In w [] a (rulsC g)) (q : Int) :
    Calls Try.prog fn_evergreenlaw33_TransferRules #[x.v,.slice a g.length c,.int .i64 q] w fun e w' => e = .returned (.bool true) ∧ Ext w w' := by
  refine pure_call [.v x.v,.v (.slice a g.length c),.v (.int .i64 q)] w ok_evergreenlaw33_TransferRules (by simp) ?_
  have c0 := calls_awake33
  by_cases hl : g.length ≤ 30
  case neg =>
    obtain ⟨m,H,ha,hc,back⟩ := x
    dsimp only [IA.v,IA.cells]
    (repeat' ((conv => whnf); first | (first | refine CallK_pure (.v _) (fun w hR => c0 w) ?_ | refine QCall_pure (.v _) (fun w hR => c0 w) ?_) | (refine bcase_prop (fun h => ?_) (fun h => ?_) <;> try (exfalso; omega)) | (refine bcase_nprop (fun h => ?_) (fun h => ?_) <;> try (exfalso; omega)) | (refine bcase_intro (fun h => ?_) (fun h => ?_) <;> (try simp only [Bool.not_eq_true',Bool.not_eq_false',decide_eq_true_eq,decide_eq_false_iff_not,Bool.not_eq_true,Bool.not_eq_false,Decidable.not_not] at h)) | refine And.intro (by first | omega | exact rfl | assumption | exact ⟨rfl,rfl,rfl,rfl,rfl⟩ | exact ⟨rfl,rfl,rfl,rfl⟩ | exact ⟨rfl,by omega⟩ | exact oneAll_of rfl | exact ⟨rfl,oneAll_of rfl⟩ | exact Ref.refl _ | exact Thin.ref (.skip (Thin.refl _)) | exact Thin.ref (.skip (.skip (Thin.refl _))) | exact ⟨rfl,Nat.le_of_ble_eq_true rfl⟩ | ((try unfold maxLen); (try simp only [List.length_nil,List.length_cons,List.length_append]); omega) | (refine ⟨rfl,?_⟩; (try simp only [List.length_nil,List.length_cons,List.length_append]); omega)) ?_ | intro _)); (all_goals (conv => whnf))
    all_goals first | (exfalso; omega) | exact ⟨rfl⟩
  by_cases hs : Sml x
  case neg =>
    have c1 := fun w' h => calls_small (w := w') x h false ⟨fun h => Bool.noConfusion h,fun h => absurd h hs⟩
    obtain ⟨m,H,ha,hc,back⟩ := x
    dsimp only [IA.v,IA.cells] at *
    (repeat' ((conv => whnf); first | (first | refine CallK_pure (.v _) (fun w hR => c0 w) ?_ | refine QCall_pure (.v _) (fun w hR => c0 w) ?_) | (refine CallK_pure (.v _) (fun w' hR => c1 w' (hx.cast hR)) ?_) | (refine QCall_pure (.v _) (fun w' hR => c1 w' (hx.cast hR)) ?_) | (refine bcase_prop (fun h => ?_) (fun h => ?_) <;> try (exfalso; omega)) | (refine bcase_nprop (fun h => ?_) (fun h => ?_) <;> try (exfalso; omega)) | (refine bcase_intro (fun h => ?_) (fun h => ?_) <;> (try simp only [Bool.not_eq_true',Bool.not_eq_false',decide_eq_true_eq,decide_eq_false_iff_not,Bool.not_eq_true,Bool.not_eq_false,Decidable.not_not] at h)) | refine And.intro (by first | omega | exact rfl | assumption | exact ⟨rfl,rfl,rfl,rfl,rfl⟩ | exact ⟨rfl,rfl,rfl,rfl⟩ | exact ⟨rfl,by omega⟩ | exact oneAll_of rfl | exact ⟨rfl,oneAll_of rfl⟩ | exact Ref.refl _ | exact Thin.ref (.skip (Thin.refl _)) | exact Thin.ref (.skip (.skip (Thin.refl _))) | exact ⟨rfl,Nat.le_of_ble_eq_true rfl⟩ | ((try unfold maxLen); (try simp only [List.length_nil,List.length_cons,List.length_append]); omega) | (refine ⟨rfl,?_⟩; (try simp only [List.length_nil,List.length_cons,List.length_append]); omega)) ?_ | intro _)); (all_goals (conv => whnf))
    all_goals first | (exfalso; omega) | exact ⟨rfl⟩
  have c1 := fun w' h => calls_small (w := w') x h true ⟨fun _ => hs,fun _ => rfl⟩
  have c2 := fun w' h1 h2 => calls_begun33 x hs (allD (gS g)) g hg (by omega) 0 (by decide) a c w' h1 h2
  have hw0 := gS_wf hg (by omega)
  have hE := gE_len hg (by omega)
  have hT := fun D => hs.ok D
  have hM := (hT (allD (gS g))).m
  have hpos := hM.pos
  have h40 := hs.1
  have hNl : x.m.m.nx.length = x.m.nr.length := List.length_map ..
  unfold beg33Q at c2
  generalize gId g 0 = id at *
  have hLM : LM = 1152921504606846976 := rfl
  obtain ⟨s,hs2⟩ : ∃ s,umd q x.m.nr.length = s := ⟨_,rfl⟩
  have s1 := umd_lt q (L := x.m.nr.length) (by dsimp only at hpos; omega)
  have s2 := umd_eq q (L := x.m.nr.length) (by dsimp only at hpos; omega)
  rw [hs2] at s1 s2
  have sN : s < x.m.m.nx.length := by omega
  have r4 : q % 18446744073709551616 % ((x.m.nr.length : Int) % 18446744073709551616) = (s : Int) := by
    rw [show (x.m.nr.length : Int) % 18446744073709551616 = (x.m.nr.length : Int) by omega]; exact s2
  clear s2
  have cS := fun bt bs => calls_TStore bt bs ⟨x.m.m,x.H,x.back,allD (gS g)⟩ (gS g).E
  have c7 := calls_Is 2 2 (by decide)
  -- what the calls of one round answer
  have round : ∀ (S S' : Sto) (n a b : Int),Two S S' n a b → ∀ bt bs,∃ (E1 E2 h1 h2 : Nat),
      XC fn_P_transfer_Table_End #[pS bt,.int .i64 (if x.back = true then b else a),.int .i64 s] bt bs ⟨x.m.m,x.H,x.back,allD S'⟩ S' (.tuple #[.int .i64 E1,.nilIface]) ∧
      XC fn_P_transfer_Table_End #[pS bt,.int .i64 (if x.back = true then a else b),.int .i64 E1] bt bs ⟨x.m.m,x.H,x.back,allD S'⟩ S' (.tuple #[.int .i64 E2,.nilIface]) ∧
      XC fn_P_transfer_Table_End #[pS bt,.int .i64 n,.int .i64 s] bt bs ⟨x.m.m,x.H,x.back,allD S'⟩ S' (.tuple #[.int .i64 E2,.nilIface]) ∧
      XC fn_P_transfer_Table_Hits #[pS bt,.int .i64 (if x.back = true then b else a),.int .i64 s] bt bs ⟨x.m.m,x.H,x.back,allD S'⟩ S' (if h1 ≤ LM then .tuple #[.int .i64 h1,.nilIface] else .tuple #[.int .i64 0,errV 2]) ∧
      XC fn_P_transfer_Table_Hits #[pS bt,.int .i64 (if x.back = true then a else b),.int .i64 E1] bt bs ⟨x.m.m,x.H,x.back,allD S'⟩ S' (if h2 ≤ LM then .tuple #[.int .i64 h2,.nilIface] else .tuple #[.int .i64 0,errV 2]) ∧
      XC fn_P_transfer_Table_Hits #[pS bt,.int .i64 n,.int .i64 s] bt bs ⟨x.m.m,x.H,x.back,allD S'⟩ S' (if h1 + h2 ≤ LM then .tuple #[.int .i64 ((h1 : Int) + (h2 : Int)),.nilIface] else .tuple #[.int .i64 0,errV 2]) := by
    intro S S' n a b h bt bs
    have cE := fun n q => calls_TEnd bt bs _ (hT (allD S')) S' h.wf (allD_clo h.wf) n q allD_known
    have cH := fun n q => calls_THits bt bs _ (hT (allD S')) S' h.wf (allD_clo h.wf) n q allD_known
    have eE : ∀ (n : Int) (q : Nat),known S' n → q < x.m.m.nx.length → endV ⟨x.m.m,x.H,x.back,allD S'⟩ S' n q = .tuple #[.int .i64 (runE x.m.m q (ori x.back (tm S'.E n).txt)),.nilIface] := fun n q hk hq => by
      unfold endV
      rw [if_pos ⟨hk,by omega,by show (q : Int) < x.m.m.nx.length; omega⟩,Int.toNat_natCast]
    have eH : ∀ (n : Int) (q : Nat),known S' n → q < x.m.m.nx.length → hitV ⟨x.m.m,x.H,x.back,allD S'⟩ S' n q = if runH x.m.m x.H q (ori x.back (tm S'.E n).txt) ≤ LM then .tuple #[.int .i64 (runH x.m.m x.H q (ori x.back (tm S'.E n).txt)),.nilIface] else .tuple #[.int .i64 0,errV 2] := fun n q hk hq => by
      unfold hitV
      rw [if_pos ⟨hk,by omega,by show (q : Int) < x.m.m.nx.length; omega⟩,Int.toNat_natCast]
    have e := ori_append x.back (tm S'.E a).txt (tm S'.E b).txt
    rw [← h.txt] at e
    have by1 : ∀ n,known S' n → ∀ c ∈ ori x.back (tm S'.E n).txt,c < 256 := fun n hk c hc => h.wf.byt _ _ (Nat.le_refl _) hk.2 c ((ori_mem _).1 hc)
    obtain ⟨f,l,hf,hlx,hfl,kf,kl⟩ : ∃ f l : Int,(if x.back = true then b else a) = f ∧ (if x.back = true then a else b) = l ∧ ori x.back (tm S'.E n).txt = ori x.back (tm S'.E f).txt ++ ori x.back (tm S'.E l).txt ∧ known S' f ∧ known S' l := by
      cases hb : x.back
      · rw [hb,if_neg (by decide)] at e
        exact ⟨a,b,if_neg (by decide),if_neg (by decide),e,h.ka,h.kb⟩
      · rw [hb,if_pos rfl] at e
        exact ⟨b,a,if_pos rfl,if_pos rfl,e,h.kb,h.ka⟩
    rw [hf,hlx]
    have t1 := runE_lt hM (q := s) (by1 f kf) sN
    refine ⟨runE x.m.m s (ori x.back (tm S'.E f).txt),runE x.m.m (runE x.m.m s (ori x.back (tm S'.E f).txt)) (ori x.back (tm S'.E l).txt),runH x.m.m x.H s (ori x.back (tm S'.E f).txt),runH x.m.m x.H (runE x.m.m s (ori x.back (tm S'.E f).txt)) (ori x.back (tm S'.E l).txt),?_,?_,?_,?_,?_,?_⟩
    · have := cE f s; rw [eE f s kf sN] at this; exact this
    · have := cE l (runE x.m.m s (ori x.back (tm S'.E f).txt)); rw [eE l _ kl t1] at this; exact this
    · have := cE n s; rw [eE n s h.kn sN,hfl,runE_append] at this; exact this
    · have := cH f s; rw [eH f s kf sN] at this; exact this
    · have := cH l (runE x.m.m s (ori x.back (tm S'.E f).txt)); rw [eH l _ kl t1] at this; exact this
    · have := cH n s; rw [eH n s h.kn sN,hfl,runH_append] at this
      rw [show (((runH x.m.m x.H s (ori x.back (tm S'.E f).txt) : Nat) : Int) + ((runH x.m.m x.H (runE x.m.m s (ori x.back (tm S'.E f).txt)) (ori x.back (tm S'.E l).txt) : Nat) : Int)) = ((runH x.m.m x.H s (ori x.back (tm S'.E f).txt) + runH x.m.m x.H (runE x.m.m s (ori x.back (tm S'.E f).txt)) (ori x.back (tm S'.E l).txt) : Nat) : Int) by omega]
      exact this
  have hxi := hx
  clear hs hT hM hpos
  obtain ⟨m,H,ha,hc,back⟩ := x
  dsimp only [IA.v,IA.cells] at *
  (repeat' ((conv => whnf); first | rw [r4] | (first | refine CallK_pure (.v _) (fun w hR => c0 w) ?_ | refine QCall_pure (.v _) (fun w hR => c0 w) ?_) | (refine CallK_pure (.v _) (fun w' hR => c1 w' (hxi.cast hR)) ?_) | (refine QCall_pure (.v _) (fun w' hR => c1 w' (hxi.cast hR)) ?_) | ((refine CallK_new (fun w' hR => c2 w' (hxi.cast hR) (hin.cast hR (by simp))) ?_); rintro _ _ ⟨bt,b,a1,k1,a2,k2,f1,f2,rfl,rfl⟩; refine ⟨.v _,rfl,?_⟩) | (refine CallK_pack (key := 78) rfl (fun w hR h0 => cS _ _ _ _ _ h0) ?_; rintro _ _ ⟨rfl,fp',rfl⟩; refine ⟨.v _,rfl,?_⟩) | refine ⟨_,⟨rfl,trivial⟩,?_⟩ | (refine bcase_prop (fun h => ?_) (fun h => ?_) <;> try (exfalso; omega)) | (refine bcase_nprop (fun h => ?_) (fun h => ?_) <;> try (exfalso; omega)) | (refine bcase_intro (fun h => ?_) (fun h => ?_) <;> (try simp only [Bool.not_eq_true',Bool.not_eq_false',decide_eq_true_eq,decide_eq_false_iff_not,Bool.not_eq_true,Bool.not_eq_false,Decidable.not_not] at h)) | refine And.intro (by first | omega | exact rfl | assumption | exact ⟨rfl,rfl,rfl,rfl,rfl⟩ | exact ⟨rfl,rfl,rfl,rfl⟩ | exact ⟨rfl,by omega⟩ | exact oneAll_of rfl | exact ⟨rfl,oneAll_of rfl⟩ | exact Ref.refl _ | exact Thin.ref (.skip (Thin.refl _)) | exact Thin.ref (.skip (.skip (Thin.refl _))) | exact ⟨rfl,Nat.le_of_ble_eq_true rfl⟩ | ((try unfold maxLen); (try simp only [List.length_nil,List.length_cons,List.length_append]); omega) | (refine ⟨rfl,?_⟩; (try simp only [List.length_nil,List.length_cons,List.length_append]); omega)) ?_ | intro _)); (all_goals (conv => whnf))
  all_goals first | (exfalso; omega) | skip
  rename_i b3 b8
  refine VC_loop RuG (fun z => [(2,.v (.int .i64 s)),(3,.ptr 3 b3 0),(7,.v (pS bt)),(11,.v (pS b)),(60,.sl 801 a1 (gE g).length k1),(61,.v (.int .i64 (gE g).length)),(62,.v (.int .i64 z.i))])
    (fun z => [packE 78 z.f1 (fX bt b ⟨m.m,H,back,allD z.S⟩ z.S.E),packE 77 z.f2 (fS b z.S),.own 801 a1 (gE g).length k1 ty_api_Rule 5 (ruE (gE g)),.box 3 b3 [.int .i64 m.start,.slice m.ca m.cls.length m.cc,.slice m.na m.nr.length m.nc,.slice m.aa m.acc.length m.ac,.slice ha H.length hc,.bool back] ty_evergreenlaw33_In])
    (RuI g) (fun z => (gE g).length - z.i) ⟨0,gS g,fp',f2⟩ ⟨Nat.zero_le _,hw0,Grow.refl _,Nat.le_refl _⟩ (by (repeat ((conv => whnf); refine And.intro (by first | exact rfl | exact vint_eq (by omega) | exact vint_eq (by (dsimp only; omega)) | exact vsl_eq (by omega) | exact vsl_eq (by first | (dsimp only; omega) | (simp; done) | (simp; omega))) ?_)); exact trivial) (Ref.takes [78,77,801,3] rfl (.packE (.packE (.keep rfl (fun _ h => h) (.keep rfl (fun _ h => h) (.nil _)))))) ?_
  rintro ⟨i,S,g1',g2'⟩ ⟨hi,hw,hgrow,hlen⟩
  dsimp only at hi hw hgrow hlen ⊢
  by_cases hlt : i < (gE g).length
  case neg =>
    (repeat' ((conv => whnf); first | (refine bcase_prop (fun h => ?_) (fun h => ?_) <;> try (exfalso; omega)) | (refine bcase_nprop (fun h => ?_) (fun h => ?_) <;> try (exfalso; omega)) | (refine bcase_intro (fun h => ?_) (fun h => ?_) <;> (try simp only [Bool.not_eq_true',Bool.not_eq_false',decide_eq_true_eq,decide_eq_false_iff_not,Bool.not_eq_true,Bool.not_eq_false,Decidable.not_not] at h)) | refine And.intro (by first | omega | exact rfl | assumption | exact ⟨rfl,rfl,rfl,rfl,rfl⟩ | exact ⟨rfl,rfl,rfl,rfl⟩ | exact ⟨rfl,by omega⟩ | exact oneAll_of rfl | exact ⟨rfl,oneAll_of rfl⟩ | exact Ref.refl _ | exact Thin.ref (.skip (Thin.refl _)) | exact Thin.ref (.skip (.skip (Thin.refl _))) | exact ⟨rfl,Nat.le_of_ble_eq_true rfl⟩ | ((try unfold maxLen); (try simp only [List.length_nil,List.length_cons,List.length_append]); omega) | (refine ⟨rfl,?_⟩; (try simp only [List.length_nil,List.length_cons,List.length_append]); omega)) ?_ | intro _)); (all_goals (conv => whnf))
    all_goals first | (exfalso; omega) | exact ⟨rfl⟩
  have q0 : ((i : Nat) : Int).toNat = i := by omega
  have hgl := hgrow.len
  have n1 : (1 : Int) ≤ (i : Int) + 1 := by omega
  have n2 : (i : Int) + 1 ≤ S.E.length := by
    have : (gS g).E.length = (gE g).length := rfl
    omega
  have hat : (atE S.E ((i : Int) + 1)).r = ((gE g).getD i ent0).r := by
    obtain ⟨E',hE'⟩ := hgrow
    have hE2 : S.E = (gE g) ++ E' := by rw [hE']
    rw [hE2,atE_append (by omega),atE_succ]
  have hrow := ruE_at hlt
  rw [← hat] at hrow
  obtain ⟨ho,_⟩ := hw.at_ n1 n2
  have htm := hw.tim2 n1 n2
  have hmost : S.most = 1000 := hgrow.most
  have tp := two_pair hw n1 n2
  have tw := fun h => two_pow hw n1 n2 h (by omega)
  generalize (atE S.E ((i : Int) + 1)).r = r at *
  have hnx : ∀ {S' : Sto} {a b : Int},Two S S' ((i : Int) + 1) a b → ∀ f1 f2,RuI g ⟨i + 1,S',f1,f2⟩ := fun {S' a b} h f1 f2 =>
    ⟨hlt,h.wf,hgrow.trans h.grow,by have := h.len; show S'.E.length ≤ _ + 2 * (i + 1); omega⟩
  have hmu : (gE g).length - (i + 1) < (gE g).length - i := by omega
  by_cases k1' : r.k = 1
  · (repeat' ((conv => whnf); first | rw [q0] | rw [Int.toNat_natCast] | (first | refine CallK_pure (.v _) (fun w hR => c7 w) ?_ | refine QCall_pure (.v _) (fun w hR => c7 w) ?_) | refine ldRow hrow ?_ | refine ⟨_,⟨rfl,trivial⟩,?_⟩ | (refine bcase_prop (fun h => ?_) (fun h => ?_) <;> try (exfalso; omega)) | (refine bcase_nprop (fun h => ?_) (fun h => ?_) <;> try (exfalso; omega)) | (refine bcase_intro (fun h => ?_) (fun h => ?_) <;> (try simp only [Bool.not_eq_true',Bool.not_eq_false',decide_eq_true_eq,decide_eq_false_iff_not,Bool.not_eq_true,Bool.not_eq_false,Decidable.not_not] at h)) | refine And.intro (by first | omega | exact rfl | assumption | exact ⟨rfl,rfl,rfl,rfl,rfl⟩ | exact ⟨rfl,rfl,rfl,rfl⟩ | exact ⟨rfl,by omega⟩ | exact oneAll_of rfl | exact ⟨rfl,oneAll_of rfl⟩ | exact Ref.refl _ | exact Thin.ref (.skip (Thin.refl _)) | exact Thin.ref (.skip (.skip (Thin.refl _))) | exact ⟨rfl,Nat.le_of_ble_eq_true rfl⟩ | ((try unfold maxLen); (try simp only [List.length_nil,List.length_cons,List.length_append]); omega) | (refine ⟨rfl,?_⟩; (try simp only [List.length_nil,List.length_cons,List.length_append]); omega)) ?_ | intro _)); (all_goals (conv => whnf))
    all_goals first | (exfalso; omega) | skip
    all_goals exact loop_next ⟨i + 1,S,g1',g2'⟩ ⟨hlt,hw,hgrow,by show S.E.length ≤ _ + 2 * (i + 1); omega⟩ hmu (by (repeat ((conv => whnf); refine And.intro (by first | exact rfl | exact vint_eq (by omega) | exact vint_eq (by (dsimp only; omega)) | exact vsl_eq (by omega) | exact vsl_eq (by first | (dsimp only; omega) | (simp; done) | (simp; omega))) ?_)); exact trivial) (Ref.takes [78,77,801,3] rfl (.packE (.packE (.keep rfl (fun _ h => h) (.keep rfl (fun _ h => h) (.nil _))))))
  by_cases k2' : r.k = 2
  · have two := tp k2'
    obtain ⟨E1,E2,h1,h2,d1,d2,d3,d4,d5,d6⟩ := round S S ((i : Int) + 1) r.a r.b two bt b
    clear round tw tp cS c1 c2
    cases back <;> simp only [reduceIte,Bool.false_eq_true] at d1 d2 d4 d5
    · (repeat' ((conv => whnf); first | rw [q0] | rw [Int.toNat_natCast] | refine ldRow hrow ?_ | refine ⟨_,⟨rfl,trivial⟩,?_⟩ | (refine CallK_pack2 (key1 := 78) (key2 := 77) rfl rfl (fun w hR h0 => d1 _ _ _ _ _ h0) ?_; rintro _ _ ⟨rfl,fp1',fp2',rfl⟩; refine ⟨.v _,rfl,?_⟩) | (refine CallK_pack2 (key1 := 78) (key2 := 77) rfl rfl (fun w hR h0 => d2 _ _ _ _ _ h0) ?_; rintro _ _ ⟨rfl,fp1',fp2',rfl⟩; refine ⟨.v _,rfl,?_⟩) | (refine CallK_pack2 (key1 := 78) (key2 := 77) rfl rfl (fun w hR h0 => d3 _ _ _ _ _ h0) ?_; rintro _ _ ⟨rfl,fp1',fp2',rfl⟩; refine ⟨.v _,rfl,?_⟩) | (refine bcase_prop (fun h => ?_) (fun h => ?_) <;> try (exfalso; omega)) | (refine bcase_nprop (fun h => ?_) (fun h => ?_) <;> try (exfalso; omega)) | (refine bcase_intro (fun h => ?_) (fun h => ?_) <;> (try simp only [Bool.not_eq_true',Bool.not_eq_false',decide_eq_true_eq,decide_eq_false_iff_not,Bool.not_eq_true,Bool.not_eq_false,Decidable.not_not] at h)) | refine And.intro (by first | omega | exact rfl | assumption | exact ⟨rfl,rfl,rfl,rfl,rfl⟩ | exact ⟨rfl,rfl,rfl,rfl⟩ | exact ⟨rfl,by omega⟩ | exact oneAll_of rfl | exact ⟨rfl,oneAll_of rfl⟩ | exact Ref.refl _ | exact Thin.ref (.skip (Thin.refl _)) | exact Thin.ref (.skip (.skip (Thin.refl _))) | exact ⟨by omega,by omega,by omega⟩ | exact ⟨rfl,Nat.le_of_ble_eq_true rfl⟩ | ((try unfold maxLen); (try simp only [List.length_nil,List.length_cons,List.length_append]); omega) | (refine ⟨rfl,?_⟩; (try simp only [List.length_nil,List.length_cons,List.length_append]); omega)) ?_ | intro _)); (all_goals (conv => whnf))
      all_goals first | (exfalso; omega) | skip
      refine VC_cut RuG (fun z => [(2,.v (.int .i64 s)),(3,.ptr 3 b3 0),(7,.v (pS bt)),(11,.v (pS b)),(12,.v (.int .i64 i)),(14,.v (.int .i64 r.a)),(15,.v (.int .i64 r.b)),(16,.v (.int .i64 E1)),(60,.sl 801 a1 (gE g).length k1),(61,.v (.int .i64 (gE g).length)),(62,.v (.int .i64 i))]) (fun z => [packE 78 z.f1 (fX bt b ⟨m.m,H,false,allD S⟩ S.E),packE 77 z.f2 (fS b S),.own 801 a1 (gE g).length k1 ty_api_Rule 5 (ruE (gE g)),.box 3 b3 [.int .i64 m.start,.slice m.ca m.cls.length m.cc,.slice m.na m.nr.length m.nc,.slice m.aa m.acc.length m.ac,.slice ha H.length hc,.bool false] ty_evergreenlaw33_In]) (fun _ => True) ?_ ?_
      · (repeat' ((conv => whnf); first | refine ⟨_,⟨rfl,trivial⟩,?_⟩ | (refine bcase_prop (fun h => ?_) (fun h => ?_) <;> try (exfalso; omega)) | (refine bcase_nprop (fun h => ?_) (fun h => ?_) <;> try (exfalso; omega)) | (refine bcase_intro (fun h => ?_) (fun h => ?_) <;> (try simp only [Bool.not_eq_true',Bool.not_eq_false',decide_eq_true_eq,decide_eq_false_iff_not,Bool.not_eq_true,Bool.not_eq_false,Decidable.not_not] at h)) | refine And.intro (by first | omega | exact rfl | assumption | exact ⟨rfl,rfl,rfl,rfl,rfl⟩ | exact ⟨rfl,rfl,rfl,rfl⟩ | exact ⟨rfl,by omega⟩ | exact oneAll_of rfl | exact ⟨rfl,oneAll_of rfl⟩ | exact Ref.refl _ | exact Thin.ref (.skip (Thin.refl _)) | exact Thin.ref (.skip (.skip (Thin.refl _))) | exact ⟨by omega,by omega,by omega⟩ | exact ⟨rfl,Nat.le_of_ble_eq_true rfl⟩ | ((try unfold maxLen); (try simp only [List.length_nil,List.length_cons,List.length_append]); omega) | (refine ⟨rfl,?_⟩; (try simp only [List.length_nil,List.length_cons,List.length_append]); omega)) ?_ | intro _)); (all_goals (conv => whnf))
        all_goals first | (exfalso; omega) | skip
        all_goals exact cut_next ⟨i,S,_,_⟩ trivial (by (repeat ((conv => whnf); refine And.intro (by first | exact rfl | exact vint_eq (by omega) | exact vint_eq (by (dsimp only; omega)) | exact vsl_eq (by omega) | exact vsl_eq (by first | (dsimp only; omega) | (simp; done) | (simp; omega))) ?_)); exact trivial) (Ref.takes [78,77,801,3] rfl (.packE (.packE (.keep rfl (fun _ h => h) (.keep rfl (fun _ h => h) (.nil _))))))
      · rintro ⟨_,_,y1,y2⟩ -
        dsimp only
        by_cases g1 : h1 ≤ LM
        case neg =>
          rw [if_neg g1] at d4
          rw [if_neg (by omega)] at d6
          by_cases g2 : h2 ≤ LM
          · rw [if_pos g2] at d5
            (repeat' ((conv => whnf); first | (first | refine CallK_pure (.v _) (fun w hR => c7 w) ?_ | refine QCall_pure (.v _) (fun w hR => c7 w) ?_) | refine ⟨_,⟨rfl,trivial⟩,?_⟩ | (refine CallK_pack2 (key1 := 78) (key2 := 77) rfl rfl (fun w hR h0 => d4 _ _ _ _ _ h0) ?_; rintro _ _ ⟨rfl,fp1',fp2',rfl⟩; refine ⟨.v _,rfl,?_⟩) | (refine CallK_pack2 (key1 := 78) (key2 := 77) rfl rfl (fun w hR h0 => d5 _ _ _ _ _ h0) ?_; rintro _ _ ⟨rfl,fp1',fp2',rfl⟩; refine ⟨.v _,rfl,?_⟩) | (refine CallK_pack2 (key1 := 78) (key2 := 77) rfl rfl (fun w hR h0 => d6 _ _ _ _ _ h0) ?_; rintro _ _ ⟨rfl,fp1',fp2',rfl⟩; refine ⟨.v _,rfl,?_⟩) | (refine bcase_prop (fun h => ?_) (fun h => ?_) <;> try (exfalso; omega)) | (refine bcase_nprop (fun h => ?_) (fun h => ?_) <;> try (exfalso; omega)) | (refine bcase_intro (fun h => ?_) (fun h => ?_) <;> (try simp only [Bool.not_eq_true',Bool.not_eq_false',decide_eq_true_eq,decide_eq_false_iff_not,Bool.not_eq_true,Bool.not_eq_false,Decidable.not_not] at h)) | refine And.intro (by first | omega | exact rfl | assumption | exact ⟨rfl,rfl,rfl,rfl,rfl⟩ | exact ⟨rfl,rfl,rfl,rfl⟩ | exact ⟨rfl,by omega⟩ | exact oneAll_of rfl | exact ⟨rfl,oneAll_of rfl⟩ | exact Ref.refl _ | exact Thin.ref (.skip (Thin.refl _)) | exact Thin.ref (.skip (.skip (Thin.refl _))) | exact ⟨by omega,by omega,by omega⟩ | exact ⟨rfl,Nat.le_of_ble_eq_true rfl⟩ | ((try unfold maxLen); (try simp only [List.length_nil,List.length_cons,List.length_append]); omega) | (refine ⟨rfl,?_⟩; (try simp only [List.length_nil,List.length_cons,List.length_append]); omega)) ?_ | intro _)); (all_goals (conv => whnf))
            all_goals first | (exfalso; omega) | skip
            all_goals exact loop_next ⟨i + 1,S,fp1',fp2'⟩ (hnx two _ _) hmu (by (repeat ((conv => whnf); refine And.intro (by first | exact rfl | exact vint_eq (by omega) | exact vint_eq (by (dsimp only; omega)) | exact vsl_eq (by omega) | exact vsl_eq (by first | (dsimp only; omega) | (simp; done) | (simp; omega))) ?_)); exact trivial) (Ref.takes [78,77,801,3] rfl (.packE (.packE (.keep rfl (fun _ h => h) (.keep rfl (fun _ h => h) (.nil _))))))
          · rw [if_neg g2] at d5
            (repeat' ((conv => whnf); first | (first | refine CallK_pure (.v _) (fun w hR => c7 w) ?_ | refine QCall_pure (.v _) (fun w hR => c7 w) ?_) | refine ⟨_,⟨rfl,trivial⟩,?_⟩ | (refine CallK_pack2 (key1 := 78) (key2 := 77) rfl rfl (fun w hR h0 => d4 _ _ _ _ _ h0) ?_; rintro _ _ ⟨rfl,fp1',fp2',rfl⟩; refine ⟨.v _,rfl,?_⟩) | (refine CallK_pack2 (key1 := 78) (key2 := 77) rfl rfl (fun w hR h0 => d5 _ _ _ _ _ h0) ?_; rintro _ _ ⟨rfl,fp1',fp2',rfl⟩; refine ⟨.v _,rfl,?_⟩) | (refine CallK_pack2 (key1 := 78) (key2 := 77) rfl rfl (fun w hR h0 => d6 _ _ _ _ _ h0) ?_; rintro _ _ ⟨rfl,fp1',fp2',rfl⟩; refine ⟨.v _,rfl,?_⟩) | (refine bcase_prop (fun h => ?_) (fun h => ?_) <;> try (exfalso; omega)) | (refine bcase_nprop (fun h => ?_) (fun h => ?_) <;> try (exfalso; omega)) | (refine bcase_intro (fun h => ?_) (fun h => ?_) <;> (try simp only [Bool.not_eq_true',Bool.not_eq_false',decide_eq_true_eq,decide_eq_false_iff_not,Bool.not_eq_true,Bool.not_eq_false,Decidable.not_not] at h)) | refine And.intro (by first | omega | exact rfl | assumption | exact ⟨rfl,rfl,rfl,rfl,rfl⟩ | exact ⟨rfl,rfl,rfl,rfl⟩ | exact ⟨rfl,by omega⟩ | exact oneAll_of rfl | exact ⟨rfl,oneAll_of rfl⟩ | exact Ref.refl _ | exact Thin.ref (.skip (Thin.refl _)) | exact Thin.ref (.skip (.skip (Thin.refl _))) | exact ⟨by omega,by omega,by omega⟩ | exact ⟨rfl,Nat.le_of_ble_eq_true rfl⟩ | ((try unfold maxLen); (try simp only [List.length_nil,List.length_cons,List.length_append]); omega) | (refine ⟨rfl,?_⟩; (try simp only [List.length_nil,List.length_cons,List.length_append]); omega)) ?_ | intro _)); (all_goals (conv => whnf))
            all_goals first | (exfalso; omega) | skip
            all_goals exact loop_next ⟨i + 1,S,fp1',fp2'⟩ (hnx two _ _) hmu (by (repeat ((conv => whnf); refine And.intro (by first | exact rfl | exact vint_eq (by omega) | exact vint_eq (by (dsimp only; omega)) | exact vsl_eq (by omega) | exact vsl_eq (by first | (dsimp only; omega) | (simp; done) | (simp; omega))) ?_)); exact trivial) (Ref.takes [78,77,801,3] rfl (.packE (.packE (.keep rfl (fun _ h => h) (.keep rfl (fun _ h => h) (.nil _))))))
        rw [if_pos g1] at d4
        by_cases g2 : h2 ≤ LM
        case neg =>
          rw [if_neg g2] at d5
          rw [if_neg (by omega)] at d6
          (repeat' ((conv => whnf); first | (first | refine CallK_pure (.v _) (fun w hR => c7 w) ?_ | refine QCall_pure (.v _) (fun w hR => c7 w) ?_) | refine ⟨_,⟨rfl,trivial⟩,?_⟩ | (refine CallK_pack2 (key1 := 78) (key2 := 77) rfl rfl (fun w hR h0 => d4 _ _ _ _ _ h0) ?_; rintro _ _ ⟨rfl,fp1',fp2',rfl⟩; refine ⟨.v _,rfl,?_⟩) | (refine CallK_pack2 (key1 := 78) (key2 := 77) rfl rfl (fun w hR h0 => d5 _ _ _ _ _ h0) ?_; rintro _ _ ⟨rfl,fp1',fp2',rfl⟩; refine ⟨.v _,rfl,?_⟩) | (refine CallK_pack2 (key1 := 78) (key2 := 77) rfl rfl (fun w hR h0 => d6 _ _ _ _ _ h0) ?_; rintro _ _ ⟨rfl,fp1',fp2',rfl⟩; refine ⟨.v _,rfl,?_⟩) | (refine bcase_prop (fun h => ?_) (fun h => ?_) <;> try (exfalso; omega)) | (refine bcase_nprop (fun h => ?_) (fun h => ?_) <;> try (exfalso; omega)) | (refine bcase_intro (fun h => ?_) (fun h => ?_) <;> (try simp only [Bool.not_eq_true',Bool.not_eq_false',decide_eq_true_eq,decide_eq_false_iff_not,Bool.not_eq_true,Bool.not_eq_false,Decidable.not_not] at h)) | refine And.intro (by first | omega | exact rfl | assumption | exact ⟨rfl,rfl,rfl,rfl,rfl⟩ | exact ⟨rfl,rfl,rfl,rfl⟩ | exact ⟨rfl,by omega⟩ | exact oneAll_of rfl | exact ⟨rfl,oneAll_of rfl⟩ | exact Ref.refl _ | exact Thin.ref (.skip (Thin.refl _)) | exact Thin.ref (.skip (.skip (Thin.refl _))) | exact ⟨by omega,by omega,by omega⟩ | exact ⟨rfl,Nat.le_of_ble_eq_true rfl⟩ | ((try unfold maxLen); (try simp only [List.length_nil,List.length_cons,List.length_append]); omega) | (refine ⟨rfl,?_⟩; (try simp only [List.length_nil,List.length_cons,List.length_append]); omega)) ?_ | intro _)); (all_goals (conv => whnf))
          all_goals first | (exfalso; omega) | skip
          all_goals exact loop_next ⟨i + 1,S,fp1',fp2'⟩ (hnx two _ _) hmu (by (repeat ((conv => whnf); refine And.intro (by first | exact rfl | exact vint_eq (by omega) | exact vint_eq (by (dsimp only; omega)) | exact vsl_eq (by omega) | exact vsl_eq (by first | (dsimp only; omega) | (simp; done) | (simp; omega))) ?_)); exact trivial) (Ref.takes [78,77,801,3] rfl (.packE (.packE (.keep rfl (fun _ h => h) (.keep rfl (fun _ h => h) (.nil _))))))
        rw [if_pos g2] at d5
        by_cases g3 : h1 + h2 ≤ LM
        · rw [if_pos g3] at d6
          (repeat' ((conv => whnf); first | (first | refine CallK_pure (.v _) (fun w hR => c7 w) ?_ | refine QCall_pure (.v _) (fun w hR => c7 w) ?_) | refine ⟨_,⟨rfl,trivial⟩,?_⟩ | (refine CallK_pack2 (key1 := 78) (key2 := 77) rfl rfl (fun w hR h0 => d4 _ _ _ _ _ h0) ?_; rintro _ _ ⟨rfl,fp1',fp2',rfl⟩; refine ⟨.v _,rfl,?_⟩) | (refine CallK_pack2 (key1 := 78) (key2 := 77) rfl rfl (fun w hR h0 => d5 _ _ _ _ _ h0) ?_; rintro _ _ ⟨rfl,fp1',fp2',rfl⟩; refine ⟨.v _,rfl,?_⟩) | (refine CallK_pack2 (key1 := 78) (key2 := 77) rfl rfl (fun w hR h0 => d6 _ _ _ _ _ h0) ?_; rintro _ _ ⟨rfl,fp1',fp2',rfl⟩; refine ⟨.v _,rfl,?_⟩) | (refine bcase_prop (fun h => ?_) (fun h => ?_) <;> try (exfalso; omega)) | (refine bcase_nprop (fun h => ?_) (fun h => ?_) <;> try (exfalso; omega)) | (refine bcase_intro (fun h => ?_) (fun h => ?_) <;> (try simp only [Bool.not_eq_true',Bool.not_eq_false',decide_eq_true_eq,decide_eq_false_iff_not,Bool.not_eq_true,Bool.not_eq_false,Decidable.not_not] at h)) | refine And.intro (by first | omega | exact rfl | assumption | exact ⟨rfl,rfl,rfl,rfl,rfl⟩ | exact ⟨rfl,rfl,rfl,rfl⟩ | exact ⟨rfl,by omega⟩ | exact oneAll_of rfl | exact ⟨rfl,oneAll_of rfl⟩ | exact Ref.refl _ | exact Thin.ref (.skip (Thin.refl _)) | exact Thin.ref (.skip (.skip (Thin.refl _))) | exact ⟨by omega,by omega,by omega⟩ | exact ⟨rfl,Nat.le_of_ble_eq_true rfl⟩ | ((try unfold maxLen); (try simp only [List.length_nil,List.length_cons,List.length_append]); omega) | (refine ⟨rfl,?_⟩; (try simp only [List.length_nil,List.length_cons,List.length_append]); omega)) ?_ | intro _)); (all_goals (conv => whnf))
          all_goals first | (exfalso; omega) | skip
          all_goals exact loop_next ⟨i + 1,S,fp1',fp2'⟩ (hnx two _ _) hmu (by (repeat ((conv => whnf); refine And.intro (by first | exact rfl | exact vint_eq (by omega) | exact vint_eq (by (dsimp only; omega)) | exact vsl_eq (by omega) | exact vsl_eq (by first | (dsimp only; omega) | (simp; done) | (simp; omega))) ?_)); exact trivial) (Ref.takes [78,77,801,3] rfl (.packE (.packE (.keep rfl (fun _ h => h) (.keep rfl (fun _ h => h) (.nil _))))))
        · rw [if_neg g3] at d6
          (repeat' ((conv => whnf); first | (first | refine CallK_pure (.v _) (fun w hR => c7 w) ?_ | refine QCall_pure (.v _) (fun w hR => c7 w) ?_) | refine ⟨_,⟨rfl,trivial⟩,?_⟩ | (refine CallK_pack2 (key1 := 78) (key2 := 77) rfl rfl (fun w hR h0 => d4 _ _ _ _ _ h0) ?_; rintro _ _ ⟨rfl,fp1',fp2',rfl⟩; refine ⟨.v _,rfl,?_⟩) | (refine CallK_pack2 (key1 := 78) (key2 := 77) rfl rfl (fun w hR h0 => d5 _ _ _ _ _ h0) ?_; rintro _ _ ⟨rfl,fp1',fp2',rfl⟩; refine ⟨.v _,rfl,?_⟩) | (refine CallK_pack2 (key1 := 78) (key2 := 77) rfl rfl (fun w hR h0 => d6 _ _ _ _ _ h0) ?_; rintro _ _ ⟨rfl,fp1',fp2',rfl⟩; refine ⟨.v _,rfl,?_⟩) | (refine bcase_prop (fun h => ?_) (fun h => ?_) <;> try (exfalso; omega)) | (refine bcase_nprop (fun h => ?_) (fun h => ?_) <;> try (exfalso; omega)) | (refine bcase_intro (fun h => ?_) (fun h => ?_) <;> (try simp only [Bool.not_eq_true',Bool.not_eq_false',decide_eq_true_eq,decide_eq_false_iff_not,Bool.not_eq_true,Bool.not_eq_false,Decidable.not_not] at h)) | refine And.intro (by first | omega | exact rfl | assumption | exact ⟨rfl,rfl,rfl,rfl,rfl⟩ | exact ⟨rfl,rfl,rfl,rfl⟩ | exact ⟨rfl,by omega⟩ | exact oneAll_of rfl | exact ⟨rfl,oneAll_of rfl⟩ | exact Ref.refl _ | exact Thin.ref (.skip (Thin.refl _)) | exact Thin.ref (.skip (.skip (Thin.refl _))) | exact ⟨by omega,by omega,by omega⟩ | exact ⟨rfl,Nat.le_of_ble_eq_true rfl⟩ | ((try unfold maxLen); (try simp only [List.length_nil,List.length_cons,List.length_append]); omega) | (refine ⟨rfl,?_⟩; (try simp only [List.length_nil,List.length_cons,List.length_append]); omega)) ?_ | intro _)); (all_goals (conv => whnf))
          all_goals first | (exfalso; omega) | skip
          all_goals exact loop_next ⟨i + 1,S,fp1',fp2'⟩ (hnx two _ _) hmu (by (repeat ((conv => whnf); refine And.intro (by first | exact rfl | exact vint_eq (by omega) | exact vint_eq (by (dsimp only; omega)) | exact vsl_eq (by omega) | exact vsl_eq (by first | (dsimp only; omega) | (simp; done) | (simp; omega))) ?_)); exact trivial) (Ref.takes [78,77,801,3] rfl (.packE (.packE (.keep rfl (fun _ h => h) (.keep rfl (fun _ h => h) (.nil _))))))
    · (repeat' ((conv => whnf); first | rw [q0] | rw [Int.toNat_natCast] | refine ldRow hrow ?_ | refine ⟨_,⟨rfl,trivial⟩,?_⟩ | (refine CallK_pack2 (key1 := 78) (key2 := 77) rfl rfl (fun w hR h0 => d1 _ _ _ _ _ h0) ?_; rintro _ _ ⟨rfl,fp1',fp2',rfl⟩; refine ⟨.v _,rfl,?_⟩) | (refine CallK_pack2 (key1 := 78) (key2 := 77) rfl rfl (fun w hR h0 => d2 _ _ _ _ _ h0) ?_; rintro _ _ ⟨rfl,fp1',fp2',rfl⟩; refine ⟨.v _,rfl,?_⟩) | (refine CallK_pack2 (key1 := 78) (key2 := 77) rfl rfl (fun w hR h0 => d3 _ _ _ _ _ h0) ?_; rintro _ _ ⟨rfl,fp1',fp2',rfl⟩; refine ⟨.v _,rfl,?_⟩) | (refine bcase_prop (fun h => ?_) (fun h => ?_) <;> try (exfalso; omega)) | (refine bcase_nprop (fun h => ?_) (fun h => ?_) <;> try (exfalso; omega)) | (refine bcase_intro (fun h => ?_) (fun h => ?_) <;> (try simp only [Bool.not_eq_true',Bool.not_eq_false',decide_eq_true_eq,decide_eq_false_iff_not,Bool.not_eq_true,Bool.not_eq_false,Decidable.not_not] at h)) | refine And.intro (by first | omega | exact rfl | assumption | exact ⟨rfl,rfl,rfl,rfl,rfl⟩ | exact ⟨rfl,rfl,rfl,rfl⟩ | exact ⟨rfl,by omega⟩ | exact oneAll_of rfl | exact ⟨rfl,oneAll_of rfl⟩ | exact Ref.refl _ | exact Thin.ref (.skip (Thin.refl _)) | exact Thin.ref (.skip (.skip (Thin.refl _))) | exact ⟨by omega,by omega,by omega⟩ | exact ⟨rfl,Nat.le_of_ble_eq_true rfl⟩ | ((try unfold maxLen); (try simp only [List.length_nil,List.length_cons,List.length_append]); omega) | (refine ⟨rfl,?_⟩; (try simp only [List.length_nil,List.length_cons,List.length_append]); omega)) ?_ | intro _)); (all_goals (conv => whnf))
      all_goals first | (exfalso; omega) | skip
      refine VC_cut RuG (fun z => [(2,.v (.int .i64 s)),(3,.ptr 3 b3 0),(7,.v (pS bt)),(11,.v (pS b)),(12,.v (.int .i64 i)),(14,.v (.int .i64 r.b)),(15,.v (.int .i64 r.a)),(16,.v (.int .i64 E1)),(60,.sl 801 a1 (gE g).length k1),(61,.v (.int .i64 (gE g).length)),(62,.v (.int .i64 i))]) (fun z => [packE 78 z.f1 (fX bt b ⟨m.m,H,true,allD S⟩ S.E),packE 77 z.f2 (fS b S),.own 801 a1 (gE g).length k1 ty_api_Rule 5 (ruE (gE g)),.box 3 b3 [.int .i64 m.start,.slice m.ca m.cls.length m.cc,.slice m.na m.nr.length m.nc,.slice m.aa m.acc.length m.ac,.slice ha H.length hc,.bool true] ty_evergreenlaw33_In]) (fun _ => True) ?_ ?_
      · (repeat' ((conv => whnf); first | refine ⟨_,⟨rfl,trivial⟩,?_⟩ | (refine bcase_prop (fun h => ?_) (fun h => ?_) <;> try (exfalso; omega)) | (refine bcase_nprop (fun h => ?_) (fun h => ?_) <;> try (exfalso; omega)) | (refine bcase_intro (fun h => ?_) (fun h => ?_) <;> (try simp only [Bool.not_eq_true',Bool.not_eq_false',decide_eq_true_eq,decide_eq_false_iff_not,Bool.not_eq_true,Bool.not_eq_false,Decidable.not_not] at h)) | refine And.intro (by first | omega | exact rfl | assumption | exact ⟨rfl,rfl,rfl,rfl,rfl⟩ | exact ⟨rfl,rfl,rfl,rfl⟩ | exact ⟨rfl,by omega⟩ | exact oneAll_of rfl | exact ⟨rfl,oneAll_of rfl⟩ | exact Ref.refl _ | exact Thin.ref (.skip (Thin.refl _)) | exact Thin.ref (.skip (.skip (Thin.refl _))) | exact ⟨by omega,by omega,by omega⟩ | exact ⟨rfl,Nat.le_of_ble_eq_true rfl⟩ | ((try unfold maxLen); (try simp only [List.length_nil,List.length_cons,List.length_append]); omega) | (refine ⟨rfl,?_⟩; (try simp only [List.length_nil,List.length_cons,List.length_append]); omega)) ?_ | intro _)); (all_goals (conv => whnf))
        all_goals first | (exfalso; omega) | skip
        all_goals exact cut_next ⟨i,S,_,_⟩ trivial (by (repeat ((conv => whnf); refine And.intro (by first | exact rfl | exact vint_eq (by omega) | exact vint_eq (by (dsimp only; omega)) | exact vsl_eq (by omega) | exact vsl_eq (by first | (dsimp only; omega) | (simp; done) | (simp; omega))) ?_)); exact trivial) (Ref.takes [78,77,801,3] rfl (.packE (.packE (.keep rfl (fun _ h => h) (.keep rfl (fun _ h => h) (.nil _))))))
      · rintro ⟨_,_,y1,y2⟩ -
        dsimp only
        by_cases g1 : h1 ≤ LM
        case neg =>
          rw [if_neg g1] at d4
          rw [if_neg (by omega)] at d6
          by_cases g2 : h2 ≤ LM
          · rw [if_pos g2] at d5
            (repeat' ((conv => whnf); first | (first | refine CallK_pure (.v _) (fun w hR => c7 w) ?_ | refine QCall_pure (.v _) (fun w hR => c7 w) ?_) | refine ⟨_,⟨rfl,trivial⟩,?_⟩ | (refine CallK_pack2 (key1 := 78) (key2 := 77) rfl rfl (fun w hR h0 => d4 _ _ _ _ _ h0) ?_; rintro _ _ ⟨rfl,fp1',fp2',rfl⟩; refine ⟨.v _,rfl,?_⟩) | (refine CallK_pack2 (key1 := 78) (key2 := 77) rfl rfl (fun w hR h0 => d5 _ _ _ _ _ h0) ?_; rintro _ _ ⟨rfl,fp1',fp2',rfl⟩; refine ⟨.v _,rfl,?_⟩) | (refine CallK_pack2 (key1 := 78) (key2 := 77) rfl rfl (fun w hR h0 => d6 _ _ _ _ _ h0) ?_; rintro _ _ ⟨rfl,fp1',fp2',rfl⟩; refine ⟨.v _,rfl,?_⟩) | (refine bcase_prop (fun h => ?_) (fun h => ?_) <;> try (exfalso; omega)) | (refine bcase_nprop (fun h => ?_) (fun h => ?_) <;> try (exfalso; omega)) | (refine bcase_intro (fun h => ?_) (fun h => ?_) <;> (try simp only [Bool.not_eq_true',Bool.not_eq_false',decide_eq_true_eq,decide_eq_false_iff_not,Bool.not_eq_true,Bool.not_eq_false,Decidable.not_not] at h)) | refine And.intro (by first | omega | exact rfl | assumption | exact ⟨rfl,rfl,rfl,rfl,rfl⟩ | exact ⟨rfl,rfl,rfl,rfl⟩ | exact ⟨rfl,by omega⟩ | exact oneAll_of rfl | exact ⟨rfl,oneAll_of rfl⟩ | exact Ref.refl _ | exact Thin.ref (.skip (Thin.refl _)) | exact Thin.ref (.skip (.skip (Thin.refl _))) | exact ⟨by omega,by omega,by omega⟩ | exact ⟨rfl,Nat.le_of_ble_eq_true rfl⟩ | ((try unfold maxLen); (try simp only [List.length_nil,List.length_cons,List.length_append]); omega) | (refine ⟨rfl,?_⟩; (try simp only [List.length_nil,List.length_cons,List.length_append]); omega)) ?_ | intro _)); (all_goals (conv => whnf))
            all_goals first | (exfalso; omega) | skip
            all_goals exact loop_next ⟨i + 1,S,fp1',fp2'⟩ (hnx two _ _) hmu (by (repeat ((conv => whnf); refine And.intro (by first | exact rfl | exact vint_eq (by omega) | exact vint_eq (by (dsimp only; omega)) | exact vsl_eq (by omega) | exact vsl_eq (by first | (dsimp only; omega) | (simp; done) | (simp; omega))) ?_)); exact trivial) (Ref.takes [78,77,801,3] rfl (.packE (.packE (.keep rfl (fun _ h => h) (.keep rfl (fun _ h => h) (.nil _))))))
          · rw [if_neg g2] at d5
            (repeat' ((conv => whnf); first | (first | refine CallK_pure (.v _) (fun w hR => c7 w) ?_ | refine QCall_pure (.v _) (fun w hR => c7 w) ?_) | refine ⟨_,⟨rfl,trivial⟩,?_⟩ | (refine CallK_pack2 (key1 := 78) (key2 := 77) rfl rfl (fun w hR h0 => d4 _ _ _ _ _ h0) ?_; rintro _ _ ⟨rfl,fp1',fp2',rfl⟩; refine ⟨.v _,rfl,?_⟩) | (refine CallK_pack2 (key1 := 78) (key2 := 77) rfl rfl (fun w hR h0 => d5 _ _ _ _ _ h0) ?_; rintro _ _ ⟨rfl,fp1',fp2',rfl⟩; refine ⟨.v _,rfl,?_⟩) | (refine CallK_pack2 (key1 := 78) (key2 := 77) rfl rfl (fun w hR h0 => d6 _ _ _ _ _ h0) ?_; rintro _ _ ⟨rfl,fp1',fp2',rfl⟩; refine ⟨.v _,rfl,?_⟩) | (refine bcase_prop (fun h => ?_) (fun h => ?_) <;> try (exfalso; omega)) | (refine bcase_nprop (fun h => ?_) (fun h => ?_) <;> try (exfalso; omega)) | (refine bcase_intro (fun h => ?_) (fun h => ?_) <;> (try simp only [Bool.not_eq_true',Bool.not_eq_false',decide_eq_true_eq,decide_eq_false_iff_not,Bool.not_eq_true,Bool.not_eq_false,Decidable.not_not] at h)) | refine And.intro (by first | omega | exact rfl | assumption | exact ⟨rfl,rfl,rfl,rfl,rfl⟩ | exact ⟨rfl,rfl,rfl,rfl⟩ | exact ⟨rfl,by omega⟩ | exact oneAll_of rfl | exact ⟨rfl,oneAll_of rfl⟩ | exact Ref.refl _ | exact Thin.ref (.skip (Thin.refl _)) | exact Thin.ref (.skip (.skip (Thin.refl _))) | exact ⟨by omega,by omega,by omega⟩ | exact ⟨rfl,Nat.le_of_ble_eq_true rfl⟩ | ((try unfold maxLen); (try simp only [List.length_nil,List.length_cons,List.length_append]); omega) | (refine ⟨rfl,?_⟩; (try simp only [List.length_nil,List.length_cons,List.length_append]); omega)) ?_ | intro _)); (all_goals (conv => whnf))
            all_goals first | (exfalso; omega) | skip
            all_goals exact loop_next ⟨i + 1,S,fp1',fp2'⟩ (hnx two _ _) hmu (by (repeat ((conv => whnf); refine And.intro (by first | exact rfl | exact vint_eq (by omega) | exact vint_eq (by (dsimp only; omega)) | exact vsl_eq (by omega) | exact vsl_eq (by first | (dsimp only; omega) | (simp; done) | (simp; omega))) ?_)); exact trivial) (Ref.takes [78,77,801,3] rfl (.packE (.packE (.keep rfl (fun _ h => h) (.keep rfl (fun _ h => h) (.nil _))))))
        rw [if_pos g1] at d4
        by_cases g2 : h2 ≤ LM
        case neg =>
          rw [if_neg g2] at d5
          rw [if_neg (by omega)] at d6
          (repeat' ((conv => whnf); first | (first | refine CallK_pure (.v _) (fun w hR => c7 w) ?_ | refine QCall_pure (.v _) (fun w hR => c7 w) ?_) | refine ⟨_,⟨rfl,trivial⟩,?_⟩ | (refine CallK_pack2 (key1 := 78) (key2 := 77) rfl rfl (fun w hR h0 => d4 _ _ _ _ _ h0) ?_; rintro _ _ ⟨rfl,fp1',fp2',rfl⟩; refine ⟨.v _,rfl,?_⟩) | (refine CallK_pack2 (key1 := 78) (key2 := 77) rfl rfl (fun w hR h0 => d5 _ _ _ _ _ h0) ?_; rintro _ _ ⟨rfl,fp1',fp2',rfl⟩; refine ⟨.v _,rfl,?_⟩) | (refine CallK_pack2 (key1 := 78) (key2 := 77) rfl rfl (fun w hR h0 => d6 _ _ _ _ _ h0) ?_; rintro _ _ ⟨rfl,fp1',fp2',rfl⟩; refine ⟨.v _,rfl,?_⟩) | (refine bcase_prop (fun h => ?_) (fun h => ?_) <;> try (exfalso; omega)) | (refine bcase_nprop (fun h => ?_) (fun h => ?_) <;> try (exfalso; omega)) | (refine bcase_intro (fun h => ?_) (fun h => ?_) <;> (try simp only [Bool.not_eq_true',Bool.not_eq_false',decide_eq_true_eq,decide_eq_false_iff_not,Bool.not_eq_true,Bool.not_eq_false,Decidable.not_not] at h)) | refine And.intro (by first | omega | exact rfl | assumption | exact ⟨rfl,rfl,rfl,rfl,rfl⟩ | exact ⟨rfl,rfl,rfl,rfl⟩ | exact ⟨rfl,by omega⟩ | exact oneAll_of rfl | exact ⟨rfl,oneAll_of rfl⟩ | exact Ref.refl _ | exact Thin.ref (.skip (Thin.refl _)) | exact Thin.ref (.skip (.skip (Thin.refl _))) | exact ⟨by omega,by omega,by omega⟩ | exact ⟨rfl,Nat.le_of_ble_eq_true rfl⟩ | ((try unfold maxLen); (try simp only [List.length_nil,List.length_cons,List.length_append]); omega) | (refine ⟨rfl,?_⟩; (try simp only [List.length_nil,List.length_cons,List.length_append]); omega)) ?_ | intro _)); (all_goals (conv => whnf))
          all_goals first | (exfalso; omega) | skip
          all_goals exact loop_next ⟨i + 1,S,fp1',fp2'⟩ (hnx two _ _) hmu (by (repeat ((conv => whnf); refine And.intro (by first | exact rfl | exact vint_eq (by omega) | exact vint_eq (by (dsimp only; omega)) | exact vsl_eq (by omega) | exact vsl_eq (by first | (dsimp only; omega) | (simp; done) | (simp; omega))) ?_)); exact trivial) (Ref.takes [78,77,801,3] rfl (.packE (.packE (.keep rfl (fun _ h => h) (.keep rfl (fun _ h => h) (.nil _))))))
        rw [if_pos g2] at d5
        by_cases g3 : h1 + h2 ≤ LM
        · rw [if_pos g3] at d6
          (repeat' ((conv => whnf); first | (first | refine CallK_pure (.v _) (fun w hR => c7 w) ?_ | refine QCall_pure (.v _) (fun w hR => c7 w) ?_) | refine ⟨_,⟨rfl,trivial⟩,?_⟩ | (refine CallK_pack2 (key1 := 78) (key2 := 77) rfl rfl (fun w hR h0 => d4 _ _ _ _ _ h0) ?_; rintro _ _ ⟨rfl,fp1',fp2',rfl⟩; refine ⟨.v _,rfl,?_⟩) | (refine CallK_pack2 (key1 := 78) (key2 := 77) rfl rfl (fun w hR h0 => d5 _ _ _ _ _ h0) ?_; rintro _ _ ⟨rfl,fp1',fp2',rfl⟩; refine ⟨.v _,rfl,?_⟩) | (refine CallK_pack2 (key1 := 78) (key2 := 77) rfl rfl (fun w hR h0 => d6 _ _ _ _ _ h0) ?_; rintro _ _ ⟨rfl,fp1',fp2',rfl⟩; refine ⟨.v _,rfl,?_⟩) | (refine bcase_prop (fun h => ?_) (fun h => ?_) <;> try (exfalso; omega)) | (refine bcase_nprop (fun h => ?_) (fun h => ?_) <;> try (exfalso; omega)) | (refine bcase_intro (fun h => ?_) (fun h => ?_) <;> (try simp only [Bool.not_eq_true',Bool.not_eq_false',decide_eq_true_eq,decide_eq_false_iff_not,Bool.not_eq_true,Bool.not_eq_false,Decidable.not_not] at h)) | refine And.intro (by first | omega | exact rfl | assumption | exact ⟨rfl,rfl,rfl,rfl,rfl⟩ | exact ⟨rfl,rfl,rfl,rfl⟩ | exact ⟨rfl,by omega⟩ | exact oneAll_of rfl | exact ⟨rfl,oneAll_of rfl⟩ | exact Ref.refl _ | exact Thin.ref (.skip (Thin.refl _)) | exact Thin.ref (.skip (.skip (Thin.refl _))) | exact ⟨by omega,by omega,by omega⟩ | exact ⟨rfl,Nat.le_of_ble_eq_true rfl⟩ | ((try unfold maxLen); (try simp only [List.length_nil,List.length_cons,List.length_append]); omega) | (refine ⟨rfl,?_⟩; (try simp only [List.length_nil,List.length_cons,List.length_append]); omega)) ?_ | intro _)); (all_goals (conv => whnf))
          all_goals first | (exfalso; omega) | skip
          all_goals exact loop_next ⟨i + 1,S,fp1',fp2'⟩ (hnx two _ _) hmu (by (repeat ((conv => whnf); refine And.intro (by first | exact rfl | exact vint_eq (by omega) | exact vint_eq (by (dsimp only; omega)) | exact vsl_eq (by omega) | exact vsl_eq (by first | (dsimp only; omega) | (simp; done) | (simp; omega))) ?_)); exact trivial) (Ref.takes [78,77,801,3] rfl (.packE (.packE (.keep rfl (fun _ h => h) (.keep rfl (fun _ h => h) (.nil _))))))
        · rw [if_neg g3] at d6
          (repeat' ((conv => whnf); first | (first | refine CallK_pure (.v _) (fun w hR => c7 w) ?_ | refine QCall_pure (.v _) (fun w hR => c7 w) ?_) | refine ⟨_,⟨rfl,trivial⟩,?_⟩ | (refine CallK_pack2 (key1 := 78) (key2 := 77) rfl rfl (fun w hR h0 => d4 _ _ _ _ _ h0) ?_; rintro _ _ ⟨rfl,fp1',fp2',rfl⟩; refine ⟨.v _,rfl,?_⟩) | (refine CallK_pack2 (key1 := 78) (key2 := 77) rfl rfl (fun w hR h0 => d5 _ _ _ _ _ h0) ?_; rintro _ _ ⟨rfl,fp1',fp2',rfl⟩; refine ⟨.v _,rfl,?_⟩) | (refine CallK_pack2 (key1 := 78) (key2 := 77) rfl rfl (fun w hR h0 => d6 _ _ _ _ _ h0) ?_; rintro _ _ ⟨rfl,fp1',fp2',rfl⟩; refine ⟨.v _,rfl,?_⟩) | (refine bcase_prop (fun h => ?_) (fun h => ?_) <;> try (exfalso; omega)) | (refine bcase_nprop (fun h => ?_) (fun h => ?_) <;> try (exfalso; omega)) | (refine bcase_intro (fun h => ?_) (fun h => ?_) <;> (try simp only [Bool.not_eq_true',Bool.not_eq_false',decide_eq_true_eq,decide_eq_false_iff_not,Bool.not_eq_true,Bool.not_eq_false,Decidable.not_not] at h)) | refine And.intro (by first | omega | exact rfl | assumption | exact ⟨rfl,rfl,rfl,rfl,rfl⟩ | exact ⟨rfl,rfl,rfl,rfl⟩ | exact ⟨rfl,by omega⟩ | exact oneAll_of rfl | exact ⟨rfl,oneAll_of rfl⟩ | exact Ref.refl _ | exact Thin.ref (.skip (Thin.refl _)) | exact Thin.ref (.skip (.skip (Thin.refl _))) | exact ⟨by omega,by omega,by omega⟩ | exact ⟨rfl,Nat.le_of_ble_eq_true rfl⟩ | ((try unfold maxLen); (try simp only [List.length_nil,List.length_cons,List.length_append]); omega) | (refine ⟨rfl,?_⟩; (try simp only [List.length_nil,List.length_cons,List.length_append]); omega)) ?_ | intro _)); (all_goals (conv => whnf))
          all_goals first | (exfalso; omega) | skip
          all_goals exact loop_next ⟨i + 1,S,fp1',fp2'⟩ (hnx two _ _) hmu (by (repeat ((conv => whnf); refine And.intro (by first | exact rfl | exact vint_eq (by omega) | exact vint_eq (by (dsimp only; omega)) | exact vsl_eq (by omega) | exact vsl_eq (by first | (dsimp only; omega) | (simp; done) | (simp; omega))) ?_)); exact trivial) (Ref.takes [78,77,801,3] rfl (.packE (.packE (.keep rfl (fun _ h => h) (.keep rfl (fun _ h => h) (.nil _))))))
  have k3' : r.k = 3 := by rcases ho with ho | ho | ho <;> omega
  obtain ⟨S1,a',S',b',p1,p2,hw1,two⟩ := tw k3'
  obtain ⟨E1,E2,h1,h2,d1,d2,d3,d4,d5,d6⟩ := round S S' ((i : Int) + 1) a' b' two bt b
  have hwS := hw
  have hgr := two.grow
  have ht2 : 2 ≤ r.t := by rcases ho with ho | ho | ho <;> omega
  have cP1 := calls_Power b S hw r.a (r.t / 2) (by omega)
  have cP2 := calls_Power b S1 hw1 r.a (r.t - r.t / 2) (by omega)
  rw [p1] at cP1
  rw [p2] at cP2
  dsimp only at cP1 cP2
  clear round tw tp cS c1 c2
  cases back <;> simp only [reduceIte,Bool.false_eq_true] at d1 d2 d4 d5
  · (repeat' ((conv => whnf); first | rw [q0] | rw [Int.toNat_natCast] | refine ldRow hrow ?_ | refine ⟨_,⟨rfl,trivial⟩,?_⟩ | (refine CallK_pack (key := 77) rfl (fun w hR h0 => cP1 _ _ _ h0) ?_; rintro _ _ ⟨rfl,fp',rfl⟩; refine ⟨.v _,rfl,?_⟩) | (refine CallK_pack (key := 77) rfl (fun w hR h0 => cP2 _ _ _ h0) ?_; rintro _ _ ⟨rfl,fp',rfl⟩; refine ⟨.v _,rfl,?_⟩) | (refine CallK_pack2 (key1 := 78) (key2 := 77) rfl rfl (fun w hR h0 => d2 _ _ _ _ _ h0) ?_; rintro _ _ ⟨rfl,fp1',fp2',rfl⟩; refine ⟨.v _,rfl,?_⟩) | (refine CallK_pack2 (key1 := 78) (key2 := 77) rfl rfl (fun w hR h0 => d3 _ _ _ _ _ h0) ?_; rintro _ _ ⟨rfl,fp1',fp2',rfl⟩; refine ⟨.v _,rfl,?_⟩) | (refine CallK_ref ((Ref.takes [78,77,801,3] rfl (.packE (.packE (.keep rfl (fun _ h => h) (.keep rfl (fun _ h => h) (.nil _)))))).trans (packX_upS hwS hgr)) ?_; refine CallK_pack2 (key1 := 78) (key2 := 77) rfl rfl (fun w hR h0 => d1 _ _ _ _ _ h0) ?_; rintro _ _ ⟨rfl,fp1',fp2',rfl⟩; refine ⟨.v _,rfl,?_⟩) | (refine bcase_prop (fun h => ?_) (fun h => ?_) <;> try (exfalso; omega)) | (refine bcase_nprop (fun h => ?_) (fun h => ?_) <;> try (exfalso; omega)) | (refine bcase_intro (fun h => ?_) (fun h => ?_) <;> (try simp only [Bool.not_eq_true',Bool.not_eq_false',decide_eq_true_eq,decide_eq_false_iff_not,Bool.not_eq_true,Bool.not_eq_false,Decidable.not_not] at h)) | refine And.intro (by first | omega | exact rfl | assumption | exact ⟨rfl,rfl,rfl,rfl,rfl⟩ | exact ⟨rfl,rfl,rfl,rfl⟩ | exact ⟨rfl,by omega⟩ | exact oneAll_of rfl | exact ⟨rfl,oneAll_of rfl⟩ | exact Ref.refl _ | exact Thin.ref (.skip (Thin.refl _)) | exact Thin.ref (.skip (.skip (Thin.refl _))) | exact ⟨by omega,by omega,by omega⟩ | exact ⟨rfl,Nat.le_of_ble_eq_true rfl⟩ | ((try unfold maxLen); (try simp only [List.length_nil,List.length_cons,List.length_append]); omega) | (refine ⟨rfl,?_⟩; (try simp only [List.length_nil,List.length_cons,List.length_append]); omega)) ?_ | intro _)); (all_goals (conv => whnf))
    all_goals first | (exfalso; omega) | skip
    refine VC_cut RuG (fun z => [(2,.v (.int .i64 s)),(3,.ptr 3 b3 0),(7,.v (pS bt)),(11,.v (pS b)),(12,.v (.int .i64 i)),(14,.v (.int .i64 a')),(15,.v (.int .i64 b')),(16,.v (.int .i64 E1)),(60,.sl 801 a1 (gE g).length k1),(61,.v (.int .i64 (gE g).length)),(62,.v (.int .i64 i))]) (fun z => [packE 78 z.f1 (fX bt b ⟨m.m,H,false,allD S'⟩ S'.E),packE 77 z.f2 (fS b S'),.own 801 a1 (gE g).length k1 ty_api_Rule 5 (ruE (gE g)),.box 3 b3 [.int .i64 m.start,.slice m.ca m.cls.length m.cc,.slice m.na m.nr.length m.nc,.slice m.aa m.acc.length m.ac,.slice ha H.length hc,.bool false] ty_evergreenlaw33_In]) (fun _ => True) ?_ ?_
    · (repeat' ((conv => whnf); first | refine ⟨_,⟨rfl,trivial⟩,?_⟩ | (refine bcase_prop (fun h => ?_) (fun h => ?_) <;> try (exfalso; omega)) | (refine bcase_nprop (fun h => ?_) (fun h => ?_) <;> try (exfalso; omega)) | (refine bcase_intro (fun h => ?_) (fun h => ?_) <;> (try simp only [Bool.not_eq_true',Bool.not_eq_false',decide_eq_true_eq,decide_eq_false_iff_not,Bool.not_eq_true,Bool.not_eq_false,Decidable.not_not] at h)) | refine And.intro (by first | omega | exact rfl | assumption | exact ⟨rfl,rfl,rfl,rfl,rfl⟩ | exact ⟨rfl,rfl,rfl,rfl⟩ | exact ⟨rfl,by omega⟩ | exact oneAll_of rfl | exact ⟨rfl,oneAll_of rfl⟩ | exact Ref.refl _ | exact Thin.ref (.skip (Thin.refl _)) | exact Thin.ref (.skip (.skip (Thin.refl _))) | exact ⟨by omega,by omega,by omega⟩ | exact ⟨rfl,Nat.le_of_ble_eq_true rfl⟩ | ((try unfold maxLen); (try simp only [List.length_nil,List.length_cons,List.length_append]); omega) | (refine ⟨rfl,?_⟩; (try simp only [List.length_nil,List.length_cons,List.length_append]); omega)) ?_ | intro _)); (all_goals (conv => whnf))
      all_goals first | (exfalso; omega) | skip
      all_goals exact cut_next ⟨i,S',_,_⟩ trivial (by (repeat ((conv => whnf); refine And.intro (by first | exact rfl | exact vint_eq (by omega) | exact vint_eq (by (dsimp only; omega)) | exact vsl_eq (by omega) | exact vsl_eq (by first | (dsimp only; omega) | (simp; done) | (simp; omega))) ?_)); exact trivial) (Ref.takes [78,77,801,3] rfl (.packE (.packE (.keep rfl (fun _ h => h) (.keep rfl (fun _ h => h) (.nil _))))))
    · rintro ⟨_,_,y1,y2⟩ -
      dsimp only
      by_cases g1 : h1 ≤ LM
      case neg =>
        rw [if_neg g1] at d4
        rw [if_neg (by omega)] at d6
        by_cases g2 : h2 ≤ LM
        · rw [if_pos g2] at d5
          (repeat' ((conv => whnf); first | (first | refine CallK_pure (.v _) (fun w hR => c7 w) ?_ | refine QCall_pure (.v _) (fun w hR => c7 w) ?_) | refine ⟨_,⟨rfl,trivial⟩,?_⟩ | (refine CallK_pack2 (key1 := 78) (key2 := 77) rfl rfl (fun w hR h0 => d4 _ _ _ _ _ h0) ?_; rintro _ _ ⟨rfl,fp1',fp2',rfl⟩; refine ⟨.v _,rfl,?_⟩) | (refine CallK_pack2 (key1 := 78) (key2 := 77) rfl rfl (fun w hR h0 => d5 _ _ _ _ _ h0) ?_; rintro _ _ ⟨rfl,fp1',fp2',rfl⟩; refine ⟨.v _,rfl,?_⟩) | (refine CallK_pack2 (key1 := 78) (key2 := 77) rfl rfl (fun w hR h0 => d6 _ _ _ _ _ h0) ?_; rintro _ _ ⟨rfl,fp1',fp2',rfl⟩; refine ⟨.v _,rfl,?_⟩) | (refine bcase_prop (fun h => ?_) (fun h => ?_) <;> try (exfalso; omega)) | (refine bcase_nprop (fun h => ?_) (fun h => ?_) <;> try (exfalso; omega)) | (refine bcase_intro (fun h => ?_) (fun h => ?_) <;> (try simp only [Bool.not_eq_true',Bool.not_eq_false',decide_eq_true_eq,decide_eq_false_iff_not,Bool.not_eq_true,Bool.not_eq_false,Decidable.not_not] at h)) | refine And.intro (by first | omega | exact rfl | assumption | exact ⟨rfl,rfl,rfl,rfl,rfl⟩ | exact ⟨rfl,rfl,rfl,rfl⟩ | exact ⟨rfl,by omega⟩ | exact oneAll_of rfl | exact ⟨rfl,oneAll_of rfl⟩ | exact Ref.refl _ | exact Thin.ref (.skip (Thin.refl _)) | exact Thin.ref (.skip (.skip (Thin.refl _))) | exact ⟨by omega,by omega,by omega⟩ | exact ⟨rfl,Nat.le_of_ble_eq_true rfl⟩ | ((try unfold maxLen); (try simp only [List.length_nil,List.length_cons,List.length_append]); omega) | (refine ⟨rfl,?_⟩; (try simp only [List.length_nil,List.length_cons,List.length_append]); omega)) ?_ | intro _)); (all_goals (conv => whnf))
          all_goals first | (exfalso; omega) | skip
          all_goals exact loop_next ⟨i + 1,S',fp1',fp2'⟩ (hnx two _ _) hmu (by (repeat ((conv => whnf); refine And.intro (by first | exact rfl | exact vint_eq (by omega) | exact vint_eq (by (dsimp only; omega)) | exact vsl_eq (by omega) | exact vsl_eq (by first | (dsimp only; omega) | (simp; done) | (simp; omega))) ?_)); exact trivial) (Ref.takes [78,77,801,3] rfl (.packE (.packE (.keep rfl (fun _ h => h) (.keep rfl (fun _ h => h) (.nil _))))))
        · rw [if_neg g2] at d5
          (repeat' ((conv => whnf); first | (first | refine CallK_pure (.v _) (fun w hR => c7 w) ?_ | refine QCall_pure (.v _) (fun w hR => c7 w) ?_) | refine ⟨_,⟨rfl,trivial⟩,?_⟩ | (refine CallK_pack2 (key1 := 78) (key2 := 77) rfl rfl (fun w hR h0 => d4 _ _ _ _ _ h0) ?_; rintro _ _ ⟨rfl,fp1',fp2',rfl⟩; refine ⟨.v _,rfl,?_⟩) | (refine CallK_pack2 (key1 := 78) (key2 := 77) rfl rfl (fun w hR h0 => d5 _ _ _ _ _ h0) ?_; rintro _ _ ⟨rfl,fp1',fp2',rfl⟩; refine ⟨.v _,rfl,?_⟩) | (refine CallK_pack2 (key1 := 78) (key2 := 77) rfl rfl (fun w hR h0 => d6 _ _ _ _ _ h0) ?_; rintro _ _ ⟨rfl,fp1',fp2',rfl⟩; refine ⟨.v _,rfl,?_⟩) | (refine bcase_prop (fun h => ?_) (fun h => ?_) <;> try (exfalso; omega)) | (refine bcase_nprop (fun h => ?_) (fun h => ?_) <;> try (exfalso; omega)) | (refine bcase_intro (fun h => ?_) (fun h => ?_) <;> (try simp only [Bool.not_eq_true',Bool.not_eq_false',decide_eq_true_eq,decide_eq_false_iff_not,Bool.not_eq_true,Bool.not_eq_false,Decidable.not_not] at h)) | refine And.intro (by first | omega | exact rfl | assumption | exact ⟨rfl,rfl,rfl,rfl,rfl⟩ | exact ⟨rfl,rfl,rfl,rfl⟩ | exact ⟨rfl,by omega⟩ | exact oneAll_of rfl | exact ⟨rfl,oneAll_of rfl⟩ | exact Ref.refl _ | exact Thin.ref (.skip (Thin.refl _)) | exact Thin.ref (.skip (.skip (Thin.refl _))) | exact ⟨by omega,by omega,by omega⟩ | exact ⟨rfl,Nat.le_of_ble_eq_true rfl⟩ | ((try unfold maxLen); (try simp only [List.length_nil,List.length_cons,List.length_append]); omega) | (refine ⟨rfl,?_⟩; (try simp only [List.length_nil,List.length_cons,List.length_append]); omega)) ?_ | intro _)); (all_goals (conv => whnf))
          all_goals first | (exfalso; omega) | skip
          all_goals exact loop_next ⟨i + 1,S',fp1',fp2'⟩ (hnx two _ _) hmu (by (repeat ((conv => whnf); refine And.intro (by first | exact rfl | exact vint_eq (by omega) | exact vint_eq (by (dsimp only; omega)) | exact vsl_eq (by omega) | exact vsl_eq (by first | (dsimp only; omega) | (simp; done) | (simp; omega))) ?_)); exact trivial) (Ref.takes [78,77,801,3] rfl (.packE (.packE (.keep rfl (fun _ h => h) (.keep rfl (fun _ h => h) (.nil _))))))
      rw [if_pos g1] at d4
      by_cases g2 : h2 ≤ LM
      case neg =>
        rw [if_neg g2] at d5
        rw [if_neg (by omega)] at d6
        (repeat' ((conv => whnf); first | (first | refine CallK_pure (.v _) (fun w hR => c7 w) ?_ | refine QCall_pure (.v _) (fun w hR => c7 w) ?_) | refine ⟨_,⟨rfl,trivial⟩,?_⟩ | (refine CallK_pack2 (key1 := 78) (key2 := 77) rfl rfl (fun w hR h0 => d4 _ _ _ _ _ h0) ?_; rintro _ _ ⟨rfl,fp1',fp2',rfl⟩; refine ⟨.v _,rfl,?_⟩) | (refine CallK_pack2 (key1 := 78) (key2 := 77) rfl rfl (fun w hR h0 => d5 _ _ _ _ _ h0) ?_; rintro _ _ ⟨rfl,fp1',fp2',rfl⟩; refine ⟨.v _,rfl,?_⟩) | (refine CallK_pack2 (key1 := 78) (key2 := 77) rfl rfl (fun w hR h0 => d6 _ _ _ _ _ h0) ?_; rintro _ _ ⟨rfl,fp1',fp2',rfl⟩; refine ⟨.v _,rfl,?_⟩) | (refine bcase_prop (fun h => ?_) (fun h => ?_) <;> try (exfalso; omega)) | (refine bcase_nprop (fun h => ?_) (fun h => ?_) <;> try (exfalso; omega)) | (refine bcase_intro (fun h => ?_) (fun h => ?_) <;> (try simp only [Bool.not_eq_true',Bool.not_eq_false',decide_eq_true_eq,decide_eq_false_iff_not,Bool.not_eq_true,Bool.not_eq_false,Decidable.not_not] at h)) | refine And.intro (by first | omega | exact rfl | assumption | exact ⟨rfl,rfl,rfl,rfl,rfl⟩ | exact ⟨rfl,rfl,rfl,rfl⟩ | exact ⟨rfl,by omega⟩ | exact oneAll_of rfl | exact ⟨rfl,oneAll_of rfl⟩ | exact Ref.refl _ | exact Thin.ref (.skip (Thin.refl _)) | exact Thin.ref (.skip (.skip (Thin.refl _))) | exact ⟨by omega,by omega,by omega⟩ | exact ⟨rfl,Nat.le_of_ble_eq_true rfl⟩ | ((try unfold maxLen); (try simp only [List.length_nil,List.length_cons,List.length_append]); omega) | (refine ⟨rfl,?_⟩; (try simp only [List.length_nil,List.length_cons,List.length_append]); omega)) ?_ | intro _)); (all_goals (conv => whnf))
        all_goals first | (exfalso; omega) | skip
        all_goals exact loop_next ⟨i + 1,S',fp1',fp2'⟩ (hnx two _ _) hmu (by (repeat ((conv => whnf); refine And.intro (by first | exact rfl | exact vint_eq (by omega) | exact vint_eq (by (dsimp only; omega)) | exact vsl_eq (by omega) | exact vsl_eq (by first | (dsimp only; omega) | (simp; done) | (simp; omega))) ?_)); exact trivial) (Ref.takes [78,77,801,3] rfl (.packE (.packE (.keep rfl (fun _ h => h) (.keep rfl (fun _ h => h) (.nil _))))))
      rw [if_pos g2] at d5
      by_cases g3 : h1 + h2 ≤ LM
      · rw [if_pos g3] at d6
        (repeat' ((conv => whnf); first | (first | refine CallK_pure (.v _) (fun w hR => c7 w) ?_ | refine QCall_pure (.v _) (fun w hR => c7 w) ?_) | refine ⟨_,⟨rfl,trivial⟩,?_⟩ | (refine CallK_pack2 (key1 := 78) (key2 := 77) rfl rfl (fun w hR h0 => d4 _ _ _ _ _ h0) ?_; rintro _ _ ⟨rfl,fp1',fp2',rfl⟩; refine ⟨.v _,rfl,?_⟩) | (refine CallK_pack2 (key1 := 78) (key2 := 77) rfl rfl (fun w hR h0 => d5 _ _ _ _ _ h0) ?_; rintro _ _ ⟨rfl,fp1',fp2',rfl⟩; refine ⟨.v _,rfl,?_⟩) | (refine CallK_pack2 (key1 := 78) (key2 := 77) rfl rfl (fun w hR h0 => d6 _ _ _ _ _ h0) ?_; rintro _ _ ⟨rfl,fp1',fp2',rfl⟩; refine ⟨.v _,rfl,?_⟩) | (refine bcase_prop (fun h => ?_) (fun h => ?_) <;> try (exfalso; omega)) | (refine bcase_nprop (fun h => ?_) (fun h => ?_) <;> try (exfalso; omega)) | (refine bcase_intro (fun h => ?_) (fun h => ?_) <;> (try simp only [Bool.not_eq_true',Bool.not_eq_false',decide_eq_true_eq,decide_eq_false_iff_not,Bool.not_eq_true,Bool.not_eq_false,Decidable.not_not] at h)) | refine And.intro (by first | omega | exact rfl | assumption | exact ⟨rfl,rfl,rfl,rfl,rfl⟩ | exact ⟨rfl,rfl,rfl,rfl⟩ | exact ⟨rfl,by omega⟩ | exact oneAll_of rfl | exact ⟨rfl,oneAll_of rfl⟩ | exact Ref.refl _ | exact Thin.ref (.skip (Thin.refl _)) | exact Thin.ref (.skip (.skip (Thin.refl _))) | exact ⟨by omega,by omega,by omega⟩ | exact ⟨rfl,Nat.le_of_ble_eq_true rfl⟩ | ((try unfold maxLen); (try simp only [List.length_nil,List.length_cons,List.length_append]); omega) | (refine ⟨rfl,?_⟩; (try simp only [List.length_nil,List.length_cons,List.length_append]); omega)) ?_ | intro _)); (all_goals (conv => whnf))
        all_goals first | (exfalso; omega) | skip
        all_goals exact loop_next ⟨i + 1,S',fp1',fp2'⟩ (hnx two _ _) hmu (by (repeat ((conv => whnf); refine And.intro (by first | exact rfl | exact vint_eq (by omega) | exact vint_eq (by (dsimp only; omega)) | exact vsl_eq (by omega) | exact vsl_eq (by first | (dsimp only; omega) | (simp; done) | (simp; omega))) ?_)); exact trivial) (Ref.takes [78,77,801,3] rfl (.packE (.packE (.keep rfl (fun _ h => h) (.keep rfl (fun _ h => h) (.nil _))))))
      · rw [if_neg g3] at d6
        (repeat' ((conv => whnf); first | (first | refine CallK_pure (.v _) (fun w hR => c7 w) ?_ | refine QCall_pure (.v _) (fun w hR => c7 w) ?_) | refine ⟨_,⟨rfl,trivial⟩,?_⟩ | (refine CallK_pack2 (key1 := 78) (key2 := 77) rfl rfl (fun w hR h0 => d4 _ _ _ _ _ h0) ?_; rintro _ _ ⟨rfl,fp1',fp2',rfl⟩; refine ⟨.v _,rfl,?_⟩) | (refine CallK_pack2 (key1 := 78) (key2 := 77) rfl rfl (fun w hR h0 => d5 _ _ _ _ _ h0) ?_; rintro _ _ ⟨rfl,fp1',fp2',rfl⟩; refine ⟨.v _,rfl,?_⟩) | (refine CallK_pack2 (key1 := 78) (key2 := 77) rfl rfl (fun w hR h0 => d6 _ _ _ _ _ h0) ?_; rintro _ _ ⟨rfl,fp1',fp2',rfl⟩; refine ⟨.v _,rfl,?_⟩) | (refine bcase_prop (fun h => ?_) (fun h => ?_) <;> try (exfalso; omega)) | (refine bcase_nprop (fun h => ?_) (fun h => ?_) <;> try (exfalso; omega)) | (refine bcase_intro (fun h => ?_) (fun h => ?_) <;> (try simp only [Bool.not_eq_true',Bool.not_eq_false',decide_eq_true_eq,decide_eq_false_iff_not,Bool.not_eq_true,Bool.not_eq_false,Decidable.not_not] at h)) | refine And.intro (by first | omega | exact rfl | assumption | exact ⟨rfl,rfl,rfl,rfl,rfl⟩ | exact ⟨rfl,rfl,rfl,rfl⟩ | exact ⟨rfl,by omega⟩ | exact oneAll_of rfl | exact ⟨rfl,oneAll_of rfl⟩ | exact Ref.refl _ | exact Thin.ref (.skip (Thin.refl _)) | exact Thin.ref (.skip (.skip (Thin.refl _))) | exact ⟨by omega,by omega,by omega⟩ | exact ⟨rfl,Nat.le_of_ble_eq_true rfl⟩ | ((try unfold maxLen); (try simp only [List.length_nil,List.length_cons,List.length_append]); omega) | (refine ⟨rfl,?_⟩; (try simp only [List.length_nil,List.length_cons,List.length_append]); omega)) ?_ | intro _)); (all_goals (conv => whnf))
        all_goals first | (exfalso; omega) | skip
        all_goals exact loop_next ⟨i + 1,S',fp1',fp2'⟩ (hnx two _ _) hmu (by (repeat ((conv => whnf); refine And.intro (by first | exact rfl | exact vint_eq (by omega) | exact vint_eq (by (dsimp only; omega)) | exact vsl_eq (by omega) | exact vsl_eq (by first | (dsimp only; omega) | (simp; done) | (simp; omega))) ?_)); exact trivial) (Ref.takes [78,77,801,3] rfl (.packE (.packE (.keep rfl (fun _ h => h) (.keep rfl (fun _ h => h) (.nil _))))))
  · (repeat' ((conv => whnf); first | rw [q0] | rw [Int.toNat_natCast] | refine ldRow hrow ?_ | refine ⟨_,⟨rfl,trivial⟩,?_⟩ | (refine CallK_pack (key := 77) rfl (fun w hR h0 => cP1 _ _ _ h0) ?_; rintro _ _ ⟨rfl,fp',rfl⟩; refine ⟨.v _,rfl,?_⟩) | (refine CallK_pack (key := 77) rfl (fun w hR h0 => cP2 _ _ _ h0) ?_; rintro _ _ ⟨rfl,fp',rfl⟩; refine ⟨.v _,rfl,?_⟩) | (refine CallK_pack2 (key1 := 78) (key2 := 77) rfl rfl (fun w hR h0 => d2 _ _ _ _ _ h0) ?_; rintro _ _ ⟨rfl,fp1',fp2',rfl⟩; refine ⟨.v _,rfl,?_⟩) | (refine CallK_pack2 (key1 := 78) (key2 := 77) rfl rfl (fun w hR h0 => d3 _ _ _ _ _ h0) ?_; rintro _ _ ⟨rfl,fp1',fp2',rfl⟩; refine ⟨.v _,rfl,?_⟩) | (refine CallK_ref ((Ref.takes [78,77,801,3] rfl (.packE (.packE (.keep rfl (fun _ h => h) (.keep rfl (fun _ h => h) (.nil _)))))).trans (packX_upS hwS hgr)) ?_; refine CallK_pack2 (key1 := 78) (key2 := 77) rfl rfl (fun w hR h0 => d1 _ _ _ _ _ h0) ?_; rintro _ _ ⟨rfl,fp1',fp2',rfl⟩; refine ⟨.v _,rfl,?_⟩) | (refine bcase_prop (fun h => ?_) (fun h => ?_) <;> try (exfalso; omega)) | (refine bcase_nprop (fun h => ?_) (fun h => ?_) <;> try (exfalso; omega)) | (refine bcase_intro (fun h => ?_) (fun h => ?_) <;> (try simp only [Bool.not_eq_true',Bool.not_eq_false',decide_eq_true_eq,decide_eq_false_iff_not,Bool.not_eq_true,Bool.not_eq_false,Decidable.not_not] at h)) | refine And.intro (by first | omega | exact rfl | assumption | exact ⟨rfl,rfl,rfl,rfl,rfl⟩ | exact ⟨rfl,rfl,rfl,rfl⟩ | exact ⟨rfl,by omega⟩ | exact oneAll_of rfl | exact ⟨rfl,oneAll_of rfl⟩ | exact Ref.refl _ | exact Thin.ref (.skip (Thin.refl _)) | exact Thin.ref (.skip (.skip (Thin.refl _))) | exact ⟨by omega,by omega,by omega⟩ | exact ⟨rfl,Nat.le_of_ble_eq_true rfl⟩ | ((try unfold maxLen); (try simp only [List.length_nil,List.length_cons,List.length_append]); omega) | (refine ⟨rfl,?_⟩; (try simp only [List.length_nil,List.length_cons,List.length_append]); omega)) ?_ | intro _)); (all_goals (conv => whnf))
    all_goals first | (exfalso; omega) | skip
    refine VC_cut RuG (fun z => [(2,.v (.int .i64 s)),(3,.ptr 3 b3 0),(7,.v (pS bt)),(11,.v (pS b)),(12,.v (.int .i64 i)),(14,.v (.int .i64 b')),(15,.v (.int .i64 a')),(16,.v (.int .i64 E1)),(60,.sl 801 a1 (gE g).length k1),(61,.v (.int .i64 (gE g).length)),(62,.v (.int .i64 i))]) (fun z => [packE 78 z.f1 (fX bt b ⟨m.m,H,true,allD S'⟩ S'.E),packE 77 z.f2 (fS b S'),.own 801 a1 (gE g).length k1 ty_api_Rule 5 (ruE (gE g)),.box 3 b3 [.int .i64 m.start,.slice m.ca m.cls.length m.cc,.slice m.na m.nr.length m.nc,.slice m.aa m.acc.length m.ac,.slice ha H.length hc,.bool true] ty_evergreenlaw33_In]) (fun _ => True) ?_ ?_
    · (repeat' ((conv => whnf); first | refine ⟨_,⟨rfl,trivial⟩,?_⟩ | (refine bcase_prop (fun h => ?_) (fun h => ?_) <;> try (exfalso; omega)) | (refine bcase_nprop (fun h => ?_) (fun h => ?_) <;> try (exfalso; omega)) | (refine bcase_intro (fun h => ?_) (fun h => ?_) <;> (try simp only [Bool.not_eq_true',Bool.not_eq_false',decide_eq_true_eq,decide_eq_false_iff_not,Bool.not_eq_true,Bool.not_eq_false,Decidable.not_not] at h)) | refine And.intro (by first | omega | exact rfl | assumption | exact ⟨rfl,rfl,rfl,rfl,rfl⟩ | exact ⟨rfl,rfl,rfl,rfl⟩ | exact ⟨rfl,by omega⟩ | exact oneAll_of rfl | exact ⟨rfl,oneAll_of rfl⟩ | exact Ref.refl _ | exact Thin.ref (.skip (Thin.refl _)) | exact Thin.ref (.skip (.skip (Thin.refl _))) | exact ⟨by omega,by omega,by omega⟩ | exact ⟨rfl,Nat.le_of_ble_eq_true rfl⟩ | ((try unfold maxLen); (try simp only [List.length_nil,List.length_cons,List.length_append]); omega) | (refine ⟨rfl,?_⟩; (try simp only [List.length_nil,List.length_cons,List.length_append]); omega)) ?_ | intro _)); (all_goals (conv => whnf))
      all_goals first | (exfalso; omega) | skip
      all_goals exact cut_next ⟨i,S',_,_⟩ trivial (by (repeat ((conv => whnf); refine And.intro (by first | exact rfl | exact vint_eq (by omega) | exact vint_eq (by (dsimp only; omega)) | exact vsl_eq (by omega) | exact vsl_eq (by first | (dsimp only; omega) | (simp; done) | (simp; omega))) ?_)); exact trivial) (Ref.takes [78,77,801,3] rfl (.packE (.packE (.keep rfl (fun _ h => h) (.keep rfl (fun _ h => h) (.nil _))))))
    · rintro ⟨_,_,y1,y2⟩ -
      dsimp only
      by_cases g1 : h1 ≤ LM
      case neg =>
        rw [if_neg g1] at d4
        rw [if_neg (by omega)] at d6
        by_cases g2 : h2 ≤ LM
        · rw [if_pos g2] at d5
          (repeat' ((conv => whnf); first | (first | refine CallK_pure (.v _) (fun w hR => c7 w) ?_ | refine QCall_pure (.v _) (fun w hR => c7 w) ?_) | refine ⟨_,⟨rfl,trivial⟩,?_⟩ | (refine CallK_pack2 (key1 := 78) (key2 := 77) rfl rfl (fun w hR h0 => d4 _ _ _ _ _ h0) ?_; rintro _ _ ⟨rfl,fp1',fp2',rfl⟩; refine ⟨.v _,rfl,?_⟩) | (refine CallK_pack2 (key1 := 78) (key2 := 77) rfl rfl (fun w hR h0 => d5 _ _ _ _ _ h0) ?_; rintro _ _ ⟨rfl,fp1',fp2',rfl⟩; refine ⟨.v _,rfl,?_⟩) | (refine CallK_pack2 (key1 := 78) (key2 := 77) rfl rfl (fun w hR h0 => d6 _ _ _ _ _ h0) ?_; rintro _ _ ⟨rfl,fp1',fp2',rfl⟩; refine ⟨.v _,rfl,?_⟩) | (refine bcase_prop (fun h => ?_) (fun h => ?_) <;> try (exfalso; omega)) | (refine bcase_nprop (fun h => ?_) (fun h => ?_) <;> try (exfalso; omega)) | (refine bcase_intro (fun h => ?_) (fun h => ?_) <;> (try simp only [Bool.not_eq_true',Bool.not_eq_false',decide_eq_true_eq,decide_eq_false_iff_not,Bool.not_eq_true,Bool.not_eq_false,Decidable.not_not] at h)) | refine And.intro (by first | omega | exact rfl | assumption | exact ⟨rfl,rfl,rfl,rfl,rfl⟩ | exact ⟨rfl,rfl,rfl,rfl⟩ | exact ⟨rfl,by omega⟩ | exact oneAll_of rfl | exact ⟨rfl,oneAll_of rfl⟩ | exact Ref.refl _ | exact Thin.ref (.skip (Thin.refl _)) | exact Thin.ref (.skip (.skip (Thin.refl _))) | exact ⟨by omega,by omega,by omega⟩ | exact ⟨rfl,Nat.le_of_ble_eq_true rfl⟩ | ((try unfold maxLen); (try simp only [List.length_nil,List.length_cons,List.length_append]); omega) | (refine ⟨rfl,?_⟩; (try simp only [List.length_nil,List.length_cons,List.length_append]); omega)) ?_ | intro _)); (all_goals (conv => whnf))
          all_goals first | (exfalso; omega) | skip
          all_goals exact loop_next ⟨i + 1,S',fp1',fp2'⟩ (hnx two _ _) hmu (by (repeat ((conv => whnf); refine And.intro (by first | exact rfl | exact vint_eq (by omega) | exact vint_eq (by (dsimp only; omega)) | exact vsl_eq (by omega) | exact vsl_eq (by first | (dsimp only; omega) | (simp; done) | (simp; omega))) ?_)); exact trivial) (Ref.takes [78,77,801,3] rfl (.packE (.packE (.keep rfl (fun _ h => h) (.keep rfl (fun _ h => h) (.nil _))))))
        · rw [if_neg g2] at d5
          (repeat' ((conv => whnf); first | (first | refine CallK_pure (.v _) (fun w hR => c7 w) ?_ | refine QCall_pure (.v _) (fun w hR => c7 w) ?_) | refine ⟨_,⟨rfl,trivial⟩,?_⟩ | (refine CallK_pack2 (key1 := 78) (key2 := 77) rfl rfl (fun w hR h0 => d4 _ _ _ _ _ h0) ?_; rintro _ _ ⟨rfl,fp1',fp2',rfl⟩; refine ⟨.v _,rfl,?_⟩) | (refine CallK_pack2 (key1 := 78) (key2 := 77) rfl rfl (fun w hR h0 => d5 _ _ _ _ _ h0) ?_; rintro _ _ ⟨rfl,fp1',fp2',rfl⟩; refine ⟨.v _,rfl,?_⟩) | (refine CallK_pack2 (key1 := 78) (key2 := 77) rfl rfl (fun w hR h0 => d6 _ _ _ _ _ h0) ?_; rintro _ _ ⟨rfl,fp1',fp2',rfl⟩; refine ⟨.v _,rfl,?_⟩) | (refine bcase_prop (fun h => ?_) (fun h => ?_) <;> try (exfalso; omega)) | (refine bcase_nprop (fun h => ?_) (fun h => ?_) <;> try (exfalso; omega)) | (refine bcase_intro (fun h => ?_) (fun h => ?_) <;> (try simp only [Bool.not_eq_true',Bool.not_eq_false',decide_eq_true_eq,decide_eq_false_iff_not,Bool.not_eq_true,Bool.not_eq_false,Decidable.not_not] at h)) | refine And.intro (by first | omega | exact rfl | assumption | exact ⟨rfl,rfl,rfl,rfl,rfl⟩ | exact ⟨rfl,rfl,rfl,rfl⟩ | exact ⟨rfl,by omega⟩ | exact oneAll_of rfl | exact ⟨rfl,oneAll_of rfl⟩ | exact Ref.refl _ | exact Thin.ref (.skip (Thin.refl _)) | exact Thin.ref (.skip (.skip (Thin.refl _))) | exact ⟨by omega,by omega,by omega⟩ | exact ⟨rfl,Nat.le_of_ble_eq_true rfl⟩ | ((try unfold maxLen); (try simp only [List.length_nil,List.length_cons,List.length_append]); omega) | (refine ⟨rfl,?_⟩; (try simp only [List.length_nil,List.length_cons,List.length_append]); omega)) ?_ | intro _)); (all_goals (conv => whnf))
          all_goals first | (exfalso; omega) | skip
          all_goals exact loop_next ⟨i + 1,S',fp1',fp2'⟩ (hnx two _ _) hmu (by (repeat ((conv => whnf); refine And.intro (by first | exact rfl | exact vint_eq (by omega) | exact vint_eq (by (dsimp only; omega)) | exact vsl_eq (by omega) | exact vsl_eq (by first | (dsimp only; omega) | (simp; done) | (simp; omega))) ?_)); exact trivial) (Ref.takes [78,77,801,3] rfl (.packE (.packE (.keep rfl (fun _ h => h) (.keep rfl (fun _ h => h) (.nil _))))))
      rw [if_pos g1] at d4
      by_cases g2 : h2 ≤ LM
      case neg =>
        rw [if_neg g2] at d5
        rw [if_neg (by omega)] at d6
        (repeat' ((conv => whnf); first | (first | refine CallK_pure (.v _) (fun w hR => c7 w) ?_ | refine QCall_pure (.v _) (fun w hR => c7 w) ?_) | refine ⟨_,⟨rfl,trivial⟩,?_⟩ | (refine CallK_pack2 (key1 := 78) (key2 := 77) rfl rfl (fun w hR h0 => d4 _ _ _ _ _ h0) ?_; rintro _ _ ⟨rfl,fp1',fp2',rfl⟩; refine ⟨.v _,rfl,?_⟩) | (refine CallK_pack2 (key1 := 78) (key2 := 77) rfl rfl (fun w hR h0 => d5 _ _ _ _ _ h0) ?_; rintro _ _ ⟨rfl,fp1',fp2',rfl⟩; refine ⟨.v _,rfl,?_⟩) | (refine CallK_pack2 (key1 := 78) (key2 := 77) rfl rfl (fun w hR h0 => d6 _ _ _ _ _ h0) ?_; rintro _ _ ⟨rfl,fp1',fp2',rfl⟩; refine ⟨.v _,rfl,?_⟩) | (refine bcase_prop (fun h => ?_) (fun h => ?_) <;> try (exfalso; omega)) | (refine bcase_nprop (fun h => ?_) (fun h => ?_) <;> try (exfalso; omega)) | (refine bcase_intro (fun h => ?_) (fun h => ?_) <;> (try simp only [Bool.not_eq_true',Bool.not_eq_false',decide_eq_true_eq,decide_eq_false_iff_not,Bool.not_eq_true,Bool.not_eq_false,Decidable.not_not] at h)) | refine And.intro (by first | omega | exact rfl | assumption | exact ⟨rfl,rfl,rfl,rfl,rfl⟩ | exact ⟨rfl,rfl,rfl,rfl⟩ | exact ⟨rfl,by omega⟩ | exact oneAll_of rfl | exact ⟨rfl,oneAll_of rfl⟩ | exact Ref.refl _ | exact Thin.ref (.skip (Thin.refl _)) | exact Thin.ref (.skip (.skip (Thin.refl _))) | exact ⟨by omega,by omega,by omega⟩ | exact ⟨rfl,Nat.le_of_ble_eq_true rfl⟩ | ((try unfold maxLen); (try simp only [List.length_nil,List.length_cons,List.length_append]); omega) | (refine ⟨rfl,?_⟩; (try simp only [List.length_nil,List.length_cons,List.length_append]); omega)) ?_ | intro _)); (all_goals (conv => whnf))
        all_goals first | (exfalso; omega) | skip
        all_goals exact loop_next ⟨i + 1,S',fp1',fp2'⟩ (hnx two _ _) hmu (by (repeat ((conv => whnf); refine And.intro (by first | exact rfl | exact vint_eq (by omega) | exact vint_eq (by (dsimp only; omega)) | exact vsl_eq (by omega) | exact vsl_eq (by first | (dsimp only; omega) | (simp; done) | (simp; omega))) ?_)); exact trivial) (Ref.takes [78,77,801,3] rfl (.packE (.packE (.keep rfl (fun _ h => h) (.keep rfl (fun _ h => h) (.nil _))))))
      rw [if_pos g2] at d5
      by_cases g3 : h1 + h2 ≤ LM
      · rw [if_pos g3] at d6
        (repeat' ((conv => whnf); first | (first | refine CallK_pure (.v _) (fun w hR => c7 w) ?_ | refine QCall_pure (.v _) (fun w hR => c7 w) ?_) | refine ⟨_,⟨rfl,trivial⟩,?_⟩ | (refine CallK_pack2 (key1 := 78) (key2 := 77) rfl rfl (fun w hR h0 => d4 _ _ _ _ _ h0) ?_; rintro _ _ ⟨rfl,fp1',fp2',rfl⟩; refine ⟨.v _,rfl,?_⟩) | (refine CallK_pack2 (key1 := 78) (key2 := 77) rfl rfl (fun w hR h0 => d5 _ _ _ _ _ h0) ?_; rintro _ _ ⟨rfl,fp1',fp2',rfl⟩; refine ⟨.v _,rfl,?_⟩) | (refine CallK_pack2 (key1 := 78) (key2 := 77) rfl rfl (fun w hR h0 => d6 _ _ _ _ _ h0) ?_; rintro _ _ ⟨rfl,fp1',fp2',rfl⟩; refine ⟨.v _,rfl,?_⟩) | (refine bcase_prop (fun h => ?_) (fun h => ?_) <;> try (exfalso; omega)) | (refine bcase_nprop (fun h => ?_) (fun h => ?_) <;> try (exfalso; omega)) | (refine bcase_intro (fun h => ?_) (fun h => ?_) <;> (try simp only [Bool.not_eq_true',Bool.not_eq_false',decide_eq_true_eq,decide_eq_false_iff_not,Bool.not_eq_true,Bool.not_eq_false,Decidable.not_not] at h)) | refine And.intro (by first | omega | exact rfl | assumption | exact ⟨rfl,rfl,rfl,rfl,rfl⟩ | exact ⟨rfl,rfl,rfl,rfl⟩ | exact ⟨rfl,by omega⟩ | exact oneAll_of rfl | exact ⟨rfl,oneAll_of rfl⟩ | exact Ref.refl _ | exact Thin.ref (.skip (Thin.refl _)) | exact Thin.ref (.skip (.skip (Thin.refl _))) | exact ⟨by omega,by omega,by omega⟩ | exact ⟨rfl,Nat.le_of_ble_eq_true rfl⟩ | ((try unfold maxLen); (try simp only [List.length_nil,List.length_cons,List.length_append]); omega) | (refine ⟨rfl,?_⟩; (try simp only [List.length_nil,List.length_cons,List.length_append]); omega)) ?_ | intro _)); (all_goals (conv => whnf))
        all_goals first | (exfalso; omega) | skip
        all_goals exact loop_next ⟨i + 1,S',fp1',fp2'⟩ (hnx two _ _) hmu (by (repeat ((conv => whnf); refine And.intro (by first | exact rfl | exact vint_eq (by omega) | exact vint_eq (by (dsimp only; omega)) | exact vsl_eq (by omega) | exact vsl_eq (by first | (dsimp only; omega) | (simp; done) | (simp; omega))) ?_)); exact trivial) (Ref.takes [78,77,801,3] rfl (.packE (.packE (.keep rfl (fun _ h => h) (.keep rfl (fun _ h => h) (.nil _))))))
      · rw [if_neg g3] at d6
        (repeat' ((conv => whnf); first | (first | refine CallK_pure (.v _) (fun w hR => c7 w) ?_ | refine QCall_pure (.v _) (fun w hR => c7 w) ?_) | refine ⟨_,⟨rfl,trivial⟩,?_⟩ | (refine CallK_pack2 (key1 := 78) (key2 := 77) rfl rfl (fun w hR h0 => d4 _ _ _ _ _ h0) ?_; rintro _ _ ⟨rfl,fp1',fp2',rfl⟩; refine ⟨.v _,rfl,?_⟩) | (refine CallK_pack2 (key1 := 78) (key2 := 77) rfl rfl (fun w hR h0 => d5 _ _ _ _ _ h0) ?_; rintro _ _ ⟨rfl,fp1',fp2',rfl⟩; refine ⟨.v _,rfl,?_⟩) | (refine CallK_pack2 (key1 := 78) (key2 := 77) rfl rfl (fun w hR h0 => d6 _ _ _ _ _ h0) ?_; rintro _ _ ⟨rfl,fp1',fp2',rfl⟩; refine ⟨.v _,rfl,?_⟩) | (refine bcase_prop (fun h => ?_) (fun h => ?_) <;> try (exfalso; omega)) | (refine bcase_nprop (fun h => ?_) (fun h => ?_) <;> try (exfalso; omega)) | (refine bcase_intro (fun h => ?_) (fun h => ?_) <;> (try simp only [Bool.not_eq_true',Bool.not_eq_false',decide_eq_true_eq,decide_eq_false_iff_not,Bool.not_eq_true,Bool.not_eq_false,Decidable.not_not] at h)) | refine And.intro (by first | omega | exact rfl | assumption | exact ⟨rfl,rfl,rfl,rfl,rfl⟩ | exact ⟨rfl,rfl,rfl,rfl⟩ | exact ⟨rfl,by omega⟩ | exact oneAll_of rfl | exact ⟨rfl,oneAll_of rfl⟩ | exact Ref.refl _ | exact Thin.ref (.skip (Thin.refl _)) | exact Thin.ref (.skip (.skip (Thin.refl _))) | exact ⟨by omega,by omega,by omega⟩ | exact ⟨rfl,Nat.le_of_ble_eq_true rfl⟩ | ((try unfold maxLen); (try simp only [List.length_nil,List.length_cons,List.length_append]); omega) | (refine ⟨rfl,?_⟩; (try simp only [List.length_nil,List.length_cons,List.length_append]); omega)) ?_ | intro _)); (all_goals (conv => whnf))
        all_goals first | (exfalso; omega) | skip
        all_goals exact loop_next ⟨i + 1,S',fp1',fp2'⟩ (hnx two _ _) hmu (by (repeat ((conv => whnf); refine And.intro (by first | exact rfl | exact vint_eq (by omega) | exact vint_eq (by (dsimp only; omega)) | exact vsl_eq (by omega) | exact vsl_eq (by first | (dsimp only; omega) | (simp; done) | (simp; omega))) ?_)); exact trivial) (Ref.takes [78,77,801,3] rfl (.packE (.packE (.keep rfl (fun _ h => h) (.keep rfl (fun _ h => h) (.nil _))))))
end Go.Proofs.Ytoocnmfodhnpbaa
