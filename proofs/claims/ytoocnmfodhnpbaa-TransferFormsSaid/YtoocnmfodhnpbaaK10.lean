/- Machines that came in, small ones; a table of a store of results: the program. -/
import Derived.Test.YtoocnmfodhnpbaaK8
import Derived.Test.YtoocnmfodhnpbaaK7
import Derived.Test.YtoocnmfodhnpbaaK9
import Derived.Test.YtoocnmfodhnpbaaK4
import Derived.Test.YtoocnmfodhnpbaaK2
import Derived.Test.YtoocnmfodhnpbaaRows
namespace Go.Proofs.Ytoocnmfodhnpbaa
open Go.EG
attribute [local irreducible] CallK QCall Go.Calls
set_option linter.unusedSimpArgs false
set_option linter.unusedVariables false
set_option maxRecDepth 20000
set_option maxHeartbeats 4000000
structure IA where
  m : MA
  H : List Int
  ha : Option Addr
  hc : Nat
  back : Bool
abbrev IA.cells (x : IA) : List Value := [.int .i64 x.m.start,.slice x.m.ca x.m.cls.length x.m.cc,.slice x.m.na x.m.nr.length x.m.nc,.slice x.m.aa x.m.acc.length x.m.ac,.slice x.ha x.H.length x.hc,.bool x.back]
abbrev IA.v (x : IA) : Value := .agg x.cells.toArray
structure IIn (w : World) (x : IA) : Prop where
  m : McI w [] x.m
  h : In w [] x.ha (ints .i64 x.H)
  ln : x.m.nr.length ≤ 9223372036854775807
  lr : ∀ r ∈ x.m.nr,r.xs.length ≤ 9223372036854775807
  lh : x.H.length ≤ 9223372036854775807
end Go.Proofs.Ytoocnmfodhnpbaa
/- A table that came in: what the given statements say of it. No condition. -/
namespace Go.Proofs.Ytoocnmfodhnpbaa
open Go.ChangeShapes Go.WideShapes Go.ChangeAt Go.RowKit Go.EG
set_option linter.unusedVariables false
theorem list_of {α : Type} (Q : Nat → α → Prop) : ∀ len : Nat,(∀ i,i < len → ∃ x,Q i x) → ∃ l : List α,l.length = len ∧ ∀ i x,l[i]? = some x → Q i x
  | 0,_ => ⟨[],rfl,fun i x h => by simp at h⟩
  | n + 1,h => by
    obtain ⟨l,hl,hq⟩ := list_of Q n fun i hi => h i (by omega)
    obtain ⟨x,hx⟩ := h n (by omega)
    refine ⟨l ++ [x],by simp [hl],fun i y hy => ?_⟩
    rw [List.getElem?_append] at hy
    split at hy
    · exact hq i y hy
    · rename_i hn
      have hi := (List.getElem?_eq_some_iff.1 hy).1
      simp at hi
      have : i = n := by omega
      subst this
      rw [hl,Nat.sub_self] at hy
      simp at hy
      rw [← hy]; exact hx
section
variable {H : Type} {enc : TypeId × Value → H} {w : World} {base : Nat} {spare : Nat → Bool} {held : Bool}
theorem in_cells {a : Addr} {xs : List Value} (h : ∀ i v,xs[i]? = some v → w.cell? (a.add i) = some v) : In w [] (some a) xs := by
  by_cases hx : xs = []
  · exact .inl hx
  obtain ⟨b,off,spot⟩ := a
  obtain ⟨v0,hv0⟩ : ∃ v,xs[0]? = some v := ⟨_,List.getElem?_eq_getElem (List.length_pos_iff.2 hx)⟩
  have hc0 := h 0 v0 hv0
  have hspot : spot = none := by simpa [Addr.add] using World.cell?_spot hc0
  subst hspot
  refine .inr ⟨b,off,rfl,?_,by simp,fun j v hv => ?_⟩
  · have : w.cell? ⟨b,off,none⟩ = some v0 := by simpa [Addr.add] using hc0
    unfold World.cell? at this
    rcases Nat.lt_or_ge b w.heap.size with h | h
    · exact h
    · rw [Array.getElem?_eq_none h] at this
      simp at this
  · have h1 := h j v hv
    rw [← h1]
    congr 1
    simp only [Addr.add]
    split
    · rename_i h; subst h; rfl
    · rfl
theorem open_intsIn {P : Program} {t e : TypeId} {k : IntKind} {fuel : Nat} {cs : List Value} {x : DataW H × List MemPlace} (ht : P.underlying t = some (.slice e)) (he : P.underlying e = some (.int k)) (hc : P.cellsOf e = 1) (h : DataW.trod enc P w base spare held fuel t cs = some x) :
    ∃ a cap xs,cs = [.slice a (xs : List Int).length cap] ∧ In w [] a (ints k xs) ∧ xs.length ≤ 9223372036854775807 := by
  rcases open_ints ht he hc h with ⟨hcs,_⟩ | ⟨a,len,cap,zs,hcs,_,hl,hm,hz,hd,hcell,hwz⟩
  · exact ⟨none,0,[],hcs,.inl rfl,Nat.zero_le _⟩
  · have hle : len ≤ zs.length := by rw [hz]; split <;> omega
    have hlen : (zs.take len).length = len := by rw [List.length_take]; omega
    refine ⟨some a,cap,zs.take len,by rw [hlen]; exact hcs,in_cells fun i v hv => ?_,by rw [hlen]; unfold maxLen at hm; omega⟩
    have hi : i < (zs.take len).length := by
      have := (List.getElem?_eq_some_iff.1 hv).1
      rwa [ints_length] at this
    rw [ints_getD hi] at hv
    cases hv
    rw [hcell i (by omega),List.getD_eq_getElem?_getD,List.getD_eq_getElem?_getD,List.getElem?_take,if_pos (by omega)]
theorem open_bools {P : Program} {t e : TypeId} {fuel : Nat} {cs : List Value} {x : DataW H × List MemPlace} (ht : P.underlying t = some (.slice e)) (he : P.underlying e = some .bool) (hc : P.cellsOf e = 1) (h : DataW.trod enc P w base spare held fuel t cs = some x) :
    ∃ a cap xs,cs = [.slice a (xs : List Bool).length cap] ∧ In w [] a (xs.map Value.bool) := by
  rcases DataW.trod_slice ht h with ⟨hcs,_⟩ | ⟨a,len,cap,elems,rest,n,_,rfl,rfl,hb,hl,hm,hlen,hel,hsp,hns⟩
  · exact ⟨none,0,[],hcs,.inl rfl⟩
  · obtain ⟨l,hl2,hq⟩ := list_of (fun i (b : Bool) => w.cell? (a.add i) = some (.bool b)) len fun i hi => by
      have h1 := hel i hi
      rw [hc,Nat.mul_one,List.getElem?_eq_getElem (by omega)] at h1
      obtain ⟨cs',hcs,hy⟩ := Option.bind_eq_some_iff.1 h1
      obtain ⟨b,rfl,_⟩ := DataW.trod_bool he hy
      exact ⟨b,cell_of_cells?_one hcs⟩
    refine ⟨some a,cap,l,by rw [hl2],in_cells fun i v hv => ?_⟩
    rw [List.getElem?_map] at hv
    cases hb : l[i]? with
    | none => rw [hb] at hv; cases hv
    | some b => rw [hb] at hv; cases hv; exact hq i b hb
theorem open_rows {P : Program} {t e e' : TypeId} {fuel : Nat} {cs : List Value} {x : DataW H × List MemPlace} (ht : P.underlying t = some (.slice e)) (he : P.underlying e = some (.slice e')) (he' : P.underlying e' = some (.int .i64)) (hc : P.cellsOf e = 1) (hc' : P.cellsOf e' = 1) (h : DataW.trod enc P w base spare held fuel t cs = some x) :
    ∃ a cap nr,cs = [.slice a (nr : List RA).length cap] ∧ In w [] a (nr.map RA.v) ∧ (∀ r ∈ nr,In w [] r.a (ints .i64 r.xs) ∧ r.xs.length ≤ 9223372036854775807) ∧ nr.length ≤ 9223372036854775807 := by
  rcases DataW.trod_slice ht h with ⟨hcs,_⟩ | ⟨a,len,cap,elems,rest,n,_,rfl,rfl,hb,hl,hm,hlen,hel,hsp,hns⟩
  · exact ⟨none,0,[],hcs,.inl rfl,(fun r hr => by cases hr),Nat.zero_le _⟩
  · obtain ⟨l,hl2,hq⟩ := list_of (fun i (r : RA) => w.cell? (a.add i) = some r.v ∧ In w [] r.a (ints .i64 r.xs) ∧ r.xs.length ≤ 9223372036854775807) len fun i hi => by
      have h1 := hel i hi
      rw [hc,Nat.mul_one,List.getElem?_eq_getElem (by omega)] at h1
      obtain ⟨cs',hcs,hy⟩ := Option.bind_eq_some_iff.1 h1
      obtain ⟨a',cap',xs,rfl,h2,h3⟩ := open_intsIn he he' hc' hy
      exact ⟨⟨xs,a',cap'⟩,cell_of_cells?_one hcs,h2,h3⟩
    refine ⟨some a,cap,l,by rw [hl2],in_cells fun i v hv => ?_,fun r hr => ?_,by unfold maxLen at hm; omega⟩
    · rw [List.getElem?_map] at hv
      cases hb : l[i]? with
      | none => rw [hb] at hv; cases hv
      | some b => rw [hb] at hv; cases hv; exact (hq i b hb).1
    · obtain ⟨i,hi⟩ := List.getElem?_of_mem hr
      exact (hq i r hi).2
theorem take1 {α : Type} {l : List α} {i : Nat} {x : α} (h : (l.drop i).take 1 = [x]) : l[i]? = some x := by
  have := congrArg (fun l => l[0]?) h
  simpa using this
theorem list_six {α : Type} {l : List α} {a b c d e f : α} (h : l.length = 6) (h0 : l[0]? = some a) (h1 : l[1]? = some b) (h2 : l[2]? = some c) (h3 : l[3]? = some d) (h4 : l[4]? = some e) (h5 : l[5]? = some f) : l = [a,b,c,d,e,f] := by
  match l,h with
  | [x0,x1,x2,x3,x4,x5],_ => simp_all
set_option maxRecDepth 100000 in
theorem open_In {r : Reach} {b0 : Nat} {v : Value} {d : DataW H} {ps : List MemPlace} (hval : Value.okWide Try.prog w r b0 28 v) (hd : DataW.Trod enc Try.prog w base spare held 28 v d ps) : ∃ x : IA,v = x.v ∧ IIn w x := by
  obtain ⟨cs,rfl,hsz⟩ := okWide_struct Try.underlying28 hval
  obtain ⟨fuel,hf⟩ := hd
  rw [show (Value.agg cs).cells.toList = cs.toList from rfl] at hf
  obtain ⟨xs,n,_,_,hl,hlen,hfi⟩ := DataW.trod_struct Try.underlying28 hf
  rw [show Try.prog.cellsOf 28 = 6 from by kernel_rfl] at hl
  have f0 : DataW.trod enc Try.prog w base spare held n 26 ((cs.toList.drop 0).take (Try.prog.cellsOf 26)) = xs[0]? := hfi 0 _ rfl
  have f1 : DataW.trod enc Try.prog w base spare held n 22 ((cs.toList.drop 4).take (Try.prog.cellsOf 22)) = xs[1]? := hfi 1 _ rfl
  have f2 : DataW.trod enc Try.prog w base spare held n 4 ((cs.toList.drop 5).take (Try.prog.cellsOf 4)) = xs[2]? := hfi 2 _ rfl
  rw [List.getElem?_eq_getElem (by rw [hlen]; decide)] at f0 f1 f2
  rw [show Try.prog.cellsOf 22 = 1 from by kernel_rfl] at f1
  rw [show Try.prog.cellsOf 4 = 1 from by kernel_rfl] at f2
  rw [show Try.prog.cellsOf 26 = 4 from by kernel_rfl] at f0
  obtain ⟨ys,n2,_,_,hl2,hlen2,gfi⟩ := DataW.trod_struct Try.underlying26 f0
  have g0 : DataW.trod enc Try.prog w base spare held n2 3 ((((cs.toList.drop 0).take 4).drop 0).take (Try.prog.cellsOf 3)) = ys[0]? := gfi 0 _ rfl
  have g1 : DataW.trod enc Try.prog w base spare held n2 22 ((((cs.toList.drop 0).take 4).drop 1).take (Try.prog.cellsOf 22)) = ys[1]? := gfi 1 _ rfl
  have g2 : DataW.trod enc Try.prog w base spare held n2 23 ((((cs.toList.drop 0).take 4).drop 2).take (Try.prog.cellsOf 23)) = ys[2]? := gfi 2 _ rfl
  have g3 : DataW.trod enc Try.prog w base spare held n2 24 ((((cs.toList.drop 0).take 4).drop 3).take (Try.prog.cellsOf 24)) = ys[3]? := gfi 3 _ rfl
  rw [List.getElem?_eq_getElem (by rw [hlen2]; decide)] at g0 g1 g2 g3
  rw [show Try.prog.cellsOf 3 = 1 from by kernel_rfl] at g0
  rw [show Try.prog.cellsOf 22 = 1 from by kernel_rfl] at g1
  rw [show Try.prog.cellsOf 23 = 1 from by kernel_rfl] at g2
  rw [show Try.prog.cellsOf 24 = 1 from by kernel_rfl] at g3
  obtain ⟨st,e0,_,_⟩ := DataW.trod_int Try.underlying3 g0
  obtain ⟨ca,cc,cls,e1,i1,l1⟩ := open_intsIn Try.underlying22 Try.underlying3 (by kernel_rfl) g1
  obtain ⟨na,nc,nr,e2,i2,i2',l2⟩ := open_rows Try.underlying23 Try.underlying22 Try.underlying3 (by kernel_rfl) (by kernel_rfl) g2
  obtain ⟨aa,ac,acc,e3,i3⟩ := open_bools Try.underlying24 Try.underlying4 (by kernel_rfl) g3
  obtain ⟨ha,hc,H',e4,i4,l4⟩ := open_intsIn Try.underlying22 Try.underlying3 (by kernel_rfl) f1
  obtain ⟨b,e5,_⟩ := DataW.trod_bool Try.underlying4 f2
  have k : ∀ {j : Nat} {z : Value},j < 4 → ((((cs.toList.drop 0).take 4).drop j).take 1 = [z]) → cs.toList[j]? = some z := fun {j} {z} hj h => by
    have := take1 h
    rw [List.drop_zero,List.getElem?_take,if_pos hj] at this
    exact this
  refine ⟨⟨⟨st,cls,ca,cc,nr,na,nc,acc,aa,ac⟩,H',ha,hc,b⟩,?_,⟨⟨i1,i2,i3,fun r hr => (i2' r hr).1⟩,i4,l2,fun r hr => (i2' r hr).2,l4⟩⟩
  have := list_six hl (k (by decide) e0) (k (by decide) e1) (k (by decide) e2) (k (by decide) e3) (take1 e4) (take1 e5)
  obtain ⟨l⟩ := cs
  dsimp only at this
  rw [this]
end
end Go.Proofs.Ytoocnmfodhnpbaa
/- The machine of a set of letters: the program. -/
namespace Go.Proofs.Ytoocnmfodhnpbaa
open Go.EG
attribute [local irreducible] CallK QCall Go.Calls
set_option linter.unusedSimpArgs false
set_option linter.unusedVariables false
set_option maxRecDepth 20000
set_option maxHeartbeats 4000000
def letR1 (f : Nat → Bool) (i : Nat) : List Int := (List.range 256).map fun j => if j < i ∧ f j = true then 1 else 0
theorem letR1_len (f : Nat → Bool) (i : Nat) : (letR1 f i).length = 256 := by simp [letR1]
theorem letR1_zero (f : Nat → Bool) : letR1 f 0 = List.replicate 256 0 := by
  unfold letR1
  rw [List.eq_replicate_iff]
  refine ⟨by simp,fun x hx => ?_⟩
  obtain ⟨j,_,rfl⟩ := List.mem_map.1 hx
  simp
theorem letR1_get (f : Nat → Bool) (i : Nat) {j : Nat} (h : j < 256) : (letR1 f i).getD j 0 = if j < i ∧ f j = true then 1 else 0 := by
  simp [letR1,List.getD_eq_getElem?_getD,List.getElem?_range h]
theorem letR1_no (f : Nat → Bool) {i : Nat} (hf : f i = false) : letR1 f (i + 1) = letR1 f i := by
  unfold letR1
  refine List.map_congr_left fun j _ => ?_
  by_cases h : j = i
  · subst h; simp [hf]
  · have : (j < i + 1) ↔ (j < i) := by omega
    simp [this]
theorem letR1_yes (f : Nat → Bool) {i : Nat} (hi : i < 256) (hf : f i = true) : (letR1 f i).set i 1 = letR1 f (i + 1) := by
  refine List.ext_getElem? fun j => ?_
  rw [List.getElem?_set]
  by_cases h : i = j
  · subst h
    rw [if_pos rfl,if_pos (by rw [letR1_len]; exact hi)]
    simp [letR1,List.getElem?_range hi,hf]
  · rw [if_neg h]
    unfold letR1
    rw [List.getElem?_map,List.getElem?_map]
    cases hj : (List.range 256)[j]? with
    | none => rfl
    | some v =>
      have hv : v = j := by
        have := List.getElem?_eq_some_iff.1 hj
        obtain ⟨h1,h2⟩ := this
        rw [List.getElem_range] at h2; exact h2.symm
      subst hv
      have : (v < i + 1) ↔ (v < i) := by omega
      simp [this]
def letM (f : Nat → Bool) : Mch := ⟨0,letR1 f 256,[[0,1],[0,1]],[false,true]⟩
theorem letM_ok (f : Nat → Bool) : MOk (letM f) 2 := by
  have hl : (letM f).nx.length = 2 := rfl
  have hs : (letM f).start = 0 := rfl
  refine ⟨letR1_len f 256,by omega,by omega,rfl,⟨by omega,by omega⟩,by omega,?_,?_⟩
  · intro r hr
    have : r = [0,1] := by simpa [letM] using hr
    subst this
    exact ⟨rfl,fun q hq => by simp at hq; omega⟩
  · intro c hc
    obtain ⟨j,_,rfl⟩ := List.mem_map.1 hc
    split <;> decide
theorem letM_chk (f : Nat → Bool) : chkM (letM f) = 0 := by
  have h := letM_ok f
  have hF : Frm (letM f) ((letM f).nx.getD 0 []).length := ⟨h.cls,h.pos,h.acc,h.start,h.k1,h.row,h.letter⟩
  rw [chkM_ok hF]; rfl
theorem letM_stp (f : Nat → Bool) {q b : Nat} (hq : q < 2) (hb : b < 256) : stp (letM f) q b = if f b = true then 1 else 0 := by
  have h1 : (letM f).cls.getD b 0 = if b < 256 ∧ f b = true then 1 else 0 := letR1_get f 256 hb
  have h2 : (letM f).nx.getD q [] = [0,1] := by
    rcases (show q = 0 ∨ q = 1 by omega) with rfl | rfl <;> rfl
  unfold stp
  rw [h1,h2]
  cases f b
  · rw [if_neg (by simp),if_neg (by simp)]; rfl
  · rw [if_pos ⟨hb,rfl⟩,if_pos rfl]; rfl
def newLM (key : Nat) (f : Nat → Bool) (v : Value) (L1 : List Ent) : Prop := ∃ y F,v = MA.v y ∧ L1 = [frE key F] ∧ MFz F y ∧ y.m = letM f
theorem calls_Letters33 (key : Nat) (s : Let4) (hs : s.Ok) (w : World) :
    Calls Try.prog fn_evergreenlaw33_Letters #[l4V s] w fun e w' => ∃ v L1,e = .returned v ∧ R w [] L1 w' ∧ newLM key s.has v L1 := by
  refine new_call [.v (l4V s)] ok_evergreenlaw33_Letters (by simp) ?_
  have z1 : (List.replicate 256 [Value.int .i64 0]).flatten = ints .i64 (letR1 s.has 0) := by
    rw [letR1_zero,← flat_zeros]
  (repeat' ((conv => whnf); first | refine ⟨_,⟨rfl,trivial⟩,?_⟩ | (refine bcase_prop (fun h => ?_) (fun h => ?_) <;> try (exfalso; omega)) | (refine bcase_nprop (fun h => ?_) (fun h => ?_) <;> try (exfalso; omega)) | (refine bcase_intro (fun h => ?_) (fun h => ?_) <;> (try simp only [Bool.not_eq_true',Bool.not_eq_false',decide_eq_true_eq,decide_eq_false_iff_not,Bool.not_eq_true,Bool.not_eq_false,Decidable.not_not] at h)) | refine And.intro (by first | omega | exact rfl | assumption | exact ⟨rfl,rfl,rfl,rfl,rfl⟩ | exact ⟨rfl,rfl,rfl,rfl⟩ | exact ⟨rfl,by omega⟩ | exact oneAll_of rfl | exact ⟨rfl,oneAll_of rfl⟩ | exact Ref.refl _ | exact Thin.ref (.skip (Thin.refl _)) | exact Thin.ref (.skip (.skip (Thin.refl _))) | exact ⟨rfl,Nat.le_of_ble_eq_true rfl⟩ | ((try unfold maxLen); (try simp only [List.length_nil,List.length_cons,List.length_append]); omega) | (refine ⟨rfl,?_⟩; (try simp only [List.length_nil,List.length_cons,List.length_append]); omega)) ?_ | intro _)); (all_goals (conv => whnf))
  rename_i b1 b2 b5 b6 b7 b8 b9 b3
  refine VC_loop Nat (fun i => [(1,.ptr 1 b1 0),(2,.ptr 2 b2 0),(3,.ptr 3 b3 0),(11,.v (.int .i64 i))])
    (fun i => [.own 5 (some ⟨b5,0,none⟩) 256 256 ty_int 1 (ints .i64 (letR1 s.has i)),.own 6 (some ⟨b6,0,none⟩) 2 2 ty_int 1 (ints .i64 [0,1]),.own 7 (some ⟨b7,0,none⟩) 2 2 ty_int 1 (ints .i64 [0,1]),.own 8 (some ⟨b8,0,none⟩) 2 2 ty_Sl_int 1 [.slice (some ⟨b6,0,none⟩) 2 2,.slice (some ⟨b7,0,none⟩) 2 2],.own 9 (some ⟨b9,0,none⟩) 2 2 ty_bool 1 [.bool false,.bool true],.box 1 b1 [.int .u64 s.s0,.int .u64 s.s1,.int .u64 s.s2,.int .u64 s.s3] ty_api_Letters,.box 2 b2 [.int .i64 0,.slice none 0 0,.slice none 0 0,.slice none 0 0] ty_api_Machine,.box 3 b3 [.int .i64 0,.slice (some ⟨b5,0,none⟩) 256 256,.slice (some ⟨b8,0,none⟩) 2 2,.slice (some ⟨b9,0,none⟩) 2 2] ty_api_Machine])
    (fun i => i ≤ 256) (fun i => 256 - i) 0 (Nat.zero_le _) (by (repeat ((conv => whnf); refine And.intro (by first | exact rfl | exact vint_eq (by omega) | exact vint_eq (by (dsimp only; omega)) | exact vsl_eq (by omega) | exact vsl_eq (by first | (dsimp only; omega) | (simp; done) | (simp; omega))) ?_)); exact trivial) (Ref.takes [5,6,7,8,9,1,2,3] rfl (.own rfl z1 (Thin.refl _))) ?_
  intro i hi
  by_cases hlt : i < 256
  · have c1 := calls_r16Has s hs i hlt
    have m1 : (i : Int) % 256 = i := Int.emod_eq_of_lt (by omega) (by omega)
    have q0 : ((i : Nat) : Int).toNat = i := by omega
    have hll := letR1_len s.has i
    have bb : i + 1 ≤ (ints .i64 (letR1 s.has i)).length := by rw [ints_length]; omega
    cases hf : s.has i
    · rw [hf] at c1
      have hn := letR1_no s.has hf
      (repeat' ((conv => whnf); first | rw [m1] | rw [q0] | (first | refine CallK_pure (.v _) (fun w hR => c1 w) ?_ | refine QCall_pure (.v _) (fun w hR => c1 w) ?_) | refine ⟨_,⟨rfl,trivial⟩,?_⟩ | (refine bcase_prop (fun h => ?_) (fun h => ?_) <;> try (exfalso; omega)) | (refine bcase_nprop (fun h => ?_) (fun h => ?_) <;> try (exfalso; omega)) | (refine bcase_intro (fun h => ?_) (fun h => ?_) <;> (try simp only [Bool.not_eq_true',Bool.not_eq_false',decide_eq_true_eq,decide_eq_false_iff_not,Bool.not_eq_true,Bool.not_eq_false,Decidable.not_not] at h)) | refine And.intro (by first | omega | exact rfl | assumption | exact ⟨rfl,rfl,rfl,rfl,rfl⟩ | exact ⟨rfl,rfl,rfl,rfl⟩ | exact ⟨rfl,by omega⟩ | exact oneAll_of rfl | exact ⟨rfl,oneAll_of rfl⟩ | exact Ref.refl _ | exact Thin.ref (.skip (Thin.refl _)) | exact Thin.ref (.skip (.skip (Thin.refl _))) | exact ⟨rfl,Nat.le_of_ble_eq_true rfl⟩ | ((try unfold maxLen); (try simp only [List.length_nil,List.length_cons,List.length_append]); omega) | (refine ⟨rfl,?_⟩; (try simp only [List.length_nil,List.length_cons,List.length_append]); omega)) ?_ | intro _)); (all_goals (conv => whnf))
      all_goals first | (exfalso; omega) | skip
      exact loop_next (i + 1) (by omega) (by omega) (by (repeat ((conv => whnf); refine And.intro (by first | exact rfl | exact vint_eq (by omega) | exact vint_eq (by (dsimp only; omega)) | exact vsl_eq (by omega) | exact vsl_eq (by first | (dsimp only; omega) | (simp; done) | (simp; omega))) ?_)); exact trivial) (Ref.takes [5,6,7,8,9,1,2,3] rfl (.own rfl (by rw [hn]) (Thin.refl _)))
    · rw [hf] at c1
      have hn := letR1_yes s.has hlt hf
      have s1 : splice (ints .i64 (letR1 s.has i)) i [.int .i64 1] = ints .i64 (letR1 s.has (i + 1)) := by rw [splice_ints (by omega),hn]
      (repeat' ((conv => whnf); first | rw [m1] | rw [q0] | rw [s1] | (first | refine CallK_pure (.v _) (fun w hR => c1 w) ?_ | refine QCall_pure (.v _) (fun w hR => c1 w) ?_) | refine ⟨.sl 5 _ _ _,⟨rfl,rfl,rfl,rfl⟩,?_⟩ | refine ⟨_,⟨rfl,trivial⟩,?_⟩ | (refine bcase_prop (fun h => ?_) (fun h => ?_) <;> try (exfalso; omega)) | (refine bcase_nprop (fun h => ?_) (fun h => ?_) <;> try (exfalso; omega)) | (refine bcase_intro (fun h => ?_) (fun h => ?_) <;> (try simp only [Bool.not_eq_true',Bool.not_eq_false',decide_eq_true_eq,decide_eq_false_iff_not,Bool.not_eq_true,Bool.not_eq_false,Decidable.not_not] at h)) | refine And.intro (by first | omega | exact rfl | assumption | exact ⟨rfl,rfl,rfl,rfl,rfl⟩ | exact ⟨rfl,rfl,rfl,rfl⟩ | exact ⟨rfl,by omega⟩ | exact oneAll_of rfl | exact ⟨rfl,oneAll_of rfl⟩ | exact Ref.refl _ | exact Thin.ref (.skip (Thin.refl _)) | exact Thin.ref (.skip (.skip (Thin.refl _))) | exact ⟨rfl,bb⟩ | exact ⟨rfl,Nat.le_of_ble_eq_true rfl⟩ | ((try unfold maxLen); (try simp only [List.length_nil,List.length_cons,List.length_append]); omega) | (refine ⟨rfl,?_⟩; (try simp only [List.length_nil,List.length_cons,List.length_append]); omega)) ?_ | intro _)); (all_goals (conv => whnf))
      all_goals first | (exfalso; omega) | skip
      exact loop_next (i + 1) (by omega) (by omega) (by (repeat ((conv => whnf); refine And.intro (by first | exact rfl | exact vint_eq (by omega) | exact vint_eq (by (dsimp only; omega)) | exact vsl_eq (by omega) | exact vsl_eq (by first | (dsimp only; omega) | (simp; done) | (simp; omega))) ?_)); exact trivial) (Ref.takes [5,6,7,8,9,1,2,3] rfl (Thin.refl _))
  · obtain rfl : i = 256 := by omega
    (repeat' ((conv => whnf); first | refine ⟨_,⟨rfl,trivial⟩,?_⟩ | (refine bcase_prop (fun h => ?_) (fun h => ?_) <;> try (exfalso; omega)) | (refine bcase_nprop (fun h => ?_) (fun h => ?_) <;> try (exfalso; omega)) | (refine bcase_intro (fun h => ?_) (fun h => ?_) <;> (try simp only [Bool.not_eq_true',Bool.not_eq_false',decide_eq_true_eq,decide_eq_false_iff_not,Bool.not_eq_true,Bool.not_eq_false,Decidable.not_not] at h)) | refine And.intro (by first | omega | exact rfl | assumption | exact ⟨rfl,rfl,rfl,rfl,rfl⟩ | exact ⟨rfl,rfl,rfl,rfl⟩ | exact ⟨rfl,by omega⟩ | exact oneAll_of rfl | exact ⟨rfl,oneAll_of rfl⟩ | exact Ref.refl _ | exact Thin.ref (.skip (Thin.refl _)) | exact Thin.ref (.skip (.skip (Thin.refl _))) | exact ⟨rfl,Nat.le_of_ble_eq_true rfl⟩ | ((try unfold maxLen); (try simp only [List.length_nil,List.length_cons,List.length_append]); omega) | (refine ⟨rfl,?_⟩; (try simp only [List.length_nil,List.length_cons,List.length_append]); omega)) ?_ | intro _)); (all_goals (conv => whnf))
    all_goals first | (exfalso; omega) | skip
    refine ⟨⟨_,((Ref.takes [5,6,7,8,9] rfl (Thin.refl _)).trans (Ref.freezeNew 79)).trans (((Ref.takes [5,79,6,7,8,9] rfl (Thin.refl _)).trans Ref.freezeRow).trans (((Ref.takes [6,79,7,8,9] rfl (Thin.refl _)).trans Ref.freezeRow).trans (((Ref.takes [7,79,8,9] rfl (Thin.refl _)).trans Ref.freezeRow).trans (((Ref.takes [8,79,9] rfl (Thin.refl _)).trans Ref.freezeRow).trans (((Ref.takes [9,79] rfl (Thin.refl _)).trans Ref.freezeRow).trans (Thin.ref (Thin.abs (k' := key) (.nil _)))))))),
      ⟨0,letR1 s.has 256,some ⟨b5,0,none⟩,256,[⟨[0,1],some ⟨b6,0,none⟩,2⟩,⟨[0,1],some ⟨b7,0,none⟩,2⟩],some ⟨b8,0,none⟩,2,[false,true],some ⟨b9,0,none⟩,2⟩,_,?_,rfl,⟨?_,?_,?_,?_⟩,?_⟩⟩
    · dsimp only [MA.v,MA.cells]; rw [letR1_len]; rfl
    · exact FIn.head.tail.tail.tail.tail
    · exact FIn.head.tail
    · exact FIn.head
    · intro r hr
      simp only [List.mem_cons,List.not_mem_nil,or_false] at hr
      rcases hr with rfl | rfl
      · exact FIn.head.tail.tail.tail
      · exact FIn.head.tail.tail
    · rfl
end Go.Proofs.Ytoocnmfodhnpbaa
/- The example of the chapter: the program. -/
namespace Go.Proofs.Ytoocnmfodhnpbaa
open Go.EG
attribute [local irreducible] CallK QCall Go.Calls
set_option linter.unusedSimpArgs false
set_option linter.unusedVariables false
set_option maxRecDepth 20000
set_option maxHeartbeats 4000000
theorem letM_E (f : Nat → Bool) : ∀ (t : List Nat) (q : Nat),q < 2 → (∀ b ∈ t,b < 256) → runE (letM f) q t = match t.getLast? with | none => q | some b => if f b = true then 1 else 0
  | [],q,_,_ => rfl
  | [b],q,hq,hb => by
    show stp (letM f) q b = _
    rw [letM_stp f hq (hb b (by simp))]; rfl
  | b :: c :: t,q,hq,hb => by
    show runE (letM f) (stp (letM f) q b) (c :: t) = _
    have hs : stp (letM f) q b < 2 := by
      rw [letM_stp f hq (hb b (by simp))]; split <;> decide
    rw [letM_E f (c :: t) _ hs (fun x hx => hb x (List.mem_cons_of_mem _ hx))]
    rw [List.getLast?_cons_cons]
    cases h : (c :: t).getLast? with
    | none => simp at h
    | some z => rfl
theorem letM_H (f : Nat → Bool) (h : Nat) : ∀ (t : List Nat) (q : Nat),q < 2 → (∀ b ∈ t,b < 256) → runH (letM f) [0,(h : Int)] q t = h * t.countP f
  | [],q,_,_ => by simp [runH]
  | b :: t,q,hq,hb => by
    have hs : stp (letM f) q b < 2 := by
      rw [letM_stp f hq (hb b (by simp))]; split <;> decide
    show (([0,(h : Int)] : List Int).getD (stp (letM f) q b) 0).toNat + runH (letM f) [0,(h : Int)] (stp (letM f) q b) t = _
    rw [letM_H f h t _ hs (fun x hx => hb x (List.mem_cons_of_mem _ hx)),letM_stp f hq (hb b (by simp)),List.countP_cons]
    cases f b
    · simp
    · simp [Nat.mul_add,Nat.add_comm]
def allD (S : Sto) (i : Int) : Prop := 1 ≤ i ∧ i ≤ S.E.length
theorem allD_clo {S : Sto} (hw : WF S) : Clo S (allD S) := by
  intro i h
  obtain ⟨ho,_⟩ := hw.at_ h.1 h.2
  unfold allD at *
  refine ⟨h.1,h.2,fun hk => ?_,fun hk => ?_⟩
  · rcases ho with ho | ho | ho <;> omega
  · rcases ho with ho | ho | ho <;> omega
theorem allD_known {S : Sto} {n : Int} : n = 0 ∨ ¬ known S n ∨ allD S n := by
  by_cases h : known S n
  · by_cases h0 : n = 0
    · exact .inl h0
    · have := h.1
      exact .inr (.inr ⟨by omega,h.2⟩)
  · exact .inr (.inl h)
def gB : List Rul := [⟨1,97,0,0,0⟩,⟨1,98,0,0,0⟩,⟨2,0,1,2,0⟩,⟨3,0,1,0,2⟩,⟨2,0,3,4,0⟩]
abbrev tB : Tm := .pr (.pr (.lt 97) (.lt 98)) (.pw (.lt 97) 2)
theorem gB_chk : chk 1 gB = 0 := by decide
theorem gB_rul : ∀ i,i < gB.length → okR (gB.getD i rul0) (i + 1) := fun i hi => by
  have := (chk_zero.1 gB_chk) i hi
  rwa [show (1 : Int) + (i : Int) = i + 1 by omega] at this
theorem gB_let : ∀ i,i < gB.length → 0 ≤ (gB.getD i rul0).l ∧ (gB.getD i rul0).l < 256 := by decide
theorem gB_gram : Gram gB := ⟨gB_rul,gB_let,by decide⟩
theorem gB_imp : ∃ S to,stImp ⟨10,[]⟩ [0] gB = some (S,to) ∧ WF S ∧ known S (to.getD 5 0) ∧ tm S.E (to.getD 5 0) = tB := by
  obtain ⟨S,to,h1,h2,_,h4,_⟩ := stImp_ok (g := gB) (WF.new 10 (by decide)) (Rel.start _) (fun i hi => by
    have := gB_rul i hi
    rwa [show (([] : List Tm).length : Int) + 1 + (i : Int) = i + 1 by simp; omega]) gB_let (by decide) (by decide)
  obtain ⟨a,b,c⟩ := h4.at_ 5 (by decide) (by decide)
  exact ⟨S,to,h1,h2,⟨by omega,b⟩,c⟩
def sB : Let4 := ⟨0,8589934592,0,0⟩
theorem sB_ok : sB.Ok := ⟨by decide,by decide,by decide,by decide⟩
theorem tabE_let {y : MA} {f : Nat → Bool} (hy : y.m = letM f) {h : Int} (hh : 0 ≤ h ∧ h ≤ 1048576) : tabE y [0,h] = 0 := by
  refine tabE_ok (by rw [hy]; exact letM_chk f) ⟨?_,by simp; omega⟩
  have : y.m.nx.length = y.nr.length := List.length_map ..
  rw [← this,hy]; rfl
theorem MFz.in_ {w0 w : World} {fp0 : List Nat} {L Lr : List Ent} {key : Nat} {F : List Frz} {x : MA} (hR : R w0 fp0 L w) (hm : pickE key L = some (frE key F,Lr)) (h : MFz F x) : McI w [] x := by
  have hm' := (pickE_perm hm).mem_iff.2 (List.mem_cons_self (a := frE key F) (l := Lr))
  exact ⟨FIn.in_ hR hm' h.cls,FIn.in_ hR hm' h.nx,FIn.in_ hR hm' h.acc,fun r hr => FIn.in_ hR hm' (h.row r hr)⟩
theorem calls_awake33 (w : World) : Calls Try.prog fn_evergreenlaw33_awake #[] w fun e w' => e = .returned (.bool true) ∧ Ext w w' := by
  refine pure_call [] w ok_evergreenlaw33_awake (by simp) ?_
  have c1 := fun w => calls_New 10 77 w
  rw [show clipS 10 = 10 from rfl] at c1
  obtain ⟨S,to,himp,hw,hk,ht⟩ := gB_imp
  have c2 := fun b key fp w hR a c hin => calls_Import b ⟨10,[]⟩ (WF.new 10 (by decide)) gB gB_gram S to himp (by decide) a c key fp w hR hin
  have hl : gB.length = 5 := rfl
  rw [hl] at c2
  generalize to.getD 5 0 = n at *
  have c3 := fun w => calls_Letters33 79 sB sB_ok w
  have hT : TbOk ⟨letM sB.has,[0,1],false,allD S⟩ 2 := ⟨letM_ok _,rfl,fun h hh => by simp at hh; omega⟩
  have q0 : askOk ⟨letM sB.has,[0,1],false,allD S⟩ S n 0 := ⟨hk,by decide,by show (0 : Int) < ((2 : Nat) : Int); decide⟩
  have c5 := fun bt b => calls_THits bt b ⟨letM sB.has,[0,1],false,allD S⟩ hT S hw (allD_clo hw) n 0 allD_known
  have c6 := fun bt b => calls_TPart bt b ⟨letM sB.has,[0,1],false,allD S⟩ hT S hw (allD_clo hw) n 1 2 0 allD_known
  have r1 : runH (letM sB.has) [0,1] 0 (ori false tB.txt) = 3 := by
    have := letM_H sB.has 1 tB.txt 0 (by decide) (by decide)
    exact this.trans (by decide)
  have r2 : runH (letM sB.has) [0,1] 0 (ori false ((tB.txt.drop 1).take 2)) = 1 := by
    have := letM_H sB.has 1 ((tB.txt.drop 1).take 2) 0 (by decide) (by decide)
    exact this.trans (by decide)
  have r3 : runE (letM sB.has) 0 (ori false ((tB.txt.drop 1).take 2)) = 1 := by
    have := letM_E sB.has ((tB.txt.drop 1).take 2) 0 (by decide) (by decide)
    exact this.trans (by decide)
  have e5 : hitV ⟨letM sB.has,[0,1],false,allD S⟩ S n 0 = .tuple #[.int .i64 3,.nilIface] := by
    unfold hitV
    rw [if_pos q0,ht]
    dsimp only
    rw [show (0 : Int).toNat = 0 from rfl,r1,if_pos (by decide)]; rfl
  have e6 : prtV ⟨letM sB.has,[0,1],false,allD S⟩ S n 1 2 0 = .tuple #[.int .i64 1,.int .i64 1,.nilIface] := by
    unfold prtV
    rw [if_pos q0,ht,if_pos (by decide)]
    dsimp only
    rw [show (0 : Int).toNat = 0 from rfl,show (1 : Int).toNat = 1 from rfl,show (2 : Int).toNat = 2 from rfl,r2,r3,if_pos (by decide)]; rfl
  simp only [e5] at c5
  simp only [e6] at c6
  have c4 := fun bs (y : MA) (hy : y.m = letM sB.has) (w' : World) hm ha hc hh => calls_TabNew 78 bs (allD S) S.E (w := w') y hm [0,1] ha hc hh false (tabE_let (f := sB.has) hy (by decide))
  have c4 := fun bs (y : MA) (hy : y.m = letM sB.has) (w' : World) hm ha hc hh => by
    have := c4 bs y hy w' hm ha hc hh
    rw [hy] at this
    exact this
  (repeat' ((conv => whnf); first | (refine CallK_new (fun w hR => c1 w) ?_; rintro _ _ ⟨bn,fpn,rfl,rfl⟩; refine ⟨.v _,rfl,?_⟩) | (refine CallK_pack (key := 77) rfl (fun w hR h0 => c2 _ _ _ _ h0 _ _ (In.beside (key := 22) hR rfl)) ?_; rintro _ _ ⟨rfl,fp',rfl⟩; refine ⟨.v _,rfl,?_⟩) | ((refine CallK_new (fun w' hR => c3 w') ?_); rintro _ _ ⟨y,F,rfl,rfl,hF,hy⟩; refine ⟨.v _,rfl,?_⟩) | ((refine CallK_new (fun w' hR => c4 _ y hy w' (hF.in_ (key := 79) hR rfl) _ _ (In.ownR (key := 31) hR rfl)) ?_); rintro _ _ ⟨bt,fpt,rfl,rfl⟩; refine ⟨.v _,rfl,?_⟩) | (refine CallK_pack2 (key1 := 78) (key2 := 77) rfl rfl (fun w hR h0 => c5 _ _ _ _ _ _ _ h0) ?_; rintro _ _ ⟨rfl,fp1',fp2',rfl⟩; refine ⟨.v _,rfl,?_⟩) | (refine CallK_pack2 (key1 := 78) (key2 := 77) rfl rfl (fun w hR h0 => c6 _ _ _ _ _ _ _ h0) ?_; rintro _ _ ⟨rfl,fp1',fp2',rfl⟩; refine ⟨.v _,rfl,?_⟩) | refine ⟨_,⟨rfl,trivial⟩,?_⟩ | (refine bcase_prop (fun h => ?_) (fun h => ?_) <;> try (exfalso; omega)) | (refine bcase_nprop (fun h => ?_) (fun h => ?_) <;> try (exfalso; omega)) | (refine bcase_intro (fun h => ?_) (fun h => ?_) <;> (try simp only [Bool.not_eq_true',Bool.not_eq_false',decide_eq_true_eq,decide_eq_false_iff_not,Bool.not_eq_true,Bool.not_eq_false,Decidable.not_not] at h)) | refine And.intro (by first | omega | exact rfl | assumption | exact ⟨rfl,rfl,rfl,rfl,rfl⟩ | exact ⟨rfl,rfl,rfl,rfl⟩ | exact ⟨rfl,by omega⟩ | exact oneAll_of rfl | exact ⟨rfl,oneAll_of rfl⟩ | exact Ref.refl _ | exact Thin.ref (.skip (Thin.refl _)) | exact Thin.ref (.skip (.skip (Thin.refl _))) | exact ⟨rfl,Nat.le_of_ble_eq_true rfl⟩ | ((try unfold maxLen); (try simp only [List.length_nil,List.length_cons,List.length_append]); omega) | (refine ⟨rfl,?_⟩; (try simp only [List.length_nil,List.length_cons,List.length_append]); omega)) ?_ | intro _)); (all_goals (conv => whnf))
  all_goals first | (exfalso; omega) | exact ⟨rfl⟩ | skip
end Go.Proofs.Ytoocnmfodhnpbaa
/- What makes no table,and what a table tells: the program. -/
namespace Go.Proofs.Ytoocnmfodhnpbaa
open Go.EG
attribute [local irreducible] CallK QCall Go.Calls
set_option linter.unusedSimpArgs false
set_option linter.unusedVariables false
set_option maxRecDepth 20000
set_option maxHeartbeats 4000000
theorem calls_Same {w : World} (y x : MA) (hy : McI w [] y) (hx : McI w [] x) (he : y.m = x.m) (ha : x.acc.length = x.nr.length) (hb : x.nr.length ≤ 9223372036854775807 ∧ (∀ r ∈ x.nr,r.xs.length ≤ 9223372036854775807) ∧ x.cls.length ≤ 9223372036854775807) :
    Calls Try.prog fn_evergreenref33_Same #[y.v,x.v] w fun e w' => e = .returned (.bool true) ∧ Ext w w' := by
  refine pure_call [.v y.v,.v x.v] w ok_evergreenref33_Same (by simp) ?_
  obtain ⟨start,cls,ca,cc,nr,na,nc,acc,aa,ac⟩ := x
  obtain ⟨start',cls',ca',cc',nr',na',nc',acc',aa',ac'⟩ := y
  simp only [MA.m,Mch.mk.injEq] at he
  obtain ⟨rfl,rfl,hnr,rfl⟩ := he
  have hnl : nr'.length = nr.length := by
    have := congrArg List.length hnr
    simpa using this
  obtain ⟨h1,h2,h3,h4⟩ := hx
  obtain ⟨k1,k2,k3,k4⟩ := hy
  dsimp only [MA.v,MA.cells] at *
  (repeat' ((conv => whnf); first | refine ⟨_,⟨rfl,trivial⟩,?_⟩ | (refine bcase_prop (fun h => ?_) (fun h => ?_) <;> try (exfalso; omega)) | (refine bcase_nprop (fun h => ?_) (fun h => ?_) <;> try (exfalso; omega)) | (refine bcase_intro (fun h => ?_) (fun h => ?_) <;> (try simp only [Bool.not_eq_true',Bool.not_eq_false',decide_eq_true_eq,decide_eq_false_iff_not,Bool.not_eq_true,Bool.not_eq_false,Decidable.not_not] at h)) | refine And.intro (by first | omega | exact rfl | assumption | exact ⟨rfl,rfl,rfl,rfl,rfl⟩ | exact ⟨rfl,rfl,rfl,rfl⟩ | exact ⟨rfl,by omega⟩ | exact oneAll_of rfl | exact ⟨rfl,oneAll_of rfl⟩ | exact Ref.refl _ | exact Thin.ref (.skip (Thin.refl _)) | exact Thin.ref (.skip (.skip (Thin.refl _))) | exact ⟨rfl,Nat.le_of_ble_eq_true rfl⟩ | ((try unfold maxLen); (try simp only [List.length_nil,List.length_cons,List.length_append]); omega) | (refine ⟨rfl,?_⟩; (try simp only [List.length_nil,List.length_cons,List.length_append]); omega)) ?_ | intro _)); (all_goals (conv => whnf))
  all_goals first | (exfalso; omega) | skip
  rename_i b2 b3 _ _ _
  refine VC_loop Nat (fun i => [(2,.ptr 2 b2 0),(3,.ptr 3 b3 0),(42,.v (.int .i64 cls'.length)),(43,.v (.int .i64 i))])
    (fun _ => [.box 2 b2 [.int .i64 start',.slice ca' cls'.length cc',.slice na' nr'.length nc',.slice aa' acc'.length ac'] ty_api_Machine,.box 3 b3 [.int .i64 start',.slice ca cls'.length cc,.slice na nr.length nc,.slice aa acc'.length ac] ty_api_Machine]) (fun i => i ≤ cls'.length) (fun i => cls'.length - i) 0 (Nat.zero_le _) (by (repeat ((conv => whnf); refine And.intro (by first | exact rfl | exact vint_eq (by omega) | exact vint_eq (by (dsimp only; omega)) | exact vsl_eq (by omega) | exact vsl_eq (by first | (dsimp only; omega) | (simp; done) | (simp; omega))) ?_)); exact trivial) (Ref.takes [2,3] rfl (Thin.refl _)) ?_
  intro i hi
  by_cases hlt : i < cls'.length
  · have r1 := fun {L : List Ent} => rdI (L := L) k1 (i := i) hlt
    have r2 := fun {L : List Ent} => rdI (L := L) h1 (i := i) hlt
    have n1 : ca' ≠ none := k1.ne' (k := i) (by rw [ints_length]; exact hlt)
    have n2 : ca ≠ none := h1.ne' (k := i) (by rw [ints_length]; exact hlt)
    have q0 : ((i : Nat) : Int).toNat = i := by omega
    (repeat' ((conv => whnf); first | rw [q0] | refine ⟨_,r1,?_⟩ | refine ⟨_,r2,?_⟩ | refine ⟨_,⟨rfl,trivial⟩,?_⟩ | (refine bcase_prop (fun h => ?_) (fun h => ?_) <;> try (exfalso; omega)) | (refine bcase_nprop (fun h => ?_) (fun h => ?_) <;> try (exfalso; omega)) | (refine bcase_intro (fun h => ?_) (fun h => ?_) <;> (try simp only [Bool.not_eq_true',Bool.not_eq_false',decide_eq_true_eq,decide_eq_false_iff_not,Bool.not_eq_true,Bool.not_eq_false,Decidable.not_not] at h)) | refine And.intro (by first | omega | exact rfl | assumption | exact ⟨rfl,rfl,rfl,rfl,rfl⟩ | exact ⟨rfl,rfl,rfl,rfl⟩ | exact ⟨rfl,by omega⟩ | exact oneAll_of rfl | exact ⟨rfl,oneAll_of rfl⟩ | exact Ref.refl _ | exact Thin.ref (.skip (Thin.refl _)) | exact Thin.ref (.skip (.skip (Thin.refl _))) | exact ⟨rfl,Nat.le_of_ble_eq_true rfl⟩ | ((try unfold maxLen); (try simp only [List.length_nil,List.length_cons,List.length_append]); omega) | (refine ⟨rfl,?_⟩; (try simp only [List.length_nil,List.length_cons,List.length_append]); omega)) ?_ | intro _)); (all_goals (conv => whnf))
    all_goals first | (exfalso; omega) | skip
    all_goals exact loop_next (i + 1) (by omega) (by omega) (by (repeat ((conv => whnf); refine And.intro (by first | exact rfl | exact vint_eq (by omega) | exact vint_eq (by (dsimp only; omega)) | exact vsl_eq (by omega) | exact vsl_eq (by first | (dsimp only; omega) | (simp; done) | (simp; omega))) ?_)); exact trivial) (Ref.takes [2,3] rfl (Thin.refl _))
  obtain rfl : i = cls'.length := by omega
  (repeat' ((conv => whnf); first | refine ⟨_,⟨rfl,trivial⟩,?_⟩ | (refine bcase_prop (fun h => ?_) (fun h => ?_) <;> try (exfalso; omega)) | (refine bcase_nprop (fun h => ?_) (fun h => ?_) <;> try (exfalso; omega)) | (refine bcase_intro (fun h => ?_) (fun h => ?_) <;> (try simp only [Bool.not_eq_true',Bool.not_eq_false',decide_eq_true_eq,decide_eq_false_iff_not,Bool.not_eq_true,Bool.not_eq_false,Decidable.not_not] at h)) | refine And.intro (by first | omega | exact rfl | assumption | exact ⟨rfl,rfl,rfl,rfl,rfl⟩ | exact ⟨rfl,rfl,rfl,rfl⟩ | exact ⟨rfl,by omega⟩ | exact oneAll_of rfl | exact ⟨rfl,oneAll_of rfl⟩ | exact Ref.refl _ | exact Thin.ref (.skip (Thin.refl _)) | exact Thin.ref (.skip (.skip (Thin.refl _))) | exact ⟨rfl,Nat.le_of_ble_eq_true rfl⟩ | ((try unfold maxLen); (try simp only [List.length_nil,List.length_cons,List.length_append]); omega) | (refine ⟨rfl,?_⟩; (try simp only [List.length_nil,List.length_cons,List.length_append]); omega)) ?_ | intro _)); (all_goals (conv => whnf))
  all_goals first | (exfalso; omega) | skip
  refine VC_loop Nat (fun i => [(2,.ptr 2 b2 0),(3,.ptr 3 b3 0),(60,.v (.int .i64 nr'.length)),(61,.v (.int .i64 i))])
    (fun _ => [.box 2 b2 [.int .i64 start',.slice ca' cls'.length cc',.slice na' nr'.length nc',.slice aa' acc'.length ac'] ty_api_Machine,.box 3 b3 [.int .i64 start',.slice ca cls'.length cc,.slice na nr.length nc,.slice aa acc'.length ac] ty_api_Machine]) (fun i => i ≤ nr'.length) (fun i => nr'.length - i) 0 (Nat.zero_le _) (by (repeat ((conv => whnf); refine And.intro (by first | exact rfl | exact vint_eq (by omega) | exact vint_eq (by (dsimp only; omega)) | exact vsl_eq (by omega) | exact vsl_eq (by first | (dsimp only; omega) | (simp; done) | (simp; omega))) ?_)); exact trivial) (Ref.takes [2,3] rfl (Thin.refl _)) ?_
  clear hi hlt
  intro i hi
  by_cases hlt : i < nr'.length
  case neg =>
    (repeat' ((conv => whnf); first | (refine bcase_prop (fun h => ?_) (fun h => ?_) <;> try (exfalso; omega)) | (refine bcase_nprop (fun h => ?_) (fun h => ?_) <;> try (exfalso; omega)) | (refine bcase_intro (fun h => ?_) (fun h => ?_) <;> (try simp only [Bool.not_eq_true',Bool.not_eq_false',decide_eq_true_eq,decide_eq_false_iff_not,Bool.not_eq_true,Bool.not_eq_false,Decidable.not_not] at h)) | refine And.intro (by first | omega | exact rfl | assumption | exact ⟨rfl,rfl,rfl,rfl,rfl⟩ | exact ⟨rfl,rfl,rfl,rfl⟩ | exact ⟨rfl,by omega⟩ | exact oneAll_of rfl | exact ⟨rfl,oneAll_of rfl⟩ | exact Ref.refl _ | exact Thin.ref (.skip (Thin.refl _)) | exact Thin.ref (.skip (.skip (Thin.refl _))) | exact ⟨rfl,Nat.le_of_ble_eq_true rfl⟩ | ((try unfold maxLen); (try simp only [List.length_nil,List.length_cons,List.length_append]); omega) | (refine ⟨rfl,?_⟩; (try simp only [List.length_nil,List.length_cons,List.length_append]); omega)) ?_ | intro _)); (all_goals (conv => whnf))
    all_goals first | (exfalso; omega) | exact ⟨rfl⟩
  obtain ⟨r',hr'⟩ : ∃ r,nr'[i]? = some r := ⟨_,List.getElem?_eq_getElem hlt⟩
  obtain ⟨r,hr⟩ : ∃ r,nr[i]? = some r := ⟨_,List.getElem?_eq_getElem (by omega)⟩
  have hm' : r' ∈ nr' := List.mem_of_getElem? hr'
  have hm : r ∈ nr := List.mem_of_getElem? hr
  have hxs : r'.xs = r.xs := by
    have := congrArg (fun l => l[i]?) hnr
    simp only [List.getElem?_map,hr,hr',Option.map_some,Option.some.injEq] at this
    exact this
  have rr' := fun {L : List Ent} => k2.rd (L := L) (k := i) (v := r'.v) (by rw [List.getElem?_map,hr']; rfl)
  have rr := fun {L : List Ent} => h2.rd (L := L) (k := i) (v := r.v) (by rw [List.getElem?_map,hr]; rfl)
  have n1 : na' ≠ none := k2.ne' (k := i) (by rw [List.length_map]; exact hlt)
  have n2 : na ≠ none := h2.ne' (k := i) (by rw [List.length_map]; omega)
  obtain ⟨bb,hbb⟩ : ∃ b,acc'[i]? = some b := ⟨_,List.getElem?_eq_getElem (by omega)⟩
  have ra' := fun {L : List Ent} => k3.rd (L := L) (k := i) (v := .bool bb) (by rw [List.getElem?_map,hbb]; rfl)
  have ra := fun {L : List Ent} => h3.rd (L := L) (k := i) (v := .bool bb) (by rw [List.getElem?_map,hbb]; rfl)
  have n3 : aa' ≠ none := k3.ne' (k := i) (by rw [List.length_map]; omega)
  have n4 : aa ≠ none := h3.ne' (k := i) (by rw [List.length_map]; omega)
  have q0 : ((i : Nat) : Int).toNat = i := by omega
  have hrl := hb.2.1 r hm
  have i1 := k4 r' hm'
  have i2 := h4 r hm
  obtain ⟨xs',a',c'⟩ := r'
  obtain ⟨xs,a,c⟩ := r
  dsimp only [RA.v] at *
  subst hxs
  (repeat' ((conv => whnf); first | rw [q0] | refine ⟨_,_,_,rr',?_⟩ | refine ⟨_,_,_,rr,?_⟩ | refine ⟨_,ra',?_⟩ | refine ⟨_,ra,?_⟩ | refine ⟨_,⟨rfl,trivial⟩,?_⟩ | (refine bcase_prop (fun h => ?_) (fun h => ?_) <;> try (exfalso; omega)) | (refine bcase_nprop (fun h => ?_) (fun h => ?_) <;> try (exfalso; omega)) | (refine bcase_intro (fun h => ?_) (fun h => ?_) <;> (try simp only [Bool.not_eq_true',Bool.not_eq_false',decide_eq_true_eq,decide_eq_false_iff_not,Bool.not_eq_true,Bool.not_eq_false,Decidable.not_not] at h)) | refine And.intro (by first | omega | exact rfl | assumption | exact ⟨rfl,rfl,rfl,rfl,rfl⟩ | exact ⟨rfl,rfl,rfl,rfl⟩ | exact ⟨rfl,by omega⟩ | exact oneAll_of rfl | exact ⟨rfl,oneAll_of rfl⟩ | exact Ref.refl _ | exact Thin.ref (.skip (Thin.refl _)) | exact Thin.ref (.skip (.skip (Thin.refl _))) | exact ⟨rfl,Nat.le_of_ble_eq_true rfl⟩ | ((try unfold maxLen); (try simp only [List.length_nil,List.length_cons,List.length_append]); omega) | (refine ⟨rfl,?_⟩; (try simp only [List.length_nil,List.length_cons,List.length_append]); omega)) ?_ | intro _)); (all_goals (conv => whnf))
  all_goals first | (exfalso; omega) | exact absurd rfl ‹¬ bb = bb› | skip
  all_goals
    refine VC_loop Nat (fun j => [(2,.ptr 2 b2 0),(3,.ptr 3 b3 0),(6,.v (.int .i64 i)),(60,.v (.int .i64 nr'.length)),(61,.v (.int .i64 i)),(95,.v (.int .i64 xs'.length)),(96,.v (.int .i64 j))])
      (fun _ => [.box 2 b2 [.int .i64 start',.slice ca' cls'.length cc',.slice na' nr'.length nc',.slice aa' acc'.length ac'] ty_api_Machine,.box 3 b3 [.int .i64 start',.slice ca cls'.length cc,.slice na nr.length nc,.slice aa acc'.length ac] ty_api_Machine]) (fun j => j ≤ xs'.length) (fun j => xs'.length - j) 0 (Nat.zero_le _) (by (repeat ((conv => whnf); refine And.intro (by first | exact rfl | exact vint_eq (by omega) | exact vint_eq (by (dsimp only; omega)) | exact vsl_eq (by omega) | exact vsl_eq (by first | (dsimp only; omega) | (simp; done) | (simp; omega))) ?_)); exact trivial) (Ref.takes [2,3] rfl (Thin.refl _)) ?_
    intro j hj
    by_cases hjl : j < xs'.length
    · have e1 := fun {L : List Ent} => rdI (L := L) i1 (i := j) hjl
      have e2 := fun {L : List Ent} => rdI (L := L) i2 (i := j) hjl
      have n5 : a' ≠ none := i1.ne' (k := j) (by rw [ints_length]; exact hjl)
      have n6 : a ≠ none := i2.ne' (k := j) (by rw [ints_length]; exact hjl)
      have q1 : ((j : Nat) : Int).toNat = j := by omega
      (repeat' ((conv => whnf); first | rw [q0] | rw [q1] | refine ⟨_,_,_,rr',?_⟩ | refine ⟨_,_,_,rr,?_⟩ | refine ⟨_,e1,?_⟩ | refine ⟨_,e2,?_⟩ | refine ⟨_,⟨rfl,trivial⟩,?_⟩ | (refine bcase_prop (fun h => ?_) (fun h => ?_) <;> try (exfalso; omega)) | (refine bcase_nprop (fun h => ?_) (fun h => ?_) <;> try (exfalso; omega)) | (refine bcase_intro (fun h => ?_) (fun h => ?_) <;> (try simp only [Bool.not_eq_true',Bool.not_eq_false',decide_eq_true_eq,decide_eq_false_iff_not,Bool.not_eq_true,Bool.not_eq_false,Decidable.not_not] at h)) | refine And.intro (by first | omega | exact rfl | assumption | exact ⟨rfl,rfl,rfl,rfl,rfl⟩ | exact ⟨rfl,rfl,rfl,rfl⟩ | exact ⟨rfl,by omega⟩ | exact oneAll_of rfl | exact ⟨rfl,oneAll_of rfl⟩ | exact Ref.refl _ | exact Thin.ref (.skip (Thin.refl _)) | exact Thin.ref (.skip (.skip (Thin.refl _))) | exact ⟨rfl,Nat.le_of_ble_eq_true rfl⟩ | ((try unfold maxLen); (try simp only [List.length_nil,List.length_cons,List.length_append]); omega) | (refine ⟨rfl,?_⟩; (try simp only [List.length_nil,List.length_cons,List.length_append]); omega)) ?_ | intro _)); (all_goals (conv => whnf))
      all_goals first | (exfalso; omega) | skip
      all_goals exact loop_next (j + 1) (by omega) (by omega) (by (repeat ((conv => whnf); refine And.intro (by first | exact rfl | exact vint_eq (by omega) | exact vint_eq (by (dsimp only; omega)) | exact vsl_eq (by omega) | exact vsl_eq (by first | (dsimp only; omega) | (simp; done) | (simp; omega))) ?_)); exact trivial) (Ref.takes [2,3] rfl (Thin.refl _))
    · obtain rfl : j = xs'.length := by omega
      (repeat' ((conv => whnf); first | (refine bcase_prop (fun h => ?_) (fun h => ?_) <;> try (exfalso; omega)) | (refine bcase_nprop (fun h => ?_) (fun h => ?_) <;> try (exfalso; omega)) | (refine bcase_intro (fun h => ?_) (fun h => ?_) <;> (try simp only [Bool.not_eq_true',Bool.not_eq_false',decide_eq_true_eq,decide_eq_false_iff_not,Bool.not_eq_true,Bool.not_eq_false,Decidable.not_not] at h)) | refine And.intro (by first | omega | exact rfl | assumption | exact ⟨rfl,rfl,rfl,rfl,rfl⟩ | exact ⟨rfl,rfl,rfl,rfl⟩ | exact ⟨rfl,by omega⟩ | exact oneAll_of rfl | exact ⟨rfl,oneAll_of rfl⟩ | exact Ref.refl _ | exact Thin.ref (.skip (Thin.refl _)) | exact Thin.ref (.skip (.skip (Thin.refl _))) | exact ⟨rfl,Nat.le_of_ble_eq_true rfl⟩ | ((try unfold maxLen); (try simp only [List.length_nil,List.length_cons,List.length_append]); omega) | (refine ⟨rfl,?_⟩; (try simp only [List.length_nil,List.length_cons,List.length_append]); omega)) ?_ | intro _)); (all_goals (conv => whnf))
      all_goals first | (exfalso; omega) | skip
      all_goals exact loop_next (i + 1) (by omega) (by omega) (by (repeat ((conv => whnf); refine And.intro (by first | exact rfl | exact vint_eq (by omega) | exact vint_eq (by (dsimp only; omega)) | exact vsl_eq (by omega) | exact vsl_eq (by first | (dsimp only; omega) | (simp; done) | (simp; omega))) ?_)); exact trivial) (Ref.takes [2,3] rfl (Thin.refl _))
structure FmG where
  i : Nat
  b : Bool
def sA : Sto := ⟨5,[mkE [] (letR 97)]⟩
theorem sA_put : stPut ⟨5,[]⟩ (letR 97) = (sA,1,0) := by rfl
theorem sA_wf : WF sA := by
  have := (stLet_wf (WF.new 5 (by decide)) (l := 97) (by decide)).1
  rw [sA_put] at this
  exact this
theorem hdec (x : Int) (h : 0 ≤ x) : (decide (1048576 < x) = false ↔ (false = false ∧ 0 ≤ x ∧ x ≤ 1048576)) := by
  rw [decide_eq_false_iff_not]
  exact ⟨fun k => ⟨rfl,h,by omega⟩,fun k => by omega⟩
theorem law_TransferForms (w : World) (x : IA) (hx : IIn w x) (id q : Int) (none_ : Bool) :
    Calls Try.prog fn_evergreenlaw33_TransferForms #[x.v,.int .i64 id,.int .i64 q,.bool none_] w fun e w' => e = .returned (.bool true) ∧ Ext w w' := by
  refine pure_call [.v x.v,.v (.int .i64 id),.v (.int .i64 q),.v (.bool none_)] w ok_evergreenlaw33_TransferForms (by simp) ?_
  have c0 := calls_awake33
  have hxm := hx.m
  have hxh := hx.h
  have hbl := hx.lr
  have hbn := hx.ln
  have cn := fun w => calls_New 5 77 w
  rw [show clipS 5 = 5 from rfl] at cn
  have cl := fun b => calls_Letter b ⟨5,[]⟩ 97 (by decide) (by decide)
  rw [sA_put] at cl
  have c4 := calls_Is 4 4 (by decide)
  have c5 := calls_Is 5 5 (by decide)
  have c1 := calls_Is 1 1 (by decide)
  have cc := fun w' h => calls_Check (w := w') x.m h ⟨hbn,hbl⟩
  by_cases hl : x.m.nr.length ≤ 300 ∧ x.H.length ≤ 300
  case neg =>
    obtain ⟨m,H,ha,hc,back⟩ := x
    dsimp only [IA.v,IA.cells] at *
    (repeat' ((conv => whnf); first | (first | refine CallK_pure (.v _) (fun w hR => c0 w) ?_ | refine QCall_pure (.v _) (fun w hR => c0 w) ?_) | refine ⟨_,⟨rfl,trivial⟩,?_⟩ | (refine bcase_prop (fun h => ?_) (fun h => ?_) <;> try (exfalso; omega)) | (refine bcase_nprop (fun h => ?_) (fun h => ?_) <;> try (exfalso; omega)) | (refine bcase_intro (fun h => ?_) (fun h => ?_) <;> (try simp only [Bool.not_eq_true',Bool.not_eq_false',decide_eq_true_eq,decide_eq_false_iff_not,Bool.not_eq_true,Bool.not_eq_false,Decidable.not_not] at h)) | refine And.intro (by first | omega | exact rfl | assumption | exact ⟨rfl,rfl,rfl,rfl,rfl⟩ | exact ⟨rfl,rfl,rfl,rfl⟩ | exact ⟨rfl,by omega⟩ | exact oneAll_of rfl | exact ⟨rfl,oneAll_of rfl⟩ | exact Ref.refl _ | exact Thin.ref (.skip (Thin.refl _)) | exact Thin.ref (.skip (.skip (Thin.refl _))) | exact ⟨rfl,Nat.le_of_ble_eq_true rfl⟩ | ((try unfold maxLen); (try simp only [List.length_nil,List.length_cons,List.length_append]); omega) | (refine ⟨rfl,?_⟩; (try simp only [List.length_nil,List.length_cons,List.length_append]); omega)) ?_ | intro _)); (all_goals (conv => whnf))
    all_goals first | (exfalso; omega) | exact ⟨rfl⟩
  have cN := fun w => calls_TabNil (w := w) x.m (.slice x.ha x.H.length x.hc) x.back
  have cB := fun bs (h : tabE x.m x.H ≠ 0) (w' : World) hm hh => calls_TabBad (w := w') bs x.m hm ⟨hbn,hbl⟩ x.H x.ha x.hc hh (by omega) x.back h
  have cT := fun bs (h : tabE x.m x.H = 0) (w' : World) hm hh => calls_TabNew 78 bs (fun _ => False) sA.E (w := w') x.m hm x.H x.ha x.hc hh x.back h
  have t0 := fun h => tabE_zero (x := x.m) (H := x.H) h
  have t1 := fun h1 h2 => tabE_ok (x := x.m) (H := x.H) h1 h2
  have t2 := fun h => tabE_chk (x := x.m) (H := x.H) h
  have t3 := fun h1 h2 => tabE_form (x := x.m) (H := x.H) h1 h2
  obtain ⟨m,H,ha,hc,back⟩ := x
  dsimp only [IA.v,IA.cells] at *
  cases none_
  case true =>
    have cP := calls_PartNil 0 0 0 0
    have n1 := fun w => (calls_TNil (w := w)).1
    have n2 := fun w => (calls_TNil (w := w)).2.1
    have n3 := fun w => (calls_TNil (w := w)).2.2.1
    have n4 := fun w => (calls_TNil (w := w)).2.2.2 0
    obtain ⟨E,hE⟩ : ∃ E,errO (chkM m.m) = E := ⟨_,rfl⟩
    rw [hE] at cc
    (repeat' ((conv => whnf); first | (first | refine CallK_pure (.v _) (fun w hR => c0 w) ?_ | refine QCall_pure (.v _) (fun w hR => c0 w) ?_) | (refine CallK_new (fun w hR => cn w) ?_; rintro _ _ ⟨bn,fpn,rfl,rfl⟩; refine ⟨.v _,rfl,?_⟩) | (refine CallK_pack (key := 77) rfl (fun w hR h0 => cl _ _ _ _ h0) ?_; rintro _ _ ⟨rfl,fp',rfl⟩; refine ⟨.v _,rfl,?_⟩) | (refine CallK_pure (.v _) (fun w' hR => cc w' (hxm.cast hR)) ?_) | refine ⟨_,⟨rfl,trivial⟩,?_⟩ | (first | refine CallK_pure (.v _) (fun w hR => cN w) ?_ | refine QCall_pure (.v _) (fun w hR => cN w) ?_) | (refine bcase_prop (fun h => ?_) (fun h => ?_) <;> try (exfalso; omega)) | (refine bcase_nprop (fun h => ?_) (fun h => ?_) <;> try (exfalso; omega)) | (refine bcase_intro (fun h => ?_) (fun h => ?_) <;> (try simp only [Bool.not_eq_true',Bool.not_eq_false',decide_eq_true_eq,decide_eq_false_iff_not,Bool.not_eq_true,Bool.not_eq_false,Decidable.not_not] at h)) | refine And.intro (by first | omega | exact rfl | assumption | exact ⟨rfl,rfl,rfl,rfl,rfl⟩ | exact ⟨rfl,rfl,rfl,rfl⟩ | exact ⟨rfl,by omega⟩ | exact oneAll_of rfl | exact ⟨rfl,oneAll_of rfl⟩ | exact Ref.refl _ | exact Thin.ref (.skip (Thin.refl _)) | exact Thin.ref (.skip (.skip (Thin.refl _))) | exact ⟨rfl,Nat.le_of_ble_eq_true rfl⟩ | ((try unfold maxLen); (try simp only [List.length_nil,List.length_cons,List.length_append]); omega) | (refine ⟨rfl,?_⟩; (try simp only [List.length_nil,List.length_cons,List.length_append]); omega)) ?_ | intro _)); (all_goals (conv => whnf))
    all_goals first | (exfalso; omega) | skip
    rename_i b4 _
    refine VC_loop FmG (fun z => [(1,.v (.int .i64 id)),(2,.v (.int .i64 q)),(3,.v (.bool true)),(4,.ptr 4 b4 0),(9,.v (.pointer none)),(10,.v (.int .i64 1)),(12,.v (.pointer none)),(13,.v (errV 5)),(14,.v E),(15,.v (.bool z.b)),(79,.v (.slice ha H.length hc)),(80,.v (.int .i64 H.length)),(81,.v (.int .i64 z.i))])
      (fun _ => [.box 4 b4 [.int .i64 m.start,.slice m.ca m.cls.length m.cc,.slice m.na m.nr.length m.nc,.slice m.aa m.acc.length m.ac,.slice ha H.length hc,.bool back] ty_evergreenlaw33_In]) (fun z => z.i ≤ H.length ∧ (z.b = false ↔ ((H.length : Int) = m.nr.length ∧ ∀ h ∈ H.take z.i,0 ≤ h ∧ h ≤ 1048576))) (fun z => H.length - z.i) ⟨0,!decide ((H.length : Int) = m.nr.length)⟩ ⟨Nat.zero_le _,by simp⟩ (by (repeat ((conv => whnf); refine And.intro (by first | exact rfl | exact vint_eq (by omega) | exact vint_eq (by (dsimp only; omega)) | exact vsl_eq (by omega) | exact vsl_eq (by first | (dsimp only; omega) | (simp; done) | (simp; omega))) ?_)); exact trivial) (Ref.takes [4] rfl (Thin.refl _)) ?_
    rintro ⟨i,fb⟩ ⟨hi,hfb⟩
    dsimp only at hi hfb ⊢
    by_cases hlt : i < H.length
    · have rdh := fun {L : List Ent} => rdI (L := L) hxh (i := i) hlt
      have nh : ha ≠ none := hxh.ne' (k := i) (by rw [ints_length]; exact hlt)
      have q0 : ((i : Nat) : Int).toNat = i := by omega
      have htk : H.take (i + 1) = H.take i ++ [H.getD i 0] := by
        rw [List.take_add_one,List.getD_eq_getElem?_getD,List.getElem?_eq_getElem hlt]; rfl
      have hstep : ∀ b' : Bool,(b' = false ↔ (fb = false ∧ 0 ≤ H.getD i 0 ∧ H.getD i 0 ≤ 1048576)) → (b' = false ↔ ((H.length : Int) = m.nr.length ∧ ∀ h ∈ H.take (i + 1),0 ≤ h ∧ h ≤ 1048576)) := fun b' hb' => by
        rw [hb',hfb,htk]
        constructor
        · rintro ⟨⟨e1,e2⟩,e3⟩
          refine ⟨e1,fun h hm => ?_⟩
          rcases List.mem_append.1 hm with hm | hm
          · exact e2 h hm
          · rw [List.mem_singleton.1 hm]; exact e3
        · rintro ⟨e1,e2⟩
          exact ⟨⟨e1,fun h hm => e2 h (List.mem_append_left _ hm)⟩,e2 _ (by simp)⟩
      cases fb
      · by_cases hneg : H.getD i 0 < 0
        · (repeat' ((conv => whnf); first | rw [q0] | refine ⟨_,rdh,?_⟩ | refine ⟨_,⟨rfl,trivial⟩,?_⟩ | (refine bcase_prop (fun h => ?_) (fun h => ?_) <;> try (exfalso; omega)) | (refine bcase_nprop (fun h => ?_) (fun h => ?_) <;> try (exfalso; omega)) | (refine bcase_intro (fun h => ?_) (fun h => ?_) <;> (try simp only [Bool.not_eq_true',Bool.not_eq_false',decide_eq_true_eq,decide_eq_false_iff_not,Bool.not_eq_true,Bool.not_eq_false,Decidable.not_not] at h)) | refine And.intro (by first | omega | exact rfl | assumption | exact ⟨rfl,rfl,rfl,rfl,rfl⟩ | exact ⟨rfl,rfl,rfl,rfl⟩ | exact ⟨rfl,by omega⟩ | exact oneAll_of rfl | exact ⟨rfl,oneAll_of rfl⟩ | exact Ref.refl _ | exact Thin.ref (.skip (Thin.refl _)) | exact Thin.ref (.skip (.skip (Thin.refl _))) | exact ⟨rfl,Nat.le_of_ble_eq_true rfl⟩ | ((try unfold maxLen); (try simp only [List.length_nil,List.length_cons,List.length_append]); omega) | (refine ⟨rfl,?_⟩; (try simp only [List.length_nil,List.length_cons,List.length_append]); omega)) ?_ | intro _)); (all_goals (conv => whnf))
          all_goals first | (exfalso; omega) | skip
          all_goals exact loop_next ⟨i + 1,true⟩ ⟨hlt,hstep true ⟨fun h => Bool.noConfusion h,fun h => absurd h.2.1 (by omega)⟩⟩ (show H.length - (i + 1) < H.length - i by omega) (by (repeat ((conv => whnf); refine And.intro (by first | exact rfl | exact vint_eq (by omega) | exact vint_eq (by (dsimp only; omega)) | exact vsl_eq (by omega) | exact vsl_eq (by first | (dsimp only; omega) | (simp; done) | (simp; omega))) ?_)); exact trivial) (Ref.takes [4] rfl (Thin.refl _))
        · (repeat' ((conv => whnf); first | rw [q0] | refine ⟨_,rdh,?_⟩ | refine ⟨_,⟨rfl,trivial⟩,?_⟩ | (refine bcase_prop (fun h => ?_) (fun h => ?_) <;> try (exfalso; omega)) | (refine bcase_nprop (fun h => ?_) (fun h => ?_) <;> try (exfalso; omega)) | (refine bcase_intro (fun h => ?_) (fun h => ?_) <;> (try simp only [Bool.not_eq_true',Bool.not_eq_false',decide_eq_true_eq,decide_eq_false_iff_not,Bool.not_eq_true,Bool.not_eq_false,Decidable.not_not] at h)) | refine And.intro (by first | omega | exact rfl | assumption | exact ⟨rfl,rfl,rfl,rfl,rfl⟩ | exact ⟨rfl,rfl,rfl,rfl⟩ | exact ⟨rfl,by omega⟩ | exact oneAll_of rfl | exact ⟨rfl,oneAll_of rfl⟩ | exact Ref.refl _ | exact Thin.ref (.skip (Thin.refl _)) | exact Thin.ref (.skip (.skip (Thin.refl _))) | exact ⟨rfl,Nat.le_of_ble_eq_true rfl⟩ | ((try unfold maxLen); (try simp only [List.length_nil,List.length_cons,List.length_append]); omega) | (refine ⟨rfl,?_⟩; (try simp only [List.length_nil,List.length_cons,List.length_append]); omega)) ?_ | intro _)); (all_goals (conv => whnf))
          all_goals first | (exfalso; omega) | skip
          all_goals exact loop_next ⟨i + 1,decide (1048576 < H.getD i 0)⟩ ⟨hlt,hstep _ (hdec _ (by omega))⟩ (show H.length - (i + 1) < H.length - i by omega) (by (repeat ((conv => whnf); refine And.intro (by first | exact rfl | exact vint_eq (by omega) | exact vint_eq (by (dsimp only; omega)) | exact vsl_eq (by omega) | exact vsl_eq (by first | (dsimp only; omega) | (simp; done) | (simp; omega))) ?_)); exact trivial) (Ref.takes [4] rfl (Thin.refl _))
      · (repeat' ((conv => whnf); first | rw [q0] | refine ⟨_,rdh,?_⟩ | refine ⟨_,⟨rfl,trivial⟩,?_⟩ | (refine bcase_prop (fun h => ?_) (fun h => ?_) <;> try (exfalso; omega)) | (refine bcase_nprop (fun h => ?_) (fun h => ?_) <;> try (exfalso; omega)) | (refine bcase_intro (fun h => ?_) (fun h => ?_) <;> (try simp only [Bool.not_eq_true',Bool.not_eq_false',decide_eq_true_eq,decide_eq_false_iff_not,Bool.not_eq_true,Bool.not_eq_false,Decidable.not_not] at h)) | refine And.intro (by first | omega | exact rfl | assumption | exact ⟨rfl,rfl,rfl,rfl,rfl⟩ | exact ⟨rfl,rfl,rfl,rfl⟩ | exact ⟨rfl,by omega⟩ | exact oneAll_of rfl | exact ⟨rfl,oneAll_of rfl⟩ | exact Ref.refl _ | exact Thin.ref (.skip (Thin.refl _)) | exact Thin.ref (.skip (.skip (Thin.refl _))) | exact ⟨rfl,Nat.le_of_ble_eq_true rfl⟩ | ((try unfold maxLen); (try simp only [List.length_nil,List.length_cons,List.length_append]); omega) | (refine ⟨rfl,?_⟩; (try simp only [List.length_nil,List.length_cons,List.length_append]); omega)) ?_ | intro _)); (all_goals (conv => whnf))
        all_goals first | (exfalso; omega) | skip
        all_goals exact loop_next ⟨i + 1,true⟩ ⟨hlt,hstep true ⟨fun h => Bool.noConfusion h,fun h => h.1⟩⟩ (show H.length - (i + 1) < H.length - i by omega) (by (repeat ((conv => whnf); refine And.intro (by first | exact rfl | exact vint_eq (by omega) | exact vint_eq (by (dsimp only; omega)) | exact vsl_eq (by omega) | exact vsl_eq (by first | (dsimp only; omega) | (simp; done) | (simp; omega))) ?_)); exact trivial) (Ref.takes [4] rfl (Thin.refl _))
    rw [List.take_of_length_le (by omega)] at hfb
    (repeat' ((conv => whnf); first | (first | refine CallK_pure (.v _) (fun w hR => cP w) ?_ | refine QCall_pure (.v _) (fun w hR => cP w) ?_) | (first | refine CallK_pure (.v _) (fun w hR => n1 w) ?_ | refine QCall_pure (.v _) (fun w hR => n1 w) ?_) | (first | refine CallK_pure (.v _) (fun w hR => n2 w) ?_ | refine QCall_pure (.v _) (fun w hR => n2 w) ?_) | (first | refine CallK_pure (.v _) (fun w hR => n3 w) ?_ | refine QCall_pure (.v _) (fun w hR => n3 w) ?_) | (first | refine CallK_pure (.v _) (fun w hR => n4 w) ?_ | refine QCall_pure (.v _) (fun w hR => n4 w) ?_) | (first | refine CallK_pure (.v _) (fun w hR => c5 w) ?_ | refine QCall_pure (.v _) (fun w hR => c5 w) ?_) | refine ⟨_,⟨rfl,trivial⟩,?_⟩ | (refine bcase_prop (fun h => ?_) (fun h => ?_) <;> try (exfalso; omega)) | (refine bcase_nprop (fun h => ?_) (fun h => ?_) <;> try (exfalso; omega)) | (refine bcase_intro (fun h => ?_) (fun h => ?_) <;> (try simp only [Bool.not_eq_true',Bool.not_eq_false',decide_eq_true_eq,decide_eq_false_iff_not,Bool.not_eq_true,Bool.not_eq_false,Decidable.not_not] at h)) | refine And.intro (by first | omega | exact rfl | assumption | exact ⟨rfl,rfl,rfl,rfl,rfl⟩ | exact ⟨rfl,rfl,rfl,rfl⟩ | exact ⟨rfl,by omega⟩ | exact oneAll_of rfl | exact ⟨rfl,oneAll_of rfl⟩ | exact Ref.refl _ | exact Thin.ref (.skip (Thin.refl _)) | exact Thin.ref (.skip (.skip (Thin.refl _))) | exact ⟨rfl,Nat.le_of_ble_eq_true rfl⟩ | ((try unfold maxLen); (try simp only [List.length_nil,List.length_cons,List.length_append]); omega) | (refine ⟨rfl,?_⟩; (try simp only [List.length_nil,List.length_cons,List.length_append]); omega)) ?_ | intro _)); (all_goals (conv => whnf))
    all_goals first | (exfalso; omega) | exact ⟨rfl⟩
  by_cases hz : tabE m H = 0
  case neg =>
    by_cases hch : chkM m.m = 0
    · have h4 := t3 hch (fun h => hz (t1 hch h))
      have cB := fun bs w' h1 h2 => cB bs hz w' h1 h2
      rw [h4] at cB
      rw [hch] at cc
      (repeat' ((conv => whnf); first | (first | refine CallK_pure (.v _) (fun w hR => c0 w) ?_ | refine QCall_pure (.v _) (fun w hR => c0 w) ?_) | (refine CallK_new (fun w hR => cn w) ?_; rintro _ _ ⟨bn,fpn,rfl,rfl⟩; refine ⟨.v _,rfl,?_⟩) | (refine CallK_pack (key := 77) rfl (fun w hR h0 => cl _ _ _ _ h0) ?_; rintro _ _ ⟨rfl,fp',rfl⟩; refine ⟨.v _,rfl,?_⟩) | (refine CallK_pure (.v _) (fun w' hR => cc w' (hxm.cast hR)) ?_) | refine ⟨_,⟨rfl,trivial⟩,?_⟩ | (refine CallK_pure (.v _) (fun w' hR => cB _ w' (hxm.cast hR) (hxh.cast hR (fun _ h => nomatch h))) ?_) | (refine bcase_prop (fun h => ?_) (fun h => ?_) <;> try (exfalso; omega)) | (refine bcase_nprop (fun h => ?_) (fun h => ?_) <;> try (exfalso; omega)) | (refine bcase_intro (fun h => ?_) (fun h => ?_) <;> (try simp only [Bool.not_eq_true',Bool.not_eq_false',decide_eq_true_eq,decide_eq_false_iff_not,Bool.not_eq_true,Bool.not_eq_false,Decidable.not_not] at h)) | refine And.intro (by first | omega | exact rfl | assumption | exact ⟨rfl,rfl,rfl,rfl,rfl⟩ | exact ⟨rfl,rfl,rfl,rfl⟩ | exact ⟨rfl,by omega⟩ | exact oneAll_of rfl | exact ⟨rfl,oneAll_of rfl⟩ | exact Ref.refl _ | exact Thin.ref (.skip (Thin.refl _)) | exact Thin.ref (.skip (.skip (Thin.refl _))) | exact ⟨rfl,Nat.le_of_ble_eq_true rfl⟩ | ((try unfold maxLen); (try simp only [List.length_nil,List.length_cons,List.length_append]); omega) | (refine ⟨rfl,?_⟩; (try simp only [List.length_nil,List.length_cons,List.length_append]); omega)) ?_ | intro _)); (all_goals (conv => whnf))
      all_goals first | (exfalso; omega) | skip
      rename_i b4 _
      refine VC_loop FmG (fun z => [(1,.v (.int .i64 id)),(2,.v (.int .i64 q)),(3,.v (.bool false)),(4,.ptr 4 b4 0),(9,.v (pS bn)),(10,.v (.int .i64 1)),(12,.v (.pointer none)),(13,.v (errV 4)),(14,.v .nilIface),(15,.v (.bool z.b)),(79,.v (.slice ha H.length hc)),(80,.v (.int .i64 H.length)),(81,.v (.int .i64 z.i))])
        (fun _ => [.box 4 b4 [.int .i64 m.start,.slice m.ca m.cls.length m.cc,.slice m.na m.nr.length m.nc,.slice m.aa m.acc.length m.ac,.slice ha H.length hc,.bool back] ty_evergreenlaw33_In]) (fun z => z.i ≤ H.length ∧ (z.b = false ↔ ((H.length : Int) = m.nr.length ∧ ∀ h ∈ H.take z.i,0 ≤ h ∧ h ≤ 1048576))) (fun z => H.length - z.i) ⟨0,!decide ((H.length : Int) = m.nr.length)⟩ ⟨Nat.zero_le _,by simp⟩ (by (repeat ((conv => whnf); refine And.intro (by first | exact rfl | exact vint_eq (by omega) | exact vint_eq (by (dsimp only; omega)) | exact vsl_eq (by omega) | exact vsl_eq (by first | (dsimp only; omega) | (simp; done) | (simp; omega))) ?_)); exact trivial) (Ref.takes [4] rfl (Thin.refl _)) ?_
      rintro ⟨i,fb⟩ ⟨hi,hfb⟩
      dsimp only at hi hfb ⊢
      by_cases hlt : i < H.length
      · have rdh := fun {L : List Ent} => rdI (L := L) hxh (i := i) hlt
        have nh : ha ≠ none := hxh.ne' (k := i) (by rw [ints_length]; exact hlt)
        have q0 : ((i : Nat) : Int).toNat = i := by omega
        have htk : H.take (i + 1) = H.take i ++ [H.getD i 0] := by
          rw [List.take_add_one,List.getD_eq_getElem?_getD,List.getElem?_eq_getElem hlt]; rfl
        have hstep : ∀ b' : Bool,(b' = false ↔ (fb = false ∧ 0 ≤ H.getD i 0 ∧ H.getD i 0 ≤ 1048576)) → (b' = false ↔ ((H.length : Int) = m.nr.length ∧ ∀ h ∈ H.take (i + 1),0 ≤ h ∧ h ≤ 1048576)) := fun b' hb' => by
          rw [hb',hfb,htk]
          constructor
          · rintro ⟨⟨e1,e2⟩,e3⟩
            refine ⟨e1,fun h hm => ?_⟩
            rcases List.mem_append.1 hm with hm | hm
            · exact e2 h hm
            · rw [List.mem_singleton.1 hm]; exact e3
          · rintro ⟨e1,e2⟩
            exact ⟨⟨e1,fun h hm => e2 h (List.mem_append_left _ hm)⟩,e2 _ (by simp)⟩
        cases fb
        · by_cases hneg : H.getD i 0 < 0
          · (repeat' ((conv => whnf); first | rw [q0] | refine ⟨_,rdh,?_⟩ | refine ⟨_,⟨rfl,trivial⟩,?_⟩ | (refine bcase_prop (fun h => ?_) (fun h => ?_) <;> try (exfalso; omega)) | (refine bcase_nprop (fun h => ?_) (fun h => ?_) <;> try (exfalso; omega)) | (refine bcase_intro (fun h => ?_) (fun h => ?_) <;> (try simp only [Bool.not_eq_true',Bool.not_eq_false',decide_eq_true_eq,decide_eq_false_iff_not,Bool.not_eq_true,Bool.not_eq_false,Decidable.not_not] at h)) | refine And.intro (by first | omega | exact rfl | assumption | exact ⟨rfl,rfl,rfl,rfl,rfl⟩ | exact ⟨rfl,rfl,rfl,rfl⟩ | exact ⟨rfl,by omega⟩ | exact oneAll_of rfl | exact ⟨rfl,oneAll_of rfl⟩ | exact Ref.refl _ | exact Thin.ref (.skip (Thin.refl _)) | exact Thin.ref (.skip (.skip (Thin.refl _))) | exact ⟨rfl,Nat.le_of_ble_eq_true rfl⟩ | ((try unfold maxLen); (try simp only [List.length_nil,List.length_cons,List.length_append]); omega) | (refine ⟨rfl,?_⟩; (try simp only [List.length_nil,List.length_cons,List.length_append]); omega)) ?_ | intro _)); (all_goals (conv => whnf))
            all_goals first | (exfalso; omega) | skip
            all_goals exact loop_next ⟨i + 1,true⟩ ⟨hlt,hstep true ⟨fun h => Bool.noConfusion h,fun h => absurd h.2.1 (by omega)⟩⟩ (show H.length - (i + 1) < H.length - i by omega) (by (repeat ((conv => whnf); refine And.intro (by first | exact rfl | exact vint_eq (by omega) | exact vint_eq (by (dsimp only; omega)) | exact vsl_eq (by omega) | exact vsl_eq (by first | (dsimp only; omega) | (simp; done) | (simp; omega))) ?_)); exact trivial) (Ref.takes [4] rfl (Thin.refl _))
          · (repeat' ((conv => whnf); first | rw [q0] | refine ⟨_,rdh,?_⟩ | refine ⟨_,⟨rfl,trivial⟩,?_⟩ | (refine bcase_prop (fun h => ?_) (fun h => ?_) <;> try (exfalso; omega)) | (refine bcase_nprop (fun h => ?_) (fun h => ?_) <;> try (exfalso; omega)) | (refine bcase_intro (fun h => ?_) (fun h => ?_) <;> (try simp only [Bool.not_eq_true',Bool.not_eq_false',decide_eq_true_eq,decide_eq_false_iff_not,Bool.not_eq_true,Bool.not_eq_false,Decidable.not_not] at h)) | refine And.intro (by first | omega | exact rfl | assumption | exact ⟨rfl,rfl,rfl,rfl,rfl⟩ | exact ⟨rfl,rfl,rfl,rfl⟩ | exact ⟨rfl,by omega⟩ | exact oneAll_of rfl | exact ⟨rfl,oneAll_of rfl⟩ | exact Ref.refl _ | exact Thin.ref (.skip (Thin.refl _)) | exact Thin.ref (.skip (.skip (Thin.refl _))) | exact ⟨rfl,Nat.le_of_ble_eq_true rfl⟩ | ((try unfold maxLen); (try simp only [List.length_nil,List.length_cons,List.length_append]); omega) | (refine ⟨rfl,?_⟩; (try simp only [List.length_nil,List.length_cons,List.length_append]); omega)) ?_ | intro _)); (all_goals (conv => whnf))
            all_goals first | (exfalso; omega) | skip
            all_goals exact loop_next ⟨i + 1,decide (1048576 < H.getD i 0)⟩ ⟨hlt,hstep _ (hdec _ (by omega))⟩ (show H.length - (i + 1) < H.length - i by omega) (by (repeat ((conv => whnf); refine And.intro (by first | exact rfl | exact vint_eq (by omega) | exact vint_eq (by (dsimp only; omega)) | exact vsl_eq (by omega) | exact vsl_eq (by first | (dsimp only; omega) | (simp; done) | (simp; omega))) ?_)); exact trivial) (Ref.takes [4] rfl (Thin.refl _))
        · (repeat' ((conv => whnf); first | rw [q0] | refine ⟨_,rdh,?_⟩ | refine ⟨_,⟨rfl,trivial⟩,?_⟩ | (refine bcase_prop (fun h => ?_) (fun h => ?_) <;> try (exfalso; omega)) | (refine bcase_nprop (fun h => ?_) (fun h => ?_) <;> try (exfalso; omega)) | (refine bcase_intro (fun h => ?_) (fun h => ?_) <;> (try simp only [Bool.not_eq_true',Bool.not_eq_false',decide_eq_true_eq,decide_eq_false_iff_not,Bool.not_eq_true,Bool.not_eq_false,Decidable.not_not] at h)) | refine And.intro (by first | omega | exact rfl | assumption | exact ⟨rfl,rfl,rfl,rfl,rfl⟩ | exact ⟨rfl,rfl,rfl,rfl⟩ | exact ⟨rfl,by omega⟩ | exact oneAll_of rfl | exact ⟨rfl,oneAll_of rfl⟩ | exact Ref.refl _ | exact Thin.ref (.skip (Thin.refl _)) | exact Thin.ref (.skip (.skip (Thin.refl _))) | exact ⟨rfl,Nat.le_of_ble_eq_true rfl⟩ | ((try unfold maxLen); (try simp only [List.length_nil,List.length_cons,List.length_append]); omega) | (refine ⟨rfl,?_⟩; (try simp only [List.length_nil,List.length_cons,List.length_append]); omega)) ?_ | intro _)); (all_goals (conv => whnf))
          all_goals first | (exfalso; omega) | skip
          all_goals exact loop_next ⟨i + 1,true⟩ ⟨hlt,hstep true ⟨fun h => Bool.noConfusion h,fun h => h.1⟩⟩ (show H.length - (i + 1) < H.length - i by omega) (by (repeat ((conv => whnf); refine And.intro (by first | exact rfl | exact vint_eq (by omega) | exact vint_eq (by (dsimp only; omega)) | exact vsl_eq (by omega) | exact vsl_eq (by first | (dsimp only; omega) | (simp; done) | (simp; omega))) ?_)); exact trivial) (Ref.takes [4] rfl (Thin.refl _))
      rw [List.take_of_length_le (by omega)] at hfb
      have hbt : fb = true := by
        cases fb
        · obtain ⟨e1,e2⟩ := hfb.1 rfl
          exact absurd (t1 hch ⟨by omega,e2⟩) hz
        · rfl
      subst hbt
      (repeat' ((conv => whnf); first | (first | refine CallK_pure (.v _) (fun w hR => c4 w) ?_ | refine QCall_pure (.v _) (fun w hR => c4 w) ?_) | refine ⟨_,⟨rfl,trivial⟩,?_⟩ | (refine bcase_prop (fun h => ?_) (fun h => ?_) <;> try (exfalso; omega)) | (refine bcase_nprop (fun h => ?_) (fun h => ?_) <;> try (exfalso; omega)) | (refine bcase_intro (fun h => ?_) (fun h => ?_) <;> (try simp only [Bool.not_eq_true',Bool.not_eq_false',decide_eq_true_eq,decide_eq_false_iff_not,Bool.not_eq_true,Bool.not_eq_false,Decidable.not_not] at h)) | refine And.intro (by first | omega | exact rfl | assumption | exact ⟨rfl,rfl,rfl,rfl,rfl⟩ | exact ⟨rfl,rfl,rfl,rfl⟩ | exact ⟨rfl,by omega⟩ | exact oneAll_of rfl | exact ⟨rfl,oneAll_of rfl⟩ | exact Ref.refl _ | exact Thin.ref (.skip (Thin.refl _)) | exact Thin.ref (.skip (.skip (Thin.refl _))) | exact ⟨rfl,Nat.le_of_ble_eq_true rfl⟩ | ((try unfold maxLen); (try simp only [List.length_nil,List.length_cons,List.length_append]); omega) | (refine ⟨rfl,?_⟩; (try simp only [List.length_nil,List.length_cons,List.length_append]); omega)) ?_ | intro _)); (all_goals (conv => whnf))
      all_goals first | (exfalso; omega) | exact ⟨rfl⟩
    · have h4 := t2 hch
      have cB := fun bs w' h1 h2 => cB bs hz w' h1 h2
      rw [h4] at cB
      rw [errO_ne hch] at cc
      have cnum := calls_Num (chkM m.m : Int)
      generalize chkM m.m = Z at *
      (repeat' ((conv => whnf); first | (first | refine CallK_pure (.v _) (fun w hR => c0 w) ?_ | refine QCall_pure (.v _) (fun w hR => c0 w) ?_) | (refine CallK_new (fun w hR => cn w) ?_; rintro _ _ ⟨bn,fpn,rfl,rfl⟩; refine ⟨.v _,rfl,?_⟩) | (refine CallK_pack (key := 77) rfl (fun w hR h0 => cl _ _ _ _ h0) ?_; rintro _ _ ⟨rfl,fp',rfl⟩; refine ⟨.v _,rfl,?_⟩) | (refine CallK_pure (.v _) (fun w' hR => cc w' (hxm.cast hR)) ?_) | refine ⟨_,⟨rfl,trivial⟩,?_⟩ | (refine CallK_pure (.v _) (fun w' hR => cB _ w' (hxm.cast hR) (hxh.cast hR (fun _ h => nomatch h))) ?_) | (refine bcase_prop (fun h => ?_) (fun h => ?_) <;> try (exfalso; omega)) | (refine bcase_nprop (fun h => ?_) (fun h => ?_) <;> try (exfalso; omega)) | (refine bcase_intro (fun h => ?_) (fun h => ?_) <;> (try simp only [Bool.not_eq_true',Bool.not_eq_false',decide_eq_true_eq,decide_eq_false_iff_not,Bool.not_eq_true,Bool.not_eq_false,Decidable.not_not] at h)) | refine And.intro (by first | omega | exact rfl | assumption | exact ⟨rfl,rfl,rfl,rfl,rfl⟩ | exact ⟨rfl,rfl,rfl,rfl⟩ | exact ⟨rfl,by omega⟩ | exact oneAll_of rfl | exact ⟨rfl,oneAll_of rfl⟩ | exact Ref.refl _ | exact Thin.ref (.skip (Thin.refl _)) | exact Thin.ref (.skip (.skip (Thin.refl _))) | exact ⟨rfl,Nat.le_of_ble_eq_true rfl⟩ | ((try unfold maxLen); (try simp only [List.length_nil,List.length_cons,List.length_append]); omega) | (refine ⟨rfl,?_⟩; (try simp only [List.length_nil,List.length_cons,List.length_append]); omega)) ?_ | intro _)); (all_goals (conv => whnf))
      all_goals first | (exfalso; omega) | skip
      rename_i b4 _
      refine VC_loop FmG (fun z => [(1,.v (.int .i64 id)),(2,.v (.int .i64 q)),(3,.v (.bool false)),(4,.ptr 4 b4 0),(9,.v (pS bn)),(10,.v (.int .i64 1)),(12,.v (.pointer none)),(13,.v (errV (Z : Int))),(14,.v (errV (Z : Int))),(15,.v (.bool z.b)),(79,.v (.slice ha H.length hc)),(80,.v (.int .i64 H.length)),(81,.v (.int .i64 z.i))])
        (fun _ => [.box 4 b4 [.int .i64 m.start,.slice m.ca m.cls.length m.cc,.slice m.na m.nr.length m.nc,.slice m.aa m.acc.length m.ac,.slice ha H.length hc,.bool back] ty_evergreenlaw33_In]) (fun z => z.i ≤ H.length ∧ (z.b = false ↔ ((H.length : Int) = m.nr.length ∧ ∀ h ∈ H.take z.i,0 ≤ h ∧ h ≤ 1048576))) (fun z => H.length - z.i) ⟨0,!decide ((H.length : Int) = m.nr.length)⟩ ⟨Nat.zero_le _,by simp⟩ (by (repeat ((conv => whnf); refine And.intro (by first | exact rfl | exact vint_eq (by omega) | exact vint_eq (by (dsimp only; omega)) | exact vsl_eq (by omega) | exact vsl_eq (by first | (dsimp only; omega) | (simp; done) | (simp; omega))) ?_)); exact trivial) (Ref.takes [4] rfl (Thin.refl _)) ?_
      rintro ⟨i,fb⟩ ⟨hi,hfb⟩
      dsimp only at hi hfb ⊢
      by_cases hlt : i < H.length
      · have rdh := fun {L : List Ent} => rdI (L := L) hxh (i := i) hlt
        have nh : ha ≠ none := hxh.ne' (k := i) (by rw [ints_length]; exact hlt)
        have q0 : ((i : Nat) : Int).toNat = i := by omega
        have htk : H.take (i + 1) = H.take i ++ [H.getD i 0] := by
          rw [List.take_add_one,List.getD_eq_getElem?_getD,List.getElem?_eq_getElem hlt]; rfl
        have hstep : ∀ b' : Bool,(b' = false ↔ (fb = false ∧ 0 ≤ H.getD i 0 ∧ H.getD i 0 ≤ 1048576)) → (b' = false ↔ ((H.length : Int) = m.nr.length ∧ ∀ h ∈ H.take (i + 1),0 ≤ h ∧ h ≤ 1048576)) := fun b' hb' => by
          rw [hb',hfb,htk]
          constructor
          · rintro ⟨⟨e1,e2⟩,e3⟩
            refine ⟨e1,fun h hm => ?_⟩
            rcases List.mem_append.1 hm with hm | hm
            · exact e2 h hm
            · rw [List.mem_singleton.1 hm]; exact e3
          · rintro ⟨e1,e2⟩
            exact ⟨⟨e1,fun h hm => e2 h (List.mem_append_left _ hm)⟩,e2 _ (by simp)⟩
        cases fb
        · by_cases hneg : H.getD i 0 < 0
          · (repeat' ((conv => whnf); first | rw [q0] | refine ⟨_,rdh,?_⟩ | refine ⟨_,⟨rfl,trivial⟩,?_⟩ | (refine bcase_prop (fun h => ?_) (fun h => ?_) <;> try (exfalso; omega)) | (refine bcase_nprop (fun h => ?_) (fun h => ?_) <;> try (exfalso; omega)) | (refine bcase_intro (fun h => ?_) (fun h => ?_) <;> (try simp only [Bool.not_eq_true',Bool.not_eq_false',decide_eq_true_eq,decide_eq_false_iff_not,Bool.not_eq_true,Bool.not_eq_false,Decidable.not_not] at h)) | refine And.intro (by first | omega | exact rfl | assumption | exact ⟨rfl,rfl,rfl,rfl,rfl⟩ | exact ⟨rfl,rfl,rfl,rfl⟩ | exact ⟨rfl,by omega⟩ | exact oneAll_of rfl | exact ⟨rfl,oneAll_of rfl⟩ | exact Ref.refl _ | exact Thin.ref (.skip (Thin.refl _)) | exact Thin.ref (.skip (.skip (Thin.refl _))) | exact ⟨rfl,Nat.le_of_ble_eq_true rfl⟩ | ((try unfold maxLen); (try simp only [List.length_nil,List.length_cons,List.length_append]); omega) | (refine ⟨rfl,?_⟩; (try simp only [List.length_nil,List.length_cons,List.length_append]); omega)) ?_ | intro _)); (all_goals (conv => whnf))
            all_goals first | (exfalso; omega) | skip
            all_goals exact loop_next ⟨i + 1,true⟩ ⟨hlt,hstep true ⟨fun h => Bool.noConfusion h,fun h => absurd h.2.1 (by omega)⟩⟩ (show H.length - (i + 1) < H.length - i by omega) (by (repeat ((conv => whnf); refine And.intro (by first | exact rfl | exact vint_eq (by omega) | exact vint_eq (by (dsimp only; omega)) | exact vsl_eq (by omega) | exact vsl_eq (by first | (dsimp only; omega) | (simp; done) | (simp; omega))) ?_)); exact trivial) (Ref.takes [4] rfl (Thin.refl _))
          · (repeat' ((conv => whnf); first | rw [q0] | refine ⟨_,rdh,?_⟩ | refine ⟨_,⟨rfl,trivial⟩,?_⟩ | (refine bcase_prop (fun h => ?_) (fun h => ?_) <;> try (exfalso; omega)) | (refine bcase_nprop (fun h => ?_) (fun h => ?_) <;> try (exfalso; omega)) | (refine bcase_intro (fun h => ?_) (fun h => ?_) <;> (try simp only [Bool.not_eq_true',Bool.not_eq_false',decide_eq_true_eq,decide_eq_false_iff_not,Bool.not_eq_true,Bool.not_eq_false,Decidable.not_not] at h)) | refine And.intro (by first | omega | exact rfl | assumption | exact ⟨rfl,rfl,rfl,rfl,rfl⟩ | exact ⟨rfl,rfl,rfl,rfl⟩ | exact ⟨rfl,by omega⟩ | exact oneAll_of rfl | exact ⟨rfl,oneAll_of rfl⟩ | exact Ref.refl _ | exact Thin.ref (.skip (Thin.refl _)) | exact Thin.ref (.skip (.skip (Thin.refl _))) | exact ⟨rfl,Nat.le_of_ble_eq_true rfl⟩ | ((try unfold maxLen); (try simp only [List.length_nil,List.length_cons,List.length_append]); omega) | (refine ⟨rfl,?_⟩; (try simp only [List.length_nil,List.length_cons,List.length_append]); omega)) ?_ | intro _)); (all_goals (conv => whnf))
            all_goals first | (exfalso; omega) | skip
            all_goals exact loop_next ⟨i + 1,decide (1048576 < H.getD i 0)⟩ ⟨hlt,hstep _ (hdec _ (by omega))⟩ (show H.length - (i + 1) < H.length - i by omega) (by (repeat ((conv => whnf); refine And.intro (by first | exact rfl | exact vint_eq (by omega) | exact vint_eq (by (dsimp only; omega)) | exact vsl_eq (by omega) | exact vsl_eq (by first | (dsimp only; omega) | (simp; done) | (simp; omega))) ?_)); exact trivial) (Ref.takes [4] rfl (Thin.refl _))
        · (repeat' ((conv => whnf); first | rw [q0] | refine ⟨_,rdh,?_⟩ | refine ⟨_,⟨rfl,trivial⟩,?_⟩ | (refine bcase_prop (fun h => ?_) (fun h => ?_) <;> try (exfalso; omega)) | (refine bcase_nprop (fun h => ?_) (fun h => ?_) <;> try (exfalso; omega)) | (refine bcase_intro (fun h => ?_) (fun h => ?_) <;> (try simp only [Bool.not_eq_true',Bool.not_eq_false',decide_eq_true_eq,decide_eq_false_iff_not,Bool.not_eq_true,Bool.not_eq_false,Decidable.not_not] at h)) | refine And.intro (by first | omega | exact rfl | assumption | exact ⟨rfl,rfl,rfl,rfl,rfl⟩ | exact ⟨rfl,rfl,rfl,rfl⟩ | exact ⟨rfl,by omega⟩ | exact oneAll_of rfl | exact ⟨rfl,oneAll_of rfl⟩ | exact Ref.refl _ | exact Thin.ref (.skip (Thin.refl _)) | exact Thin.ref (.skip (.skip (Thin.refl _))) | exact ⟨rfl,Nat.le_of_ble_eq_true rfl⟩ | ((try unfold maxLen); (try simp only [List.length_nil,List.length_cons,List.length_append]); omega) | (refine ⟨rfl,?_⟩; (try simp only [List.length_nil,List.length_cons,List.length_append]); omega)) ?_ | intro _)); (all_goals (conv => whnf))
          all_goals first | (exfalso; omega) | skip
          all_goals exact loop_next ⟨i + 1,true⟩ ⟨hlt,hstep true ⟨fun h => Bool.noConfusion h,fun h => h.1⟩⟩ (show H.length - (i + 1) < H.length - i by omega) (by (repeat ((conv => whnf); refine And.intro (by first | exact rfl | exact vint_eq (by omega) | exact vint_eq (by (dsimp only; omega)) | exact vsl_eq (by omega) | exact vsl_eq (by first | (dsimp only; omega) | (simp; done) | (simp; omega))) ?_)); exact trivial) (Ref.takes [4] rfl (Thin.refl _))
      rw [List.take_of_length_le (by omega)] at hfb
      (repeat' ((conv => whnf); first | (first | refine CallK_pure (.v _) (fun w hR => cnum w) ?_ | refine QCall_pure (.v _) (fun w hR => cnum w) ?_) | refine ⟨_,⟨rfl,trivial⟩,?_⟩ | (refine bcase_prop (fun h => ?_) (fun h => ?_) <;> try (exfalso; omega)) | (refine bcase_nprop (fun h => ?_) (fun h => ?_) <;> try (exfalso; omega)) | (refine bcase_intro (fun h => ?_) (fun h => ?_) <;> (try simp only [Bool.not_eq_true',Bool.not_eq_false',decide_eq_true_eq,decide_eq_false_iff_not,Bool.not_eq_true,Bool.not_eq_false,Decidable.not_not] at h)) | refine And.intro (by first | omega | exact rfl | assumption | exact ⟨rfl,rfl,rfl,rfl,rfl⟩ | exact ⟨rfl,rfl,rfl,rfl⟩ | exact ⟨rfl,by omega⟩ | exact oneAll_of rfl | exact ⟨rfl,oneAll_of rfl⟩ | exact Ref.refl _ | exact Thin.ref (.skip (Thin.refl _)) | exact Thin.ref (.skip (.skip (Thin.refl _))) | exact ⟨rfl,Nat.le_of_ble_eq_true rfl⟩ | ((try unfold maxLen); (try simp only [List.length_nil,List.length_cons,List.length_append]); omega) | (refine ⟨rfl,?_⟩; (try simp only [List.length_nil,List.length_cons,List.length_append]); omega)) ?_ | intro _)); (all_goals (conv => whnf))
      all_goals first | (exfalso; omega) | exact ⟨rfl⟩ | (refine ⟨?_⟩; show Value.bool (decide _) = _; rw [decide_eq_true (by omega)])
  obtain ⟨hch,hHl,hHb⟩ := t0 hz
  have hMk := chkM_zero hch
  have cT := fun bs w' h1 h2 => cT bs hz w' h1 h2
  have hT : ∀ D,TbOk ⟨m.m,H,back,D⟩ (m.m.nx.getD 0 []).length := fun D => ⟨hMk,by rw [show m.m.nx.length = m.nr.length from List.length_map ..]; exact hHl,hHb⟩
  have hNl : m.m.nx.length = m.nr.length := List.length_map ..
  rw [hch] at cc
  (repeat' ((conv => whnf); first | (first | refine CallK_pure (.v _) (fun w hR => c0 w) ?_ | refine QCall_pure (.v _) (fun w hR => c0 w) ?_) | (refine CallK_new (fun w hR => cn w) ?_; rintro _ _ ⟨bn,fpn,rfl,rfl⟩; refine ⟨.v _,rfl,?_⟩) | (refine CallK_pack (key := 77) rfl (fun w hR h0 => cl _ _ _ _ h0) ?_; rintro _ _ ⟨rfl,fp',rfl⟩; refine ⟨.v _,rfl,?_⟩) | (refine CallK_pure (.v _) (fun w' hR => cc w' (hxm.cast hR)) ?_) | refine ⟨_,⟨rfl,trivial⟩,?_⟩ | ((refine CallK_new (fun w' hR => cT _ w' (hxm.cast hR) (hxh.cast hR (fun _ h => nomatch h))) ?_); rintro _ _ ⟨bt,fpt,rfl,rfl⟩; refine ⟨.v _,rfl,?_⟩) | (refine bcase_prop (fun h => ?_) (fun h => ?_) <;> try (exfalso; omega)) | (refine bcase_nprop (fun h => ?_) (fun h => ?_) <;> try (exfalso; omega)) | (refine bcase_intro (fun h => ?_) (fun h => ?_) <;> (try simp only [Bool.not_eq_true',Bool.not_eq_false',decide_eq_true_eq,decide_eq_false_iff_not,Bool.not_eq_true,Bool.not_eq_false,Decidable.not_not] at h)) | refine And.intro (by first | omega | exact rfl | assumption | exact ⟨rfl,rfl,rfl,rfl,rfl⟩ | exact ⟨rfl,rfl,rfl,rfl⟩ | exact ⟨rfl,by omega⟩ | exact oneAll_of rfl | exact ⟨rfl,oneAll_of rfl⟩ | exact Ref.refl _ | exact Thin.ref (.skip (Thin.refl _)) | exact Thin.ref (.skip (.skip (Thin.refl _))) | exact ⟨rfl,Nat.le_of_ble_eq_true rfl⟩ | ((try unfold maxLen); (try simp only [List.length_nil,List.length_cons,List.length_append]); omega) | (refine ⟨rfl,?_⟩; (try simp only [List.length_nil,List.length_cons,List.length_append]); omega)) ?_ | intro _)); (all_goals (conv => whnf))
  all_goals first | (exfalso; omega) | skip
  rename_i b4 _
  refine VC_loop FmG (fun z => [(1,.v (.int .i64 id)),(2,.v (.int .i64 q)),(3,.v (.bool false)),(4,.ptr 4 b4 0),(9,.v (pS bn)),(10,.v (.int .i64 1)),(12,.v (pS bt)),(13,.v .nilIface),(14,.v .nilIface),(15,.v (.bool z.b)),(79,.v (.slice ha H.length hc)),(80,.v (.int .i64 H.length)),(81,.v (.int .i64 z.i))])
    (fun _ => [.box 4 b4 [.int .i64 m.start,.slice m.ca m.cls.length m.cc,.slice m.na m.nr.length m.nc,.slice m.aa m.acc.length m.ac,.slice ha H.length hc,.bool back] ty_evergreenlaw33_In,packE 78 fpt (fX bt bn ⟨m.m,H,back,fun _ => False⟩ sA.E),packE 77 fp' (fS bn sA)]) (fun z => z.i ≤ H.length ∧ (z.b = false ↔ ((H.length : Int) = m.nr.length ∧ ∀ h ∈ H.take z.i,0 ≤ h ∧ h ≤ 1048576))) (fun z => H.length - z.i) ⟨0,!decide ((H.length : Int) = m.nr.length)⟩ ⟨Nat.zero_le _,by simp⟩ (by (repeat ((conv => whnf); refine And.intro (by first | exact rfl | exact vint_eq (by omega) | exact vint_eq (by (dsimp only; omega)) | exact vsl_eq (by omega) | exact vsl_eq (by first | (dsimp only; omega) | (simp; done) | (simp; omega))) ?_)); exact trivial) (Ref.takes [4,78,77] rfl (Thin.refl _)) ?_
  rintro ⟨i,fb⟩ ⟨hi,hfb⟩
  dsimp only at hi hfb ⊢
  by_cases hlt : i < H.length
  · have rdh := fun {L : List Ent} => rdI (L := L) hxh (i := i) hlt
    have nh : ha ≠ none := hxh.ne' (k := i) (by rw [ints_length]; exact hlt)
    have q0 : ((i : Nat) : Int).toNat = i := by omega
    have htk : H.take (i + 1) = H.take i ++ [H.getD i 0] := by
      rw [List.take_add_one,List.getD_eq_getElem?_getD,List.getElem?_eq_getElem hlt]; rfl
    have hstep : ∀ b' : Bool,(b' = false ↔ (fb = false ∧ 0 ≤ H.getD i 0 ∧ H.getD i 0 ≤ 1048576)) → (b' = false ↔ ((H.length : Int) = m.nr.length ∧ ∀ h ∈ H.take (i + 1),0 ≤ h ∧ h ≤ 1048576)) := fun b' hb' => by
      rw [hb',hfb,htk]
      constructor
      · rintro ⟨⟨e1,e2⟩,e3⟩
        refine ⟨e1,fun h hm => ?_⟩
        rcases List.mem_append.1 hm with hm | hm
        · exact e2 h hm
        · rw [List.mem_singleton.1 hm]; exact e3
      · rintro ⟨e1,e2⟩
        exact ⟨⟨e1,fun h hm => e2 h (List.mem_append_left _ hm)⟩,e2 _ (by simp)⟩
    cases fb
    · by_cases hneg : H.getD i 0 < 0
      · (repeat' ((conv => whnf); first | rw [q0] | refine ⟨_,rdh,?_⟩ | refine ⟨_,⟨rfl,trivial⟩,?_⟩ | (refine bcase_prop (fun h => ?_) (fun h => ?_) <;> try (exfalso; omega)) | (refine bcase_nprop (fun h => ?_) (fun h => ?_) <;> try (exfalso; omega)) | (refine bcase_intro (fun h => ?_) (fun h => ?_) <;> (try simp only [Bool.not_eq_true',Bool.not_eq_false',decide_eq_true_eq,decide_eq_false_iff_not,Bool.not_eq_true,Bool.not_eq_false,Decidable.not_not] at h)) | refine And.intro (by first | omega | exact rfl | assumption | exact ⟨rfl,rfl,rfl,rfl,rfl⟩ | exact ⟨rfl,rfl,rfl,rfl⟩ | exact ⟨rfl,by omega⟩ | exact oneAll_of rfl | exact ⟨rfl,oneAll_of rfl⟩ | exact Ref.refl _ | exact Thin.ref (.skip (Thin.refl _)) | exact Thin.ref (.skip (.skip (Thin.refl _))) | exact ⟨rfl,Nat.le_of_ble_eq_true rfl⟩ | ((try unfold maxLen); (try simp only [List.length_nil,List.length_cons,List.length_append]); omega) | (refine ⟨rfl,?_⟩; (try simp only [List.length_nil,List.length_cons,List.length_append]); omega)) ?_ | intro _)); (all_goals (conv => whnf))
        all_goals first | (exfalso; omega) | skip
        all_goals exact loop_next ⟨i + 1,true⟩ ⟨hlt,hstep true ⟨fun h => Bool.noConfusion h,fun h => absurd h.2.1 (by omega)⟩⟩ (show H.length - (i + 1) < H.length - i by omega) (by (repeat ((conv => whnf); refine And.intro (by first | exact rfl | exact vint_eq (by omega) | exact vint_eq (by (dsimp only; omega)) | exact vsl_eq (by omega) | exact vsl_eq (by first | (dsimp only; omega) | (simp; done) | (simp; omega))) ?_)); exact trivial) (Ref.takes [4,78,77] rfl (Thin.refl _))
      · (repeat' ((conv => whnf); first | rw [q0] | refine ⟨_,rdh,?_⟩ | refine ⟨_,⟨rfl,trivial⟩,?_⟩ | (refine bcase_prop (fun h => ?_) (fun h => ?_) <;> try (exfalso; omega)) | (refine bcase_nprop (fun h => ?_) (fun h => ?_) <;> try (exfalso; omega)) | (refine bcase_intro (fun h => ?_) (fun h => ?_) <;> (try simp only [Bool.not_eq_true',Bool.not_eq_false',decide_eq_true_eq,decide_eq_false_iff_not,Bool.not_eq_true,Bool.not_eq_false,Decidable.not_not] at h)) | refine And.intro (by first | omega | exact rfl | assumption | exact ⟨rfl,rfl,rfl,rfl,rfl⟩ | exact ⟨rfl,rfl,rfl,rfl⟩ | exact ⟨rfl,by omega⟩ | exact oneAll_of rfl | exact ⟨rfl,oneAll_of rfl⟩ | exact Ref.refl _ | exact Thin.ref (.skip (Thin.refl _)) | exact Thin.ref (.skip (.skip (Thin.refl _))) | exact ⟨rfl,Nat.le_of_ble_eq_true rfl⟩ | ((try unfold maxLen); (try simp only [List.length_nil,List.length_cons,List.length_append]); omega) | (refine ⟨rfl,?_⟩; (try simp only [List.length_nil,List.length_cons,List.length_append]); omega)) ?_ | intro _)); (all_goals (conv => whnf))
        all_goals first | (exfalso; omega) | skip
        all_goals exact loop_next ⟨i + 1,decide (1048576 < H.getD i 0)⟩ ⟨hlt,hstep _ (hdec _ (by omega))⟩ (show H.length - (i + 1) < H.length - i by omega) (by (repeat ((conv => whnf); refine And.intro (by first | exact rfl | exact vint_eq (by omega) | exact vint_eq (by (dsimp only; omega)) | exact vsl_eq (by omega) | exact vsl_eq (by first | (dsimp only; omega) | (simp; done) | (simp; omega))) ?_)); exact trivial) (Ref.takes [4,78,77] rfl (Thin.refl _))
    · (repeat' ((conv => whnf); first | rw [q0] | refine ⟨_,rdh,?_⟩ | refine ⟨_,⟨rfl,trivial⟩,?_⟩ | (refine bcase_prop (fun h => ?_) (fun h => ?_) <;> try (exfalso; omega)) | (refine bcase_nprop (fun h => ?_) (fun h => ?_) <;> try (exfalso; omega)) | (refine bcase_intro (fun h => ?_) (fun h => ?_) <;> (try simp only [Bool.not_eq_true',Bool.not_eq_false',decide_eq_true_eq,decide_eq_false_iff_not,Bool.not_eq_true,Bool.not_eq_false,Decidable.not_not] at h)) | refine And.intro (by first | omega | exact rfl | assumption | exact ⟨rfl,rfl,rfl,rfl,rfl⟩ | exact ⟨rfl,rfl,rfl,rfl⟩ | exact ⟨rfl,by omega⟩ | exact oneAll_of rfl | exact ⟨rfl,oneAll_of rfl⟩ | exact Ref.refl _ | exact Thin.ref (.skip (Thin.refl _)) | exact Thin.ref (.skip (.skip (Thin.refl _))) | exact ⟨rfl,Nat.le_of_ble_eq_true rfl⟩ | ((try unfold maxLen); (try simp only [List.length_nil,List.length_cons,List.length_append]); omega) | (refine ⟨rfl,?_⟩; (try simp only [List.length_nil,List.length_cons,List.length_append]); omega)) ?_ | intro _)); (all_goals (conv => whnf))
      all_goals first | (exfalso; omega) | skip
      all_goals exact loop_next ⟨i + 1,true⟩ ⟨hlt,hstep true ⟨fun h => Bool.noConfusion h,fun h => h.1⟩⟩ (show H.length - (i + 1) < H.length - i by omega) (by (repeat ((conv => whnf); refine And.intro (by first | exact rfl | exact vint_eq (by omega) | exact vint_eq (by (dsimp only; omega)) | exact vsl_eq (by omega) | exact vsl_eq (by first | (dsimp only; omega) | (simp; done) | (simp; omega))) ?_)); exact trivial) (Ref.takes [4,78,77] rfl (Thin.refl _))
  rw [List.take_of_length_le (by omega)] at hfb
  have hbf : fb = false := hfb.2 ⟨by omega,hHb⟩
  subst hbf
  have cw := calls_TWeight bt bn ⟨m.m,H,back,fun _ => False⟩ sA.E q
  have cst := calls_TStore2 bt bn ⟨m.m,H,back,fun _ => False⟩ sA.E
  have cbk := calls_TBack2 bt bn ⟨m.m,H,back,fun _ => False⟩ sA.E
  have cM := fun fp (w : World) hR => calls_TMachine bt bn ⟨m.m,H,back,fun _ => False⟩ (hT _) sA.E 78 (fp := fp) (w := w) hR
  have cR := fun fp (w : World) hR => calls_TRules bt bn ⟨m.m,H,back,fun _ => False⟩ sA.E 78 (fp := fp) (w := w) hR
  have macc : m.acc.length = m.nr.length := by rw [← hNl]; exact hMk.acc
  have mcls : m.cls.length = 256 := hMk.cls
  have cSm := fun (w' : World) (y : MA) hy hx he => calls_Same (w := w') y m hy hx he macc ⟨hbn,hbl,by omega⟩
  have ce := fun n => calls_TEnd bt bn ⟨m.m,H,back,allD sA⟩ (hT _) sA sA_wf (allD_clo sA_wf) n q allD_known
  have ch := fun n => calls_THits bt bn ⟨m.m,H,back,allD sA⟩ (hT _) sA sA_wf (allD_clo sA_wf) n q allD_known
  have cp := fun n => calls_TPart bt bn ⟨m.m,H,back,allD sA⟩ (hT _) sA sA_wf (allD_clo sA_wf) n 0 0 q allD_known
  have hE1 : ((sA.E.length : Nat) : Int) = 1 := rfl
  -- unknown numbers and states
  have bad : ¬ askOk ⟨m.m,H,back,allD sA⟩ sA id q → endV ⟨m.m,H,back,allD sA⟩ sA id q = .tuple #[.int .i64 0,errV 1] ∧ hitV ⟨m.m,H,back,allD sA⟩ sA id q = .tuple #[.int .i64 0,errV 1] ∧ prtV ⟨m.m,H,back,allD sA⟩ sA id 0 0 q = .tuple #[.int .i64 0,.int .i64 0,errV 1] := fun h => ⟨if_neg h,if_neg h,if_neg h⟩
  have ask : askOk ⟨m.m,H,back,allD sA⟩ sA id q ↔ (0 ≤ id ∧ id ≤ 1) ∧ 0 ≤ q ∧ q < H.length := by
    unfold askOk
    rw [hE1]
    show (0 ≤ id ∧ id ≤ 1) ∧ 0 ≤ q ∧ q < (m.m.nx.length : Int) ↔ _
    rw [hNl,hHl]
  have e3 := ce id
  have h3 := ch id
  have p3 := cp id
  by_cases hq : 0 ≤ q ∧ q < H.length
  · obtain ⟨j,rfl⟩ : ∃ j : Nat,q = j := ⟨q.toNat,by omega⟩
    have kq : ∀ n : Int,0 ≤ n → n ≤ 1 → askOk ⟨m.m,H,back,allD sA⟩ sA n (j : Int) := fun n h0 h1 => ⟨⟨h0,by rw [hE1]; exact h1⟩,by omega,by show (j : Int) < (m.m.nx.length : Int); omega⟩
    have e1 := ce 0
    have e2 := ce 1
    rw [show endV ⟨m.m,H,back,allD sA⟩ sA 0 j = _ from if_pos (kq 0 (by decide) (by decide)),Int.toNat_natCast,tm_zero,show ori back Tm.nil.txt = [] by cases back <;> rfl] at e1
    rw [show endV ⟨m.m,H,back,allD sA⟩ sA 1 j = _ from if_pos (kq 1 (by decide) (by decide)),Int.toNat_natCast] at e2
    rw [show runE m.m j [] = j from rfl] at e1
    generalize runE m.m j _ = R2 at e2
    unfold weiV at cw
    rw [if_pos hq,Int.toNat_natCast] at cw
    have rdh := fun {L : List Ent} => rdI (L := L) hxh (i := j) (by omega)
    have nh : ha ≠ none := hxh.ne' (k := j) (by rw [ints_length]; omega)
    have q0 : ((j : Nat) : Int).toNat = j := by omega
    by_cases hid : 0 ≤ id ∧ id ≤ 1
    · (repeat' ((conv => whnf); first | rw [q0] | refine ⟨_,rdh,?_⟩ | (refine CallK_pack (key := 78) rfl (fun w hR h0 => cw _ _ _ h0) ?_; rintro _ _ ⟨rfl,fp',rfl⟩; refine ⟨.v _,rfl,?_⟩) | (refine CallK_pack (key := 78) rfl (fun w hR h0 => cst _ _ _ h0) ?_; rintro _ _ ⟨rfl,rfl⟩; refine ⟨.v _,rfl,?_⟩) | (refine CallK_pack (key := 78) rfl (fun w hR h0 => cbk _ _ _ h0) ?_; rintro _ _ ⟨rfl,rfl⟩; refine ⟨.v _,rfl,?_⟩) | (refine CallK_pack (key := 78) rfl (fun w hR h0 => cM _ w h0) ?_; rintro _ _ ⟨y,F,rfl,hF,hy,rfl⟩; refine ⟨.v _,rfl,?_⟩) | (refine CallK_pure (.v _) (fun w' hR => cSm w' y (hF.in_ (key := 79) hR rfl) (hxm.cast hR) hy) ?_) | (refine CallK_post ?_; refine CallK_pack (key := 78) rfl (fun w hR h0 => cR _ w h0) ?_; rintro _ _ ⟨m',rfl,hle,hm',fp',rfl⟩; obtain rfl : m' = 0 := Nat.le_zero.1 (hm' [] (fun _ h => h.elim)); refine ⟨.v _,rfl,_,Thin.ref (packX_wide (k' := 78) (D' := allD sA) (fun i h => h.elim) (Thin.refl _)),?_⟩) | (refine CallK_pack2 (key1 := 78) (key2 := 77) rfl rfl (fun w hR h0 => e1 _ _ _ _ _ h0) ?_; rintro _ _ ⟨rfl,fp1',fp2',rfl⟩; refine ⟨.v _,rfl,?_⟩) | (refine CallK_pack2 (key1 := 78) (key2 := 77) rfl rfl (fun w hR h0 => e2 _ _ _ _ _ h0) ?_; rintro _ _ ⟨rfl,fp1',fp2',rfl⟩; refine ⟨.v _,rfl,?_⟩) | refine ⟨_,⟨rfl,trivial⟩,?_⟩ | refine stop_and ?_ ?_ | refine ⟨_,_,⟨rfl,rfl,rfl⟩,?_⟩ | (refine bcase_prop (fun h => ?_) (fun h => ?_) <;> try (exfalso; omega)) | (refine bcase_nprop (fun h => ?_) (fun h => ?_) <;> try (exfalso; omega)) | (refine bcase_intro (fun h => ?_) (fun h => ?_) <;> (try simp only [Bool.not_eq_true',Bool.not_eq_false',decide_eq_true_eq,decide_eq_false_iff_not,Bool.not_eq_true,Bool.not_eq_false,Decidable.not_not] at h)) | refine And.intro (by first | omega | exact rfl | assumption | exact ⟨rfl,rfl,rfl,rfl,rfl⟩ | exact ⟨rfl,rfl,rfl,rfl⟩ | exact ⟨rfl,by omega⟩ | exact oneAll_of rfl | exact ⟨rfl,oneAll_of rfl⟩ | exact Ref.refl _ | exact Thin.ref (.skip (Thin.refl _)) | exact Thin.ref (.skip (.skip (Thin.refl _))) | exact nh | exact ⟨rfl,Nat.le_of_ble_eq_true rfl⟩ | ((try unfold maxLen); (try simp only [List.length_nil,List.length_cons,List.length_append]); omega) | (refine ⟨rfl,?_⟩; (try simp only [List.length_nil,List.length_cons,List.length_append]); omega)) ?_ | intro _)); (all_goals (conv => whnf))
      all_goals first | (exfalso; omega) | exact ⟨rfl⟩ | exact absurd rfl ‹¬ (_ = _)› | (refine ⟨?_⟩; show Value.bool (decide _) = _; rw [decide_eq_true (by omega)])
    · obtain ⟨b1,b2,b3⟩ := bad (fun h => hid (ask.1 h).1)
      rw [b1] at e3
      rw [b2] at h3
      rw [b3] at p3
      (repeat' ((conv => whnf); first | rw [q0] | refine ⟨_,rdh,?_⟩ | (first | refine CallK_pure (.v _) (fun w hR => c1 w) ?_ | refine QCall_pure (.v _) (fun w hR => c1 w) ?_) | (refine CallK_pack (key := 78) rfl (fun w hR h0 => cw _ _ _ h0) ?_; rintro _ _ ⟨rfl,fp',rfl⟩; refine ⟨.v _,rfl,?_⟩) | (refine CallK_pack (key := 78) rfl (fun w hR h0 => cst _ _ _ h0) ?_; rintro _ _ ⟨rfl,rfl⟩; refine ⟨.v _,rfl,?_⟩) | (refine CallK_pack (key := 78) rfl (fun w hR h0 => cbk _ _ _ h0) ?_; rintro _ _ ⟨rfl,rfl⟩; refine ⟨.v _,rfl,?_⟩) | (refine CallK_pack (key := 78) rfl (fun w hR h0 => cM _ w h0) ?_; rintro _ _ ⟨y,F,rfl,hF,hy,rfl⟩; refine ⟨.v _,rfl,?_⟩) | (refine CallK_pure (.v _) (fun w' hR => cSm w' y (hF.in_ (key := 79) hR rfl) (hxm.cast hR) hy) ?_) | (refine CallK_post ?_; refine CallK_pack (key := 78) rfl (fun w hR h0 => cR _ w h0) ?_; rintro _ _ ⟨m',rfl,hle,hm',fp',rfl⟩; obtain rfl : m' = 0 := Nat.le_zero.1 (hm' [] (fun _ h => h.elim)); refine ⟨.v _,rfl,_,Thin.ref (packX_wide (k' := 78) (D' := allD sA) (fun i h => h.elim) (Thin.refl _)),?_⟩) | (refine CallK_pack2 (key1 := 78) (key2 := 77) rfl rfl (fun w hR h0 => e1 _ _ _ _ _ h0) ?_; rintro _ _ ⟨rfl,fp1',fp2',rfl⟩; refine ⟨.v _,rfl,?_⟩) | (refine CallK_pack2 (key1 := 78) (key2 := 77) rfl rfl (fun w hR h0 => e2 _ _ _ _ _ h0) ?_; rintro _ _ ⟨rfl,fp1',fp2',rfl⟩; refine ⟨.v _,rfl,?_⟩) | (refine CallK_pack2 (key1 := 78) (key2 := 77) rfl rfl (fun w hR h0 => e3 _ _ _ _ _ h0) ?_; rintro _ _ ⟨rfl,fp1',fp2',rfl⟩; refine ⟨.v _,rfl,?_⟩) | (refine CallK_pack2 (key1 := 78) (key2 := 77) rfl rfl (fun w hR h0 => h3 _ _ _ _ _ h0) ?_; rintro _ _ ⟨rfl,fp1',fp2',rfl⟩; refine ⟨.v _,rfl,?_⟩) | (refine CallK_pack2 (key1 := 78) (key2 := 77) rfl rfl (fun w hR h0 => p3 _ _ _ _ _ h0) ?_; rintro _ _ ⟨rfl,fp1',fp2',rfl⟩; refine ⟨.v _,rfl,?_⟩) | refine ⟨_,⟨rfl,trivial⟩,?_⟩ | refine stop_and ?_ ?_ | refine ⟨_,_,⟨rfl,rfl,rfl⟩,?_⟩ | (refine bcase_prop (fun h => ?_) (fun h => ?_) <;> try (exfalso; omega)) | (refine bcase_nprop (fun h => ?_) (fun h => ?_) <;> try (exfalso; omega)) | (refine bcase_intro (fun h => ?_) (fun h => ?_) <;> (try simp only [Bool.not_eq_true',Bool.not_eq_false',decide_eq_true_eq,decide_eq_false_iff_not,Bool.not_eq_true,Bool.not_eq_false,Decidable.not_not] at h)) | refine And.intro (by first | omega | exact rfl | assumption | exact ⟨rfl,rfl,rfl,rfl,rfl⟩ | exact ⟨rfl,rfl,rfl,rfl⟩ | exact ⟨rfl,by omega⟩ | exact oneAll_of rfl | exact ⟨rfl,oneAll_of rfl⟩ | exact Ref.refl _ | exact Thin.ref (.skip (Thin.refl _)) | exact Thin.ref (.skip (.skip (Thin.refl _))) | exact nh | exact ⟨rfl,Nat.le_of_ble_eq_true rfl⟩ | ((try unfold maxLen); (try simp only [List.length_nil,List.length_cons,List.length_append]); omega) | (refine ⟨rfl,?_⟩; (try simp only [List.length_nil,List.length_cons,List.length_append]); omega)) ?_ | intro _)); (all_goals (conv => whnf))
      all_goals first | (exfalso; omega) | exact ⟨rfl⟩ | exact absurd rfl ‹¬ (_ = _)› | (refine ⟨?_⟩; show Value.bool (decide _) = _; rw [decide_eq_true (by omega)])
  · obtain ⟨b1,b2,b3⟩ := bad (fun h => hq (ask.1 h).2)
    rw [b1] at e3
    rw [b2] at h3
    rw [b3] at p3
    unfold weiV at cw
    rw [if_neg hq] at cw
    (repeat' ((conv => whnf); first | (first | refine CallK_pure (.v _) (fun w hR => c1 w) ?_ | refine QCall_pure (.v _) (fun w hR => c1 w) ?_) | (refine CallK_pack (key := 78) rfl (fun w hR h0 => cw _ _ _ h0) ?_; rintro _ _ ⟨rfl,fp',rfl⟩; refine ⟨.v _,rfl,?_⟩) | (refine CallK_pack (key := 78) rfl (fun w hR h0 => cst _ _ _ h0) ?_; rintro _ _ ⟨rfl,rfl⟩; refine ⟨.v _,rfl,?_⟩) | (refine CallK_pack (key := 78) rfl (fun w hR h0 => cbk _ _ _ h0) ?_; rintro _ _ ⟨rfl,rfl⟩; refine ⟨.v _,rfl,?_⟩) | (refine CallK_pack (key := 78) rfl (fun w hR h0 => cM _ w h0) ?_; rintro _ _ ⟨y,F,rfl,hF,hy,rfl⟩; refine ⟨.v _,rfl,?_⟩) | (refine CallK_pure (.v _) (fun w' hR => cSm w' y (hF.in_ (key := 79) hR rfl) (hxm.cast hR) hy) ?_) | (refine CallK_post ?_; refine CallK_pack (key := 78) rfl (fun w hR h0 => cR _ w h0) ?_; rintro _ _ ⟨m',rfl,hle,hm',fp',rfl⟩; obtain rfl : m' = 0 := Nat.le_zero.1 (hm' [] (fun _ h => h.elim)); refine ⟨.v _,rfl,_,Thin.ref (packX_wide (k' := 78) (D' := allD sA) (fun i h => h.elim) (Thin.refl _)),?_⟩) | (refine CallK_pack2 (key1 := 78) (key2 := 77) rfl rfl (fun w hR h0 => e3 _ _ _ _ _ h0) ?_; rintro _ _ ⟨rfl,fp1',fp2',rfl⟩; refine ⟨.v _,rfl,?_⟩) | (refine CallK_pack2 (key1 := 78) (key2 := 77) rfl rfl (fun w hR h0 => h3 _ _ _ _ _ h0) ?_; rintro _ _ ⟨rfl,fp1',fp2',rfl⟩; refine ⟨.v _,rfl,?_⟩) | (refine CallK_pack2 (key1 := 78) (key2 := 77) rfl rfl (fun w hR h0 => p3 _ _ _ _ _ h0) ?_; rintro _ _ ⟨rfl,fp1',fp2',rfl⟩; refine ⟨.v _,rfl,?_⟩) | refine ⟨_,⟨rfl,trivial⟩,?_⟩ | refine stop_and ?_ ?_ | refine ⟨_,_,⟨rfl,rfl,rfl⟩,?_⟩ | (refine bcase_prop (fun h => ?_) (fun h => ?_) <;> try (exfalso; omega)) | (refine bcase_nprop (fun h => ?_) (fun h => ?_) <;> try (exfalso; omega)) | (refine bcase_intro (fun h => ?_) (fun h => ?_) <;> (try simp only [Bool.not_eq_true',Bool.not_eq_false',decide_eq_true_eq,decide_eq_false_iff_not,Bool.not_eq_true,Bool.not_eq_false,Decidable.not_not] at h)) | refine And.intro (by first | omega | exact rfl | assumption | exact ⟨rfl,rfl,rfl,rfl,rfl⟩ | exact ⟨rfl,rfl,rfl,rfl⟩ | exact ⟨rfl,by omega⟩ | exact oneAll_of rfl | exact ⟨rfl,oneAll_of rfl⟩ | exact Ref.refl _ | exact Thin.ref (.skip (Thin.refl _)) | exact Thin.ref (.skip (.skip (Thin.refl _))) | exact ⟨rfl,Nat.le_of_ble_eq_true rfl⟩ | ((try unfold maxLen); (try simp only [List.length_nil,List.length_cons,List.length_append]); omega) | (refine ⟨rfl,?_⟩; (try simp only [List.length_nil,List.length_cons,List.length_append]); omega)) ?_ | intro _)); (all_goals (conv => whnf))
    all_goals first | (exfalso; omega) | exact ⟨rfl⟩ | exact absurd rfl ‹¬ (_ = _)› | (refine ⟨?_⟩; show Value.bool (decide _) = _; rw [decide_eq_true (by omega)])
end Go.Proofs.Ytoocnmfodhnpbaa
