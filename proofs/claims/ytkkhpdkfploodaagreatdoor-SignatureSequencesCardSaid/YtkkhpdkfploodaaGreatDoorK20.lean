/- The symbols that a symbol is made of, in order of first completion. Plain Lean: no program in sight. -/
import Derived.Test.YtkkhpdkfploodaaGreatDoorK5
import Derived.Test.YtkkhpdkfploodaaGreatDoorK14
import Derived.Test.YtkkhpdkfploodaaGreatDoorK19
import Derived.Test.YtkkhpdkfploodaaGreatDoorK8
import Derived.Test.YtkkhpdkfploodaaGreatDoorK18
namespace Go.Proofs.YtkkhpdkfploodaaGreatDoor
open Go.EG
set_option linter.unusedSimpArgs false
set_option linter.unusedVariables false
def compT : Tm → List Tm → List Tm
  | .nil,d => d
  | .lt x,d => if Tm.lt x ∈ d then d else d ++ [.lt x]
  | .pr a b,d => if Tm.pr a b ∈ d then d else compT b (compT a d) ++ [.pr a b]
  | .pw a k,d => if Tm.pw a k ∈ d then d else compT a d ++ [.pw a k]
def posT (d : List Tm) (m : Tm) : Int := if m ∈ d then (d.idxOf m : Int) + 1 else 0
def rulT (d : List Tm) : Tm → Rul
  | .nil => rul0
  | .lt x => letR x
  | .pr a b => pairR (posT d a) (posT d b)
  | .pw a k => powR (posT d a) k
def canT (m : Tm) : List Rul := (compT m []).map (rulT (compT m []))
def kids : Tm → List Tm
  | .pr a b => [a,b]
  | .pw a _ => [a]
  | _ => []
def Cl (d : List Tm) : Prop := ∀ p x q,d = p ++ x :: q → ∀ c ∈ kids x,c ∈ p
theorem Cl.nil : Cl [] := fun p x q e => by simp at e
theorem Cl.snoc {d : List Tm} {m : Tm} (h : Cl d) (hk : ∀ c ∈ kids m,c ∈ d) : Cl (d ++ [m]) := fun p x q e c hc => by
  rcases List.eq_nil_or_concat q with rfl | ⟨q',z,rfl⟩
  · have := List.append_inj' e rfl
    have hx : m = x := by simpa using this.2
    rw [← this.1]
    exact hk c (by rw [hx]; exact hc)
  · have e2 : d ++ [m] = (p ++ x :: q') ++ [z] := by rw [e]; simp
    have := List.append_inj' e2 rfl
    exact h p x q' this.1 c hc
theorem Sub.size {x m : Tm} (h : Sub x m) : SizeOf.sizeOf x ≤ SizeOf.sizeOf m := by
  induction h with
  | refl => exact Nat.le_refl _
  | left _ ih => simp only [Tm.pr.sizeOf_spec]; omega
  | right _ ih => simp only [Tm.pr.sizeOf_spec]; omega
  | pow _ ih => simp only [Tm.pw.sizeOf_spec]; omega
structure Comp (m : Tm) (d d' : List Tm) : Prop where
  cl : Cl d'
  nodup : d'.Nodup
  pre : ∃ e,d' = d ++ e
  mem : m ∈ d'
  sub : ∀ x ∈ d',x ∈ d ∨ Sub x m
theorem Comp.same {m : Tm} {d : List Tm} (h1 : Cl d) (h2 : d.Nodup) (h : m ∈ d) : Comp m d d := ⟨h1,h2,⟨[],by simp⟩,h,fun x hx => .inl hx⟩
theorem snoc_nodup {d : List Tm} {m : Tm} (h : d.Nodup) (hm : m ∉ d) : (d ++ [m]).Nodup :=
  List.nodup_append.2 ⟨h,by simp,fun a ha b hb => by
    rw [List.mem_singleton] at hb
    subst hb
    exact fun he => hm (he ▸ ha)⟩
theorem comp_spec : ∀ {m : Tm},Pos m → ∀ {d : List Tm},Cl d → d.Nodup → Comp m d (compT m d)
  | .nil,h,_,_,_ => h.elim
  | .lt x,_,d,h1,h2 => by
    rw [compT]
    split
    · rename_i h; exact .same h1 h2 h
    · rename_i h
      exact ⟨h1.snoc (by simp [kids]),snoc_nodup h2 h,⟨_,rfl⟩,by simp,fun y hy => by
        rcases List.mem_append.1 hy with hy | hy
        · exact .inl hy
        · rw [List.mem_singleton.1 hy]; exact .inr (.refl _)⟩
  | .pr a b,hp,d,h1,h2 => by
    rw [compT]
    split
    · rename_i h; exact .same h1 h2 h
    · rename_i h
      have ca := comp_spec hp.1 h1 h2
      have cb := comp_spec hp.2 ca.cl ca.nodup
      obtain ⟨e1,q1⟩ := ca.pre
      obtain ⟨e2,q2⟩ := cb.pre
      have hn : Tm.pr a b ∉ compT b (compT a d) := fun hm => by
        rcases cb.sub _ hm with hm | hm
        · rcases ca.sub _ hm with hm | hm
          · exact h hm
          · have := hm.size; simp only [Tm.pr.sizeOf_spec] at this; omega
        · have := hm.size; simp only [Tm.pr.sizeOf_spec] at this; omega
      refine ⟨cb.cl.snoc fun c hc => ?_,snoc_nodup cb.nodup hn,⟨e1 ++ e2 ++ [.pr a b],by rw [q2,q1]; simp⟩,by simp,fun y hy => ?_⟩
      · simp only [kids,List.mem_cons,List.not_mem_nil,or_false] at hc
        rcases hc with rfl | rfl
        · rw [q2]; exact List.mem_append_left _ ca.mem
        · exact cb.mem
      · rcases List.mem_append.1 hy with hy | hy
        · rcases cb.sub y hy with hy | hy
          · rcases ca.sub y hy with hy | hy
            · exact .inl hy
            · exact .inr (.left hy)
          · exact .inr (.right hy)
        · rw [List.mem_singleton.1 hy]; exact .inr (.refl _)
  | .pw a k,hp,d,h1,h2 => by
    rw [compT]
    split
    · rename_i h; exact .same h1 h2 h
    · rename_i h
      have ca := comp_spec hp.2 h1 h2
      obtain ⟨e1,q1⟩ := ca.pre
      have hn : Tm.pw a k ∉ compT a d := fun hm => by
        rcases ca.sub _ hm with hm | hm
        · exact h hm
        · have := hm.size; simp only [Tm.pw.sizeOf_spec] at this; omega
      refine ⟨ca.cl.snoc fun c hc => ?_,snoc_nodup ca.nodup hn,⟨e1 ++ [.pw a k],by rw [q1]; simp⟩,by simp,fun y hy => ?_⟩
      · simp only [kids,List.mem_cons,List.not_mem_nil,or_false] at hc
        rw [hc]; exact ca.mem
      · rcases List.mem_append.1 hy with hy | hy
        · rcases ca.sub y hy with hy | hy
          · exact .inl hy
          · exact .inr (.pow hy)
        · rw [List.mem_singleton.1 hy]; exact .inr (.refl _)
theorem canT_length (m : Tm) : (canT m).length = (compT m []).length := by simp [canT]
structure Grn (g : List Rul) (ms : List Tm) : Prop where
  gr : Gr g ms
  inj : ∀ i j : Nat,i < g.length → j < g.length → ms.getD i .nil = ms.getD j .nil → i = j
theorem mAt_succ (ms : List Tm) (i : Nat) : mAt ms ((i : Int) + 1) = ms.getD i .nil := by
  unfold mAt
  rw [if_neg (by omega),show ((i : Int) + 1).toNat - 1 = i by omega]
theorem Gr.pos {g : List Rul} {ms : List Tm} (h : Gr g ms) : ∀ {i : Nat},i < g.length → Pos (mAt ms ((i : Int) + 1)) := fun {i} => by
  induction i using Nat.strongRecOn with
  | ind i ih =>
    intro hi
    obtain ⟨hc,_⟩ := h.cases hi
    rcases hc with ⟨_,_,_,l,_,_,e⟩ | ⟨_,p,q,h1,h2,_,_,e,_⟩ | ⟨_,_,p,k,h1,h2,_,_,e,_⟩
    · rw [e]; trivial
    · rw [e]; exact ⟨ih p h1 (by omega),ih q h2 (by omega)⟩
    · rw [e]; exact ⟨by omega,ih p h1 (by omega)⟩
theorem Grn.inj' {g : List Rul} {ms : List Tm} (h : Grn g ms) {i j : Int} (h1 : 0 ≤ i) (h2 : i ≤ g.length) (h3 : 1 ≤ j) (h4 : j ≤ g.length) (e : mAt ms i = mAt ms j) : i = j := by
  obtain ⟨b,rfl⟩ : ∃ b : Nat,j = (b : Int) + 1 := ⟨(j - 1).toNat,by omega⟩
  by_cases h0 : i = 0
  · subst h0
    have := h.gr.pos (i := b) (by omega)
    rw [← e] at this
    exact this.elim
  · obtain ⟨a,rfl⟩ : ∃ a : Nat,i = (a : Int) + 1 := ⟨(i - 1).toNat,by omega⟩
    rw [mAt_succ,mAt_succ] at e
    have := h.inj a b (by omega) (by omega) e
    omega
def dnL (ms : List Tm) (n : Nat) (d : List Tm) : List Bool := (List.range (n + 1)).map fun j : Nat => decide (mAt ms (j : Int) ∈ d)
theorem dnL_length (ms : List Tm) (n : Nat) (d : List Tm) : (dnL ms n d).length = n + 1 := by simp [dnL]
theorem dnL_nil (ms : List Tm) (n : Nat) : dnL ms n [] = List.replicate (n + 1) false := by
  simp only [dnL,List.not_mem_nil,decide_false,List.map_const',List.length_range]
theorem dnL_at {ms : List Tm} {n : Nat} {d : List Tm} {j : Nat} (h : j ≤ n) : (dnL ms n d)[j]? = some (decide (mAt ms (j : Int) ∈ d)) := by
  simp [dnL,List.getElem?_range (by omega : j < n + 1)]
theorem dnL_set {g : List Rul} {ms : List Tm} (hg : Grn g ms) {d : List Tm} {j : Nat} (h1 : 1 ≤ j) (h2 : j ≤ g.length) : (dnL ms g.length d).set j true = dnL ms g.length (d ++ [mAt ms (j : Int)]) := by
  refine List.ext_getElem? fun i => ?_
  rw [List.getElem?_set]
  by_cases hi : i ≤ g.length
  · rw [dnL_at hi,dnL_at hi,dnL_length]
    by_cases hij : j = i
    · subst hij
      rw [if_pos rfl,if_pos (by omega)]
      simp
    · rw [if_neg hij]
      congr 1
      rw [decide_eq_decide,List.mem_append,List.mem_singleton]
      constructor
      · exact .inl
      · rintro (h | h)
        · exact h
        · have := hg.inj' (i := (i : Int)) (j := (j : Int)) (by omega) (by omega) (by omega) (by omega) h
          omega
  · rw [if_neg (by omega),List.getElem?_eq_none (by rw [dnL_length]; omega),List.getElem?_eq_none (by rw [dnL_length]; omega)]
structure Ord (g : List Rul) (ms : List Tm) (o : List Int) (d : List Tm) : Prop where
  ids : ∀ x ∈ o,1 ≤ x ∧ x ≤ g.length
  tms : o.map (mAt ms) = d
  nodup : d.Nodup
  cl : Cl d
theorem Ord.nil (g : List Rul) (ms : List Tm) : Ord g ms [] [] := ⟨by simp,rfl,.nil,.nil⟩
theorem Ord.length {g : List Rul} {ms : List Tm} {o : List Int} {d : List Tm} (h : Ord g ms o d) : o.length = d.length := by rw [← h.tms]; simp
theorem Ord.small {g : List Rul} {ms : List Tm} {o : List Int} {d : List Tm} (h : Ord g ms o d) : o.length ≤ g.length := by
  have h1 : o.Nodup := by
    have := h.nodup
    rw [← h.tms] at this
    exact List.Pairwise.of_map (mAt ms) (fun a b hab he => hab (by rw [he])) this
  exact nodup_len h1 h.ids
theorem Ord.snoc {g : List Rul} {ms : List Tm} {o : List Int} {d : List Tm} (h : Ord g ms o d) {x : Int} (h1 : 1 ≤ x) (h2 : x ≤ g.length) (hc : Cl (d ++ [mAt ms x])) (hn : (d ++ [mAt ms x]).Nodup) : Ord g ms (o ++ [x]) (d ++ [mAt ms x]) := by
  refine ⟨fun y hy => ?_,by rw [List.map_append,h.tms]; rfl,hn,hc⟩
  rcases List.mem_append.1 hy with hy | hy
  · exact h.ids y hy
  · rw [List.mem_singleton.1 hy]; exact ⟨h1,h2⟩
theorem Ord.get {g : List Rul} {ms : List Tm} {o : List Int} {d : List Tm} (h : Ord g ms o d) {i : Nat} (hi : i < o.length) : 1 ≤ o.getD i 0 ∧ o.getD i 0 ≤ g.length ∧ mAt ms (o.getD i 0) = d.getD i .nil := by
  have hm : o.getD i 0 ∈ o := getD_mem hi
  obtain ⟨h1,h2⟩ := h.ids _ hm
  refine ⟨h1,h2,?_⟩
  rw [← h.tms,getD_map (d := 0) hi]
def toL (ms : List Tm) (n : Nat) (d : List Tm) (i : Nat) : List Int := (List.range (n + 1)).map fun j : Nat => posT (d.take i) (mAt ms (j : Int))
theorem toL_length (ms : List Tm) (n : Nat) (d : List Tm) (i : Nat) : (toL ms n d i).length = n + 1 := by simp [toL]
theorem toL_zero (ms : List Tm) (n : Nat) (d : List Tm) : toL ms n d 0 = List.replicate (n + 1) 0 := by
  simp only [toL,List.take_zero,posT,List.not_mem_nil,if_false,List.map_const',List.length_range]
theorem toL_at {ms : List Tm} {n : Nat} {d : List Tm} {i j : Nat} (h : j ≤ n) : (toL ms n d i).getD j 0 = posT (d.take i) (mAt ms (j : Int)) := by
  simp [toL,List.getD_eq_getElem?_getD,List.getElem?_range (by omega : j < n + 1)]
theorem posT_take {d : List Tm} (hd : d.Nodup) {i : Nat} {m : Tm} (h : m ∈ d.take i) : posT (d.take i) m = posT d m := by
  have h2 := List.mem_of_mem_take h
  unfold posT
  rw [if_pos h,if_pos h2]
  congr 2
  conv => rhs; rw [← List.take_append_drop i d]
  rw [List.idxOf_append,if_pos h]
theorem toL_set {g : List Rul} {ms : List Tm} (hg : Grn g ms) {o : List Int} {d : List Tm} (h : Ord g ms o d) {i : Nat} (hi : i < o.length) : (toL ms g.length d i).set (o.getD i 0).toNat ((i : Int) + 1) = toL ms g.length d (i + 1) := by
  obtain ⟨h1,h2,h3⟩ := h.get hi
  have hid : i < d.length := by rw [← h.length]; exact hi
  have htk : d.take (i + 1) = d.take i ++ [d.getD i .nil] := take_snoc hid
  have hnot : d.getD i .nil ∉ d.take i := fun hm => by
    have hnd := h.nodup
    rw [← List.take_append_drop (i + 1) d,htk] at hnd
    have h4 := (List.nodup_append.1 hnd).1
    exact (List.nodup_append.1 h4).2.2 _ hm _ (by simp) rfl
  have hlen : (d.take i).length = i := by rw [List.length_take]; omega
  refine List.ext_getElem? fun j => ?_
  rw [List.getElem?_set,toL_length]
  by_cases hj : j ≤ g.length
  · have e1 : ∀ k,(toL ms g.length d k)[j]? = some (posT (d.take k) (mAt ms (j : Int))) := fun k => by
      simp [toL,List.getElem?_range (by omega : j < g.length + 1)]
    rw [e1,e1]
    by_cases hij : (o.getD i 0).toNat = j
    · rw [if_pos hij,if_pos (by omega)]
      have : (j : Int) = o.getD i 0 := by omega
      rw [this,h3,htk]
      congr 1
      unfold posT
      rw [if_pos (by simp),List.idxOf_append,if_neg hnot,hlen]
      simp
    · rw [if_neg hij,htk]
      congr 1
      have hne : mAt ms (j : Int) ≠ d.getD i .nil := fun he => by
        rw [← h3] at he
        have := hg.inj' (i := (j : Int)) (j := o.getD i 0) (by omega) (by omega) h1 h2 he
        omega
      unfold posT
      by_cases hm : mAt ms (j : Int) ∈ d.take i
      · rw [if_pos hm,if_pos (List.mem_append_left _ hm),List.idxOf_append,if_pos hm]
      · rw [if_neg hm,if_neg]
        rw [List.mem_append,List.mem_singleton]
        rintro (h | h)
        · exact hm h
        · exact hne h
  · rw [if_neg (by omega),List.getElem?_eq_none (by rw [toL_length]; omega),List.getElem?_eq_none (by rw [toL_length]; omega)]
theorem mem_take_of_split {d : List Tm} {i : Nat} (h : i < d.length) (hc : Cl d) {c : Tm} (hk : c ∈ kids (d.getD i .nil)) : c ∈ d.take i := by
  refine hc (d.take i) (d.getD i .nil) (d.drop (i + 1)) ?_ c hk
  conv => lhs; rw [← List.take_append_drop i d,List.drop_eq_getElem_cons h]
  rw [List.getD_eq_getElem?_getD,List.getElem?_eq_getElem h]; rfl
theorem Ord.rule {g : List Rul} {ms : List Tm} (hg : Grn g ms) {o : List Int} {d : List Tm} (h : Ord g ms o d) {i : Nat} (hi : i < o.length) :
    let r := g.getD ((o.getD i 0).toNat - 1) rul0
    (r.k = 1 ∧ rulT d (d.getD i .nil) = r) ∨ (r.k = 2 ∧ 0 ≤ r.a ∧ r.a ≤ g.length ∧ 0 ≤ r.b ∧ r.b ≤ g.length ∧ rulT d (d.getD i .nil) = ⟨2,r.l,(toL ms g.length d i).getD r.a.toNat 0,(toL ms g.length d i).getD r.b.toNat 0,r.t⟩) ∨ (r.k = 3 ∧ 0 ≤ r.a ∧ r.a ≤ g.length ∧ rulT d (d.getD i .nil) = ⟨3,r.l,(toL ms g.length d i).getD r.a.toNat 0,r.b,r.t⟩) := by
  obtain ⟨h1,h2,h3⟩ := h.get hi
  have hid : i < d.length := by rw [← h.length]; exact hi
  obtain ⟨n,hn⟩ : ∃ n : Nat,o.getD i 0 = (n : Int) + 1 := ⟨(o.getD i 0 - 1).toNat,by omega⟩
  have hnl : n < g.length := by omega
  rw [hn] at h3
  rw [hn,show ((n : Int) + 1).toNat - 1 = n by omega]
  obtain ⟨hc,_⟩ := hg.gr.cases hnl
  have hok := hg.gr.ok n hnl
  have hcl := fun c => mem_take_of_split (c := c) hid h.cl
  rw [← h3] at hcl ⊢
  dsimp only
  generalize g.getD n rul0 = r at *
  have hto : ∀ c : Nat,c < n → mAt ms ((c : Int) + 1) ∈ d.take i → (toL ms g.length d i).getD ((c : Int) + 1).toNat 0 = posT d (mAt ms ((c : Int) + 1)) := fun c hcn hm => by
    rw [show ((c : Int) + 1).toNat = c + 1 by omega,toL_at (by omega),show ((c + 1 : Nat) : Int) = (c : Int) + 1 by omega]
    exact posT_take h.nodup hm
  rcases hc with ⟨e1,e2,e3,l,hl,e4,e⟩ | ⟨e1,p,q,p1,q1,e2,e3,e,_⟩ | ⟨e1,e2,p,k,p1,k2,e3,e4,e,_⟩
  · refine .inl ⟨e1,?_⟩
    rw [e,rulT,letR]
    have ht : r.t = 0 := by rcases hok with h | h | h <;> omega
    obtain ⟨_,_,_,_,_⟩ := r
    simp only at *
    subst e1 e2 e3 e4 ht; rfl
  · refine .inr (.inl ⟨e1,by omega,by omega,by omega,by omega,?_⟩)
    rw [e] at hcl ⊢
    have hl : r.l = 0 ∧ r.t = 0 := by rcases hok with h | h | h <;> omega
    rw [rulT,pairR,e2,e3,hto p p1 (hcl _ (by simp [kids])),hto q q1 (hcl _ (by simp [kids])),hl.1,hl.2]
  · refine .inr (.inr ⟨e1,by omega,by omega,?_⟩)
    rw [e] at hcl ⊢
    have hl : r.l = 0 := by rcases hok with h | h | h <;> omega
    rw [rulT,powR,e3,hto p p1 (hcl _ (by simp [kids])),hl,e2,e4]
end Go.Proofs.YtkkhpdkfploodaaGreatDoor
/- The rules of an ID in order of first completion: the program. -/
namespace Go.Proofs.YtkkhpdkfploodaaGreatDoor
open Go.EG
attribute [local irreducible] CallK QCall Go.Calls
set_option linter.unusedSimpArgs false
set_option linter.unusedVariables false
set_option maxRecDepth 20000
set_option maxHeartbeats 4000000
def bls (l : List Bool) : List Value := l.map .bool
theorem bls_length (l : List Bool) : (bls l).length = l.length := by simp [bls]
theorem bls_at {l : List Bool} {i : Nat} {b : Bool} (h : l[i]? = some b) : (bls l)[i]? = some (.bool b) := by simp [bls,h]
theorem splice_bls {l : List Bool} {i : Nat} {b : Bool} (h : i < l.length) : splice (bls l) i [.bool b] = bls (l.set i b) := by
  unfold splice bls
  rw [List.map_set,List.set_eq_take_append_cons_drop,if_pos (by simpa using h)]
  simp
abbrev cpL (g : List Rul) (ms : List Tm) (d : List Tm) (o : List Int) (ad : Option Addr) (cd bo : Nat) (ao : Option Addr) (co : Nat) : List Ent :=
  [.own 871 ad (g.length + 1) cd ty_bool 1 (bls (dnL ms g.length d)),.box 872 bo [.slice ao o.length co] ty_Sl_api_ID,.own 873 ao o.length co ty_api_ID 1 (ints .i64 o)]
def cpQ (g : List Rul) (ms : List Tm) (d : List Tm) (ad : Option Addr) (cd bo : Nat) (v : Value) (L1 : List Ent) : Prop :=
  ∃ o ao co,Ord g ms o d ∧ v = .tuple #[] ∧ L1 = cpL g ms d o ad cd bo ao co
theorem calls_complete (g : List Rul) (ms : List Tm) (hg : Grn g ms) (a : Option Addr) (c : Nat) : ∀ (k : Nat),k ≤ g.length → ∀ (o : List Int) (d : List Tm),Ord g ms o d → ∀ (ad : Option Addr) (cd bo : Nat) (ao : Option Addr) (co : Nat) (fp : List Nat) (w : World),R w fp (cpL g ms d o ad cd bo ao co) w → In w fp a (rulsC (rul0 :: g)) →
    Calls Tryz.prog fn_evergreenref17_complete #[.slice a (g.length + 1) c,.int .i64 k,.slice ad (g.length + 1) cd,.pointer (some ⟨bo,0,none⟩)] w fun e w' => ∃ v L1,e = .returned v ∧ R w fp L1 w' ∧ cpQ g ms (compT (mAt ms k) d) ad cd bo v L1 := by
  intro k
  induction k using Nat.strongRecOn with
  | ind k ih =>
  intro hk o d hO ad cd bo ao co fp w hR hin
  refine part_call [.v (.slice a (g.length + 1) c),.v (.int .i64 k),.sl 871 ad (g.length + 1) cd,.ptr 872 bo 0] ok_evergreenref17_complete (by simp) hR ?_
  have hmost := hg.gr.most
  have hne := hin.ne' (k := 0) (by rw [rulsC_length]; simp)
  have hned := own_ne (key := 871) hR rfl (by omega)
  by_cases hk0 : k = 0
  · subst hk0
    have e0 : compT (mAt ms ((0 : Nat) : Int)) d = d := rfl
    rw [e0]
    (repeat' ((conv => whnf); first | (refine bcase_prop (fun h => ?_) (fun h => ?_) <;> try (exfalso; omega)) | (refine bcase_nprop (fun h => ?_) (fun h => ?_) <;> try (exfalso; omega)) | (refine bcase_intro (fun h => ?_) (fun h => ?_) <;> (try simp only [Bool.not_eq_true',Bool.not_eq_false',decide_eq_true_eq,decide_eq_false_iff_not,Bool.not_eq_true,Bool.not_eq_false,Decidable.not_not] at h)) | refine And.intro (by first | omega | exact rfl | assumption | exact ⟨rfl,rfl,rfl,rfl,rfl⟩ | exact ⟨rfl,rfl,rfl,rfl⟩ | exact ⟨rfl,by omega⟩ | exact oneAll_of rfl | exact ⟨rfl,oneAll_of rfl⟩ | exact Ref.refl _ | exact Thin.ref (.skip (Thin.refl _)) | exact Thin.ref (.skip (.skip (Thin.refl _))) | exact ⟨rfl,Nat.le_of_ble_eq_true rfl⟩ | ((try unfold maxLen); (try simp only [List.length_nil,List.length_cons,List.length_append]); omega) | (refine ⟨rfl,?_⟩; (try simp only [List.length_nil,List.length_cons,List.length_append]); omega)) ?_ | intro _)); (all_goals (conv => whnf))
    all_goals first | (exfalso; omega) | skip
    exact ⟨⟨_,Ref.refl _,o,ao,co,hO,rfl,rfl⟩⟩
  · obtain ⟨n,rfl⟩ : ∃ n,k = n + 1 := ⟨k - 1,by omega⟩
    have hn : n < g.length := by omega
    have hP := hg.gr.pos hn
    obtain ⟨hc,_⟩ := hg.gr.cases hn
    have hat := bls_at (dnL_at (ms := ms) (d := d) hk)
    have hset := splice_bls (l := dnL ms g.length d) (i := n + 1) (b := true) (by rw [dnL_length]; omega)
    have hrow := rulsC_at (g := rul0 :: g) (i := n + 1) (by simp; omega)
    rw [List.getD_cons_succ] at hrow
    have hr1 := fun {L : List Ent} => hin.rdn (L := L) (vs := ruC (g.getD n rul0)) (k := (n + 1) * 5) (Nat.succ_pos _) hrow
    have hos := hO.small
    rw [show ((n + 1 : Nat) : Int) = (n : Int) + 1 by omega] at *
    have hnn : ((n : Int) + 1).toNat = n + 1 := by omega
    by_cases hm : mAt ms ((n : Int) + 1) ∈ d
    · rw [decide_eq_true hm] at hat
      have e1 : compT (mAt ms ((n : Int) + 1)) d = d := by
        generalize mAt ms ((n : Int) + 1) = m at *
        cases m with
        | nil => exact hP.elim
        | lt x => rw [compT,if_pos hm]
        | pr x y => rw [compT,if_pos hm]
        | pw x y => rw [compT,if_pos hm]
      rw [e1]
      (repeat' ((conv => whnf); first | rw [hnn] | refine ldCell hat ?_ | (refine bcase_prop (fun h => ?_) (fun h => ?_) <;> try (exfalso; omega)) | (refine bcase_nprop (fun h => ?_) (fun h => ?_) <;> try (exfalso; omega)) | (refine bcase_intro (fun h => ?_) (fun h => ?_) <;> (try simp only [Bool.not_eq_true',Bool.not_eq_false',decide_eq_true_eq,decide_eq_false_iff_not,Bool.not_eq_true,Bool.not_eq_false,Decidable.not_not] at h)) | refine And.intro (by first | omega | exact rfl | assumption | exact ⟨rfl,rfl,rfl,rfl,rfl⟩ | exact ⟨rfl,rfl,rfl,rfl⟩ | exact ⟨rfl,by omega⟩ | exact oneAll_of rfl | exact ⟨rfl,oneAll_of rfl⟩ | exact Ref.refl _ | exact Thin.ref (.skip (Thin.refl _)) | exact Thin.ref (.skip (.skip (Thin.refl _))) | exact hned | exact ⟨rfl,Nat.le_of_ble_eq_true rfl⟩ | ((try unfold maxLen); (try simp only [List.length_nil,List.length_cons,List.length_append]); omega) | (refine ⟨rfl,?_⟩; (try simp only [List.length_nil,List.length_cons,List.length_append]); omega)) ?_ | intro _)); (all_goals (conv => whnf))
      all_goals first | (exfalso; omega) | skip
      exact ⟨⟨_,Ref.refl _,o,ao,co,hO,rfl,rfl⟩⟩
    · rw [decide_eq_false hm] at hat
      rcases hc with ⟨q1,_,_,l,hl,q2,q3⟩ | ⟨q1,p,q,p1,p2,p3,p4,q3,_⟩ | ⟨q1,_,p,t,p1,t2,p3,p4,q3,_⟩
      · have ed : compT (mAt ms ((n : Int) + 1)) d = d ++ [mAt ms ((n : Int) + 1)] := by rw [q3] at hm ⊢; rw [compT,if_neg hm]
        have hcs := comp_spec hP hO.cl hO.nodup
        rw [ed] at hcs ⊢
        have hO' := hO.snoc (x := (n : Int) + 1) (by omega) (by omega) hcs.cl hcs.nodup
        have hdn := dnL_set hg (d := d) (j := n + 1) (by omega) hk
        rw [show ((n + 1 : Nat) : Int) = (n : Int) + 1 by omega] at hdn
        rw [hdn] at hset
        have hsn := Go.EG.ints_snoc (k := .i64) (zs := o) (z := (n : Int) + 1)
        have hln : (o ++ [(n : Int) + 1]).length = o.length + 1 := by simp
        (repeat' ((conv => whnf); first | rw [hnn] | rw [hset] | rw [hsn] | refine ldCell hat ?_ | refine ⟨ruC (g.getD n rul0),rfl,hr1,?_⟩ | refine ⟨.sl 873 _ _ _,⟨rfl,rfl,rfl,rfl⟩,?_⟩ | refine ⟨_,⟨rfl,trivial⟩,?_⟩ | (refine bcase_prop (fun h => ?_) (fun h => ?_) <;> try (exfalso; omega)) | (refine bcase_nprop (fun h => ?_) (fun h => ?_) <;> try (exfalso; omega)) | (refine bcase_intro (fun h => ?_) (fun h => ?_) <;> (try simp only [Bool.not_eq_true',Bool.not_eq_false',decide_eq_true_eq,decide_eq_false_iff_not,Bool.not_eq_true,Bool.not_eq_false,Decidable.not_not] at h)) | refine And.intro (by first | omega | exact rfl | assumption | exact ⟨rfl,rfl,rfl,rfl,rfl⟩ | exact ⟨rfl,rfl,rfl,rfl⟩ | exact ⟨rfl,by omega⟩ | exact oneAll_of rfl | exact ⟨rfl,oneAll_of rfl⟩ | exact Ref.refl _ | exact Thin.ref (.skip (Thin.refl _)) | exact Thin.ref (.skip (.skip (Thin.refl _))) | exact hned | exact hne | exact ⟨by unfold maxLen; omega,by omega⟩ | (refine ⟨rfl,?_⟩; rw [bls_length,dnL_length]; omega) | exact ⟨rfl,Nat.le_of_ble_eq_true rfl⟩ | ((try unfold maxLen); (try simp only [List.length_nil,List.length_cons,List.length_append]); omega) | (refine ⟨rfl,?_⟩; (try simp only [List.length_nil,List.length_cons,List.length_append]); omega)) ?_ | intro _)); (all_goals (conv => whnf))
        all_goals first | (exfalso; omega) | skip
        rename_i b8 b47 a2 c2
        exact ⟨⟨_,Ref.takes [871,872,873] rfl (.keep rfl (fun _ h => h) (.box (by rw [hln]) (.own hln.symm rfl (.nil _)))),_,a2,c2,hO',rfl,rfl⟩⟩
      · have ed : compT (mAt ms ((n : Int) + 1)) d = compT (mAt ms ((q : Int) + 1)) (compT (mAt ms ((p : Int) + 1)) d) ++ [mAt ms ((n : Int) + 1)] := by rw [q3] at hm ⊢; rw [compT,if_neg hm]
        have hcs := comp_spec hP hO.cl hO.nodup
        have c1 := ih (p + 1) (by omega) (by omega) o d hO ad cd bo
        have c2 := fun o1 h => ih (q + 1) (by omega) (by omega) o1 (compT (mAt ms ((p : Int) + 1)) d) h ad cd bo
        rw [show ((p + 1 : Nat) : Int) = (p : Int) + 1 by omega,← p3] at c1
        rw [show ((q + 1 : Nat) : Int) = (q : Int) + 1 by omega,← p4] at c2
        rw [← p3,← p4] at ed
        rw [← p3] at c2
        rw [ed] at hcs ⊢
        have hset := splice_bls (l := dnL ms g.length (compT (mAt ms (g.getD n rul0).b) (compT (mAt ms (g.getD n rul0).a) d))) (i := n + 1) (b := true) (by rw [dnL_length]; omega)
        have hdn := dnL_set hg (d := compT (mAt ms (g.getD n rul0).b) (compT (mAt ms (g.getD n rul0).a) d)) (j := n + 1) (by omega) hk
        rw [show ((n + 1 : Nat) : Int) = (n : Int) + 1 by omega] at hdn
        rw [hdn] at hset
        generalize g.getD n rul0 = r at *
        (repeat' ((conv => whnf); first | rw [hnn] | rw [hset] | refine ldCell hat ?_ | refine ⟨ruC r,rfl,hr1,?_⟩ | (refine CallK_sub [871,872,873] rfl (fun w hR h0 => c1 _ _ _ w h0 (hin.castL hR)) ?_; rintro _ _ ⟨o1,a1,k1,hO1,rfl,rfl⟩; have c2 := c2 o1 hO1; refine ⟨.v _,rfl,?_⟩) | (refine CallK_sub [871,872,873] rfl (fun w hR h0 => c2 _ _ _ w h0 (hin.castL hR)) ?_; rintro _ _ ⟨o2,a2,k2,hO2,rfl,rfl⟩; have hos2 := hO2.small; refine ⟨.v _,rfl,?_⟩) | refine ⟨.sl 873 _ _ _,⟨rfl,rfl,rfl,rfl⟩,?_⟩ | refine ⟨_,⟨rfl,trivial⟩,?_⟩ | (refine bcase_prop (fun h => ?_) (fun h => ?_) <;> try (exfalso; omega)) | (refine bcase_nprop (fun h => ?_) (fun h => ?_) <;> try (exfalso; omega)) | (refine bcase_intro (fun h => ?_) (fun h => ?_) <;> (try simp only [Bool.not_eq_true',Bool.not_eq_false',decide_eq_true_eq,decide_eq_false_iff_not,Bool.not_eq_true,Bool.not_eq_false,Decidable.not_not] at h)) | refine And.intro (by first | omega | exact rfl | assumption | exact ⟨rfl,rfl,rfl,rfl,rfl⟩ | exact ⟨rfl,rfl,rfl,rfl⟩ | exact ⟨rfl,by omega⟩ | exact oneAll_of rfl | exact ⟨rfl,oneAll_of rfl⟩ | exact Ref.refl _ | exact Thin.ref (.skip (Thin.refl _)) | exact Thin.ref (.skip (.skip (Thin.refl _))) | exact hned | exact hne | exact ⟨by unfold maxLen; omega,by omega⟩ | (refine ⟨rfl,?_⟩; rw [bls_length,dnL_length]; omega) | exact ⟨rfl,Nat.le_of_ble_eq_true rfl⟩ | ((try unfold maxLen); (try simp only [List.length_nil,List.length_cons,List.length_append]); omega) | (refine ⟨rfl,?_⟩; (try simp only [List.length_nil,List.length_cons,List.length_append]); omega)) ?_ | intro _)); (all_goals (conv => whnf))
        all_goals first | (exfalso; omega) | skip
        rename_i b8 b47 a4 c4
        have hln : (o2 ++ [(n : Int) + 1]).length = o2.length + 1 := by simp
        exact ⟨⟨_,Ref.takes [871,872,873] rfl (.keep rfl (fun _ h => h) (.box (by rw [hln]) (.own hln.symm Go.EG.ints_snoc (.nil _)))),_,a4,c4,hO2.snoc (by omega) (by omega) hcs.cl hcs.nodup,rfl,rfl⟩⟩
      · have ed : compT (mAt ms ((n : Int) + 1)) d = compT (mAt ms ((p : Int) + 1)) d ++ [mAt ms ((n : Int) + 1)] := by rw [q3] at hm ⊢; rw [compT,if_neg hm]
        have hcs := comp_spec hP hO.cl hO.nodup
        have c1 := ih (p + 1) (by omega) (by omega) o d hO ad cd bo
        rw [show ((p + 1 : Nat) : Int) = (p : Int) + 1 by omega,← p3] at c1
        rw [← p3] at ed
        rw [ed] at hcs ⊢
        have hset := splice_bls (l := dnL ms g.length (compT (mAt ms (g.getD n rul0).a) d)) (i := n + 1) (b := true) (by rw [dnL_length]; omega)
        have hdn := dnL_set hg (d := compT (mAt ms (g.getD n rul0).a) d) (j := n + 1) (by omega) hk
        rw [show ((n + 1 : Nat) : Int) = (n : Int) + 1 by omega] at hdn
        rw [hdn] at hset
        generalize g.getD n rul0 = r at *
        (repeat' ((conv => whnf); first | rw [hnn] | rw [hset] | refine ldCell hat ?_ | refine ⟨ruC r,rfl,hr1,?_⟩ | (refine CallK_sub [871,872,873] rfl (fun w hR h0 => c1 _ _ _ w h0 (hin.castL hR)) ?_; rintro _ _ ⟨o1,a1,k1,hO1,rfl,rfl⟩; have hos1 := hO1.small; refine ⟨.v _,rfl,?_⟩) | refine ⟨.sl 873 _ _ _,⟨rfl,rfl,rfl,rfl⟩,?_⟩ | refine ⟨_,⟨rfl,trivial⟩,?_⟩ | (refine bcase_prop (fun h => ?_) (fun h => ?_) <;> try (exfalso; omega)) | (refine bcase_nprop (fun h => ?_) (fun h => ?_) <;> try (exfalso; omega)) | (refine bcase_intro (fun h => ?_) (fun h => ?_) <;> (try simp only [Bool.not_eq_true',Bool.not_eq_false',decide_eq_true_eq,decide_eq_false_iff_not,Bool.not_eq_true,Bool.not_eq_false,Decidable.not_not] at h)) | refine And.intro (by first | omega | exact rfl | assumption | exact ⟨rfl,rfl,rfl,rfl,rfl⟩ | exact ⟨rfl,rfl,rfl,rfl⟩ | exact ⟨rfl,by omega⟩ | exact oneAll_of rfl | exact ⟨rfl,oneAll_of rfl⟩ | exact Ref.refl _ | exact Thin.ref (.skip (Thin.refl _)) | exact Thin.ref (.skip (.skip (Thin.refl _))) | exact hned | exact hne | exact ⟨by unfold maxLen; omega,by omega⟩ | (refine ⟨rfl,?_⟩; rw [bls_length,dnL_length]; omega) | exact ⟨rfl,Nat.le_of_ble_eq_true rfl⟩ | ((try unfold maxLen); (try simp only [List.length_nil,List.length_cons,List.length_append]); omega) | (refine ⟨rfl,?_⟩; (try simp only [List.length_nil,List.length_cons,List.length_append]); omega)) ?_ | intro _)); (all_goals (conv => whnf))
        all_goals first | (exfalso; omega) | skip
        rename_i b8 b47 a4 c4
        have hln : (o1 ++ [(n : Int) + 1]).length = o1.length + 1 := by simp
        exact ⟨⟨_,Ref.takes [871,872,873] rfl (.keep rfl (fun _ h => h) (.box (by rw [hln]) (.own hln.symm Go.EG.ints_snoc (.nil _)))),_,a4,c4,hO1.snoc (by omega) (by omega) hcs.cl hcs.nodup,rfl,rfl⟩⟩
def orQ0 (g : List Rul) (ms : List Tm) (d : List Tm) (v : Value) (L1 : List Ent) : Prop :=
  ∃ o a c,Ord g ms o d ∧ v = .slice a o.length c ∧ L1 = [.own 873 a o.length c ty_api_ID 1 (ints .i64 o)]
def orQ (g : List Rul) (ms : List Tm) (d : List Tm) (v : Value) (L1 : List Ent) : Prop :=
  ∃ o a c,Ord g ms o d ∧ (0 < o.length → a ≠ none) ∧ v = .slice a o.length c ∧ L1 = [.own 873 a o.length c ty_api_ID 1 (ints .i64 o)]
theorem bls_rep (n : Nat) : (List.replicate n [Value.bool false]).flatten = bls (List.replicate n false) := by
  induction n with
  | zero => rfl
  | succ n ih => rw [List.replicate_succ,List.flatten_cons,ih,List.replicate_succ]; rfl
theorem ints_rep (k : IntKind) (n : Nat) : (List.replicate n [Value.int k 0]).flatten = ints k (List.replicate n 0) := by
  induction n with
  | zero => rfl
  | succ n ih => rw [List.replicate_succ,List.flatten_cons,ih,List.replicate_succ]; rfl
theorem calls_Order0 (g : List Rul) (ms : List Tm) (hg : Grn g ms) (a : Option Addr) (c : Nat) (k : Nat) (hk : k ≤ g.length) (w : World) (hin : In w [] a (rulsC (rul0 :: g))) :
    Calls Tryz.prog fn_evergreenref17_Order #[.slice a (g.length + 1) c,.int .i64 k] w fun e w' => ∃ v L1,e = .returned v ∧ R w [] L1 w' ∧ orQ0 g ms (compT (mAt ms k) []) v L1 := by
  refine new_call [.v (.slice a (g.length + 1) c),.v (.int .i64 k)] ok_evergreenref17_Order (by simp) ?_
  have hmost := hg.gr.most
  have hrep : (List.replicate (g.length + 1) [Value.bool false]).flatten = bls (dnL ms g.length []) := by rw [dnL_nil,bls_rep]
  have hnn : (((g.length + 1 : Nat) : Int)).toNat = g.length + 1 := by omega
  (repeat' ((conv => whnf); first | rw [hnn] | (refine bcase_prop (fun h => ?_) (fun h => ?_) <;> try (exfalso; omega)) | (refine bcase_nprop (fun h => ?_) (fun h => ?_) <;> try (exfalso; omega)) | (refine bcase_intro (fun h => ?_) (fun h => ?_) <;> (try simp only [Bool.not_eq_true',Bool.not_eq_false',decide_eq_true_eq,decide_eq_false_iff_not,Bool.not_eq_true,Bool.not_eq_false,Decidable.not_not] at h)) | refine And.intro (by first | omega | exact rfl | assumption | exact ⟨rfl,rfl,rfl,rfl,rfl⟩ | exact ⟨rfl,rfl,rfl,rfl⟩ | exact ⟨rfl,by omega⟩ | exact oneAll_of rfl | exact ⟨rfl,oneAll_of rfl⟩ | exact Ref.refl _ | exact Thin.ref (.skip (Thin.refl _)) | exact Thin.ref (.skip (.skip (Thin.refl _))) | exact ⟨rfl,Nat.le_of_ble_eq_true rfl⟩ | ((try unfold maxLen); (try simp only [List.length_nil,List.length_cons,List.length_append]); omega) | (refine ⟨rfl,?_⟩; (try simp only [List.length_nil,List.length_cons,List.length_append]); omega)) ?_ | intro _)); (all_goals (conv => whnf))
  all_goals first | (exfalso; omega) | skip
  rename_i b9 b6
  refine CallK_post ?_
  refine CallK_ref (L' := cpL g ms [] [] (some ⟨b9,0,none⟩) (g.length + 1) b6 none 0) ((Ref.ownNil 873 ty_api_ID 1).trans (Ref.takes [9,6,873] rfl (.own rfl hrep (.keep rfl (fun _ h => h) (.keep rfl (fun _ h => h) (.nil _)))))) ?_
  refine CallK_sub [871,872,873] rfl (fun w hR h0 => calls_complete g ms hg a c k hk [] [] (Ord.nil g ms) _ _ _ _ _ _ w h0 (hin.cast hR (by simp))) ?_
  rintro _ _ ⟨o,ao,co,hO,rfl,rfl⟩
  refine ⟨.v _,rfl,[.box 6 b6 [.slice ao o.length co] ty_Sl_api_ID,.own 873 ao o.length co ty_api_ID 1 (ints .i64 o)],Ref.takes [872,873] rfl (.keep rfl (fun _ h => h) (.keep rfl (fun _ h => h) (.nil _))),?_⟩
  have hos := hO.small
  (repeat' ((conv => whnf); first | refine ⟨.sl 873 _ _ _,⟨rfl,rfl,rfl,rfl⟩,?_⟩ | refine ⟨_,⟨rfl,trivial⟩,?_⟩ | (refine bcase_prop (fun h => ?_) (fun h => ?_) <;> try (exfalso; omega)) | (refine bcase_nprop (fun h => ?_) (fun h => ?_) <;> try (exfalso; omega)) | (refine bcase_intro (fun h => ?_) (fun h => ?_) <;> (try simp only [Bool.not_eq_true',Bool.not_eq_false',decide_eq_true_eq,decide_eq_false_iff_not,Bool.not_eq_true,Bool.not_eq_false,Decidable.not_not] at h)) | refine And.intro (by first | omega | exact rfl | assumption | exact ⟨rfl,rfl,rfl,rfl,rfl⟩ | exact ⟨rfl,rfl,rfl,rfl⟩ | exact ⟨rfl,by omega⟩ | exact oneAll_of rfl | exact ⟨rfl,oneAll_of rfl⟩ | exact Ref.refl _ | exact Thin.ref (.skip (Thin.refl _)) | exact Thin.ref (.skip (.skip (Thin.refl _))) | exact ⟨rfl,Nat.le_of_ble_eq_true rfl⟩ | ((try unfold maxLen); (try simp only [List.length_nil,List.length_cons,List.length_append]); omega) | (refine ⟨rfl,?_⟩; (try simp only [List.length_nil,List.length_cons,List.length_append]); omega)) ?_ | intro _)); (all_goals (conv => whnf))
  exact ⟨⟨_,Ref.takes [873] rfl (Thin.refl _),o,ao,co,hO,rfl,rfl⟩⟩
theorem calls_Order (g : List Rul) (ms : List Tm) (hg : Grn g ms) (a : Option Addr) (c : Nat) (k : Nat) (hk : k ≤ g.length) (w : World) (hin : In w [] a (rulsC (rul0 :: g))) :
    Calls Tryz.prog fn_evergreenref17_Order #[.slice a (g.length + 1) c,.int .i64 k] w fun e w' => ∃ v L1,e = .returned v ∧ R w [] L1 w' ∧ orQ g ms (compT (mAt ms k) []) v L1 :=
  (calls_Order0 g ms hg a c k hk w hin).mono fun e w' ⟨v,L1,he,hR',o,a1,c1,hO,hv,hL⟩ => by
    subst hL
    exact ⟨v,_,he,hR',o,a1,c1,hO,fun h => own_ne hR' (key := 873) rfl h,hv,rfl⟩
structure CnG where
  i : Nat
  a : Option Addr
  c : Nat
def cnQ (m : Tm) (v : Value) (L1 : List Ent) : Prop := (canT m).length ≤ 1048576 ∧ ∃ a c,v = .slice a (canT m).length c ∧ L1 = [.own 880 a (canT m).length c ty_api_Rule 5 (rulsC (canT m))]
theorem calls_refCanon (g : List Rul) (ms : List Tm) (hg : Grn g ms) (a : Option Addr) (c : Nat) (k : Nat) (hk : k ≤ g.length) (w : World) (hin : In w [] a (rulsC (rul0 :: g))) :
    Calls Tryz.prog fn_evergreenref22_Canon #[.slice a (g.length + 1) c,.int .i64 k] w fun e w' => ∃ v L1,e = .returned v ∧ R w [] L1 w' ∧ cnQ (mAt ms k) v L1 := by
  refine new_call [.v (.slice a (g.length + 1) c),.v (.int .i64 k)] ok_evergreenref22_Canon (by simp) ?_
  have hmost := hg.gr.most
  have hne := hin.ne' (k := 0) (by rw [rulsC_length]; simp)
  have hnn : (((g.length + 1 : Nat) : Int)).toNat = g.length + 1 := by omega
  have hcl := canT_length (mAt ms k)
  have hcan : canT (mAt ms k) = (compT (mAt ms k) []).map (rulT (compT (mAt ms k) [])) := rfl
  unfold cnQ
  generalize canT (mAt ms k) = can at *
  have cO := fun w h => calls_Order g ms hg a c k hk w h
  generalize compT (mAt ms k) [] = d at *
  (repeat' ((conv => whnf); first | rw [hnn] | (refine CallK_new (fun w' hR => cO w' (hin.cast hR (by simp))) ?_; rintro _ _ ⟨o,ao,co,hO,hno,rfl,rfl⟩; refine ⟨.v _,rfl,?_⟩) | (refine bcase_prop (fun h => ?_) (fun h => ?_) <;> try (exfalso; omega)) | (refine bcase_nprop (fun h => ?_) (fun h => ?_) <;> try (exfalso; omega)) | (refine bcase_intro (fun h => ?_) (fun h => ?_) <;> (try simp only [Bool.not_eq_true',Bool.not_eq_false',decide_eq_true_eq,decide_eq_false_iff_not,Bool.not_eq_true,Bool.not_eq_false,Decidable.not_not] at h)) | refine And.intro (by first | omega | exact rfl | assumption | exact ⟨rfl,rfl,rfl,rfl,rfl⟩ | exact ⟨rfl,rfl,rfl,rfl⟩ | exact ⟨rfl,by omega⟩ | exact oneAll_of rfl | exact ⟨rfl,oneAll_of rfl⟩ | exact Ref.refl _ | exact Thin.ref (.skip (Thin.refl _)) | exact Thin.ref (.skip (.skip (Thin.refl _))) | exact ⟨rfl,Nat.le_of_ble_eq_true rfl⟩ | ((try unfold maxLen); (try simp only [List.length_nil,List.length_cons,List.length_append]); omega) | (refine ⟨rfl,?_⟩; (try simp only [List.length_nil,List.length_cons,List.length_append]); omega)) ?_ | intro _)); (all_goals (conv => whnf))
  all_goals first | (exfalso; omega) | skip
  rename_i b15
  have hos := hO.small
  have hod := hO.length
  have hrep : (List.replicate (g.length + 1) [Value.int .i64 0]).flatten = ints .i64 (toL ms g.length d 0) := by rw [toL_zero,ints_rep]
  refine VC_loop CnG (fun y => [(0,.v (.slice a (g.length + 1) c)),(5,.v (.slice ao o.length co)),(6,.sl 15 (some ⟨b15,0,none⟩) (g.length + 1) (g.length + 1)),(7,.sl 880 y.a y.i y.c),(8,.v (.int .i64 y.i))])
    (fun y => [.own 873 ao o.length co ty_api_ID 1 (ints .i64 o),.own 15 (some ⟨b15,0,none⟩) (g.length + 1) (g.length + 1) ty_api_ID 1 (ints .i64 (toL ms g.length d y.i)),.own 880 y.a y.i y.c ty_api_Rule 5 (rulsC (can.take y.i))])
    (fun y => y.i ≤ o.length) (fun y => o.length - y.i) ⟨0,none,0⟩ (Nat.zero_le _) (by (repeat ((conv => whnf); refine And.intro (by first | exact rfl | exact vint_eq (by omega) | exact vint_eq (by (dsimp only; omega)) | exact vsl_eq (by omega) | exact vsl_eq (by first | (dsimp only; omega) | (simp; done) | (simp; omega))) ?_)); exact trivial) ((Ref.ownNil 880 ty_api_Rule 5).trans (Ref.takes [873,15,880] rfl (.keep rfl (fun _ h => h) (.own rfl hrep (.keep rfl (fun _ h => h) (.nil _)))))) ?_
  rintro ⟨i,a7,c7⟩ hi
  dsimp only at hi ⊢
  by_cases hlt : i < o.length
  · obtain ⟨x1,x2,x3⟩ := hO.get hlt
    have hrule := hO.rule hg hlt
    have hset := toL_set hg hO hlt
    have htk : can.take (i + 1) = can.take i ++ [rulT d (d.getD i .nil)] := by
      rw [take_snoc (d := rul0) (by omega)]
      congr 2
      rw [hcan,getD_map (d := .nil) (by omega)]
    have hsn := rulsC_snoc (can.take i) (rulT d (d.getD i .nil))
    rw [← htk] at hsn
    have ro := ints_getD (k := .i64) hlt
    have hn2 := hno (by omega)
    dsimp only at hrule
    generalize o.getD i 0 = x at *
    have hrow := rulsC_at (g := rul0 :: g) (i := x.toNat) (by simp; omega)
    have hgx : (rul0 :: g).getD x.toNat rul0 = g.getD (x.toNat - 1) rul0 := by
      obtain ⟨m,hm⟩ : ∃ m,x.toNat = m + 1 := ⟨x.toNat - 1,by omega⟩
      rw [hm,List.getD_cons_succ]; rfl
    rw [hgx] at hrow
    generalize g.getD (x.toNat - 1) rul0 = r at *
    have hr1 := fun {L : List Ent} => hin.rdn (L := L) (vs := ruC r) (k := x.toNat * 5) (Nat.succ_pos _) hrow
    have hsp : splice (ints .i64 (toL ms g.length d i)) x.toNat [.int .i64 ((i : Int) + 1)] = ints .i64 (toL ms g.length d (i + 1)) := by
      rw [splice_ints (by rw [toL_length]; omega),hset]
    generalize rulT d (d.getD i .nil) = r2 at *
    have hb : x.toNat + 1 ≤ (ints .i64 (toL ms g.length d i)).length := by rw [ints_length,toL_length]; omega
    rcases hrule with ⟨k1,he⟩ | ⟨k1,k2,k3,k4,k5,he⟩ | ⟨k1,k2,k3,he⟩
    · rw [he] at hsn htk
      (repeat' ((conv => whnf); first | rw [Int.toNat_natCast] | rw [Nat.mul_one] | rw [hsp] | rw [hsn] | refine ⟨_,rdO 873 rfl ro,?_⟩ | refine ⟨ruC r,rfl,hr1,?_⟩  | (refine bcase_prop (fun h => ?_) (fun h => ?_) <;> try (exfalso; omega)) | (refine bcase_nprop (fun h => ?_) (fun h => ?_) <;> try (exfalso; omega)) | (refine bcase_intro (fun h => ?_) (fun h => ?_) <;> (try simp only [Bool.not_eq_true',Bool.not_eq_false',decide_eq_true_eq,decide_eq_false_iff_not,Bool.not_eq_true,Bool.not_eq_false,Decidable.not_not] at h)) | refine And.intro (by first | omega | exact rfl | assumption | exact ⟨rfl,rfl,rfl,rfl,rfl⟩ | exact ⟨rfl,rfl,rfl,rfl⟩ | exact ⟨rfl,by omega⟩ | exact oneAll_of rfl | exact ⟨rfl,oneAll_of rfl⟩ | exact Ref.refl _ | exact Thin.ref (.skip (Thin.refl _)) | exact Thin.ref (.skip (.skip (Thin.refl _))) | exact hne | exact hn2 | exact ⟨rfl,hb⟩ | exact ⟨by unfold maxLen; omega,by omega⟩ | exact ⟨rfl,Nat.le_of_ble_eq_true rfl⟩ | ((try unfold maxLen); (try simp only [List.length_nil,List.length_cons,List.length_append]); omega) | (refine ⟨rfl,?_⟩; (try simp only [List.length_nil,List.length_cons,List.length_append]); omega)) ?_ | intro _)); (all_goals (conv => whnf))
      all_goals first | (exfalso; omega) | skip
      all_goals (rename_i b9 b57 a8 c8; exact loop_next ⟨i + 1,a8,c8⟩ (by ((try dsimp only); omega)) (by ((try dsimp only); omega)) (by (repeat ((conv => whnf); refine And.intro (by first | exact rfl | exact vint_eq (by omega) | exact vint_eq (by (dsimp only; omega)) | exact vsl_eq (by omega) | exact vsl_eq (by first | (dsimp only; omega) | (simp; done) | (simp; omega))) ?_)); exact trivial) (Ref.takes [873,15,880] rfl (.keep rfl (fun _ h => h) (.keep rfl (fun _ h => h) (.keep rfl (fun _ h => h) (.nil _))))))
    · have ra : (ints .i64 (toL ms g.length d i))[r.a.toNat]? = some (.int .i64 ((toL ms g.length d i).getD r.a.toNat 0)) := ints_getD (by rw [toL_length]; omega)
      have rb : (ints .i64 (toL ms g.length d i))[r.b.toNat]? = some (.int .i64 ((toL ms g.length d i).getD r.b.toNat 0)) := ints_getD (by rw [toL_length]; omega)
      rw [← k1] at he
      rw [he] at hsn htk
      (repeat' ((conv => whnf); first | rw [Int.toNat_natCast] | rw [Nat.mul_one] | rw [hsp] | rw [hsn] | refine ⟨_,rdO 873 rfl ro,?_⟩ | refine ldCell ra ?_ | refine ldCell rb ?_ | refine ⟨ruC r,rfl,hr1,?_⟩  | (refine bcase_prop (fun h => ?_) (fun h => ?_) <;> try (exfalso; omega)) | (refine bcase_nprop (fun h => ?_) (fun h => ?_) <;> try (exfalso; omega)) | (refine bcase_intro (fun h => ?_) (fun h => ?_) <;> (try simp only [Bool.not_eq_true',Bool.not_eq_false',decide_eq_true_eq,decide_eq_false_iff_not,Bool.not_eq_true,Bool.not_eq_false,Decidable.not_not] at h)) | refine And.intro (by first | omega | exact rfl | assumption | exact ⟨rfl,rfl,rfl,rfl,rfl⟩ | exact ⟨rfl,rfl,rfl,rfl⟩ | exact ⟨rfl,by omega⟩ | exact oneAll_of rfl | exact ⟨rfl,oneAll_of rfl⟩ | exact Ref.refl _ | exact Thin.ref (.skip (Thin.refl _)) | exact Thin.ref (.skip (.skip (Thin.refl _))) | exact hne | exact hn2 | exact ⟨rfl,hb⟩ | exact ⟨by unfold maxLen; omega,by omega⟩ | exact ⟨rfl,Nat.le_of_ble_eq_true rfl⟩ | ((try unfold maxLen); (try simp only [List.length_nil,List.length_cons,List.length_append]); omega) | (refine ⟨rfl,?_⟩; (try simp only [List.length_nil,List.length_cons,List.length_append]); omega)) ?_ | intro _)); (all_goals (conv => whnf))
      all_goals first | (exfalso; omega) | skip
      all_goals (rename_i b9 b57 a8 c8; exact loop_next ⟨i + 1,a8,c8⟩ (by ((try dsimp only); omega)) (by ((try dsimp only); omega)) (by (repeat ((conv => whnf); refine And.intro (by first | exact rfl | exact vint_eq (by omega) | exact vint_eq (by (dsimp only; omega)) | exact vsl_eq (by omega) | exact vsl_eq (by first | (dsimp only; omega) | (simp; done) | (simp; omega))) ?_)); exact trivial) (Ref.takes [873,15,880] rfl (.keep rfl (fun _ h => h) (.keep rfl (fun _ h => h) (.keep rfl (fun _ h => h) (.nil _))))))
    · have ra : (ints .i64 (toL ms g.length d i))[r.a.toNat]? = some (.int .i64 ((toL ms g.length d i).getD r.a.toNat 0)) := ints_getD (by rw [toL_length]; omega)
      rw [← k1] at he
      rw [he] at hsn htk
      (repeat' ((conv => whnf); first | rw [Int.toNat_natCast] | rw [Nat.mul_one] | rw [hsp] | rw [hsn] | refine ⟨_,rdO 873 rfl ro,?_⟩ | refine ldCell ra ?_ | refine ⟨ruC r,rfl,hr1,?_⟩  | (refine bcase_prop (fun h => ?_) (fun h => ?_) <;> try (exfalso; omega)) | (refine bcase_nprop (fun h => ?_) (fun h => ?_) <;> try (exfalso; omega)) | (refine bcase_intro (fun h => ?_) (fun h => ?_) <;> (try simp only [Bool.not_eq_true',Bool.not_eq_false',decide_eq_true_eq,decide_eq_false_iff_not,Bool.not_eq_true,Bool.not_eq_false,Decidable.not_not] at h)) | refine And.intro (by first | omega | exact rfl | assumption | exact ⟨rfl,rfl,rfl,rfl,rfl⟩ | exact ⟨rfl,rfl,rfl,rfl⟩ | exact ⟨rfl,by omega⟩ | exact oneAll_of rfl | exact ⟨rfl,oneAll_of rfl⟩ | exact Ref.refl _ | exact Thin.ref (.skip (Thin.refl _)) | exact Thin.ref (.skip (.skip (Thin.refl _))) | exact hne | exact hn2 | exact ⟨rfl,hb⟩ | exact ⟨by unfold maxLen; omega,by omega⟩ | exact ⟨rfl,Nat.le_of_ble_eq_true rfl⟩ | ((try unfold maxLen); (try simp only [List.length_nil,List.length_cons,List.length_append]); omega) | (refine ⟨rfl,?_⟩; (try simp only [List.length_nil,List.length_cons,List.length_append]); omega)) ?_ | intro _)); (all_goals (conv => whnf))
      all_goals first | (exfalso; omega) | skip
      all_goals (rename_i b9 b57 a8 c8; exact loop_next ⟨i + 1,a8,c8⟩ (by ((try dsimp only); omega)) (by ((try dsimp only); omega)) (by (repeat ((conv => whnf); refine And.intro (by first | exact rfl | exact vint_eq (by omega) | exact vint_eq (by (dsimp only; omega)) | exact vsl_eq (by omega) | exact vsl_eq (by first | (dsimp only; omega) | (simp; done) | (simp; omega))) ?_)); exact trivial) (Ref.takes [873,15,880] rfl (.keep rfl (fun _ h => h) (.keep rfl (fun _ h => h) (.keep rfl (fun _ h => h) (.nil _))))))
  · have hil : i = can.length := by omega
    have hct : can.take i = can := by rw [hil,List.take_length]
    rw [hct,hil]
    (repeat' ((conv => whnf); first | refine ⟨.sl 880 _ _ _,⟨rfl,rfl,rfl,rfl⟩,?_⟩ | (refine bcase_prop (fun h => ?_) (fun h => ?_) <;> try (exfalso; omega)) | (refine bcase_nprop (fun h => ?_) (fun h => ?_) <;> try (exfalso; omega)) | (refine bcase_intro (fun h => ?_) (fun h => ?_) <;> (try simp only [Bool.not_eq_true',Bool.not_eq_false',decide_eq_true_eq,decide_eq_false_iff_not,Bool.not_eq_true,Bool.not_eq_false,Decidable.not_not] at h)) | refine And.intro (by first | omega | exact rfl | assumption | exact ⟨rfl,rfl,rfl,rfl,rfl⟩ | exact ⟨rfl,rfl,rfl,rfl⟩ | exact ⟨rfl,by omega⟩ | exact oneAll_of rfl | exact ⟨rfl,oneAll_of rfl⟩ | exact Ref.refl _ | exact Thin.ref (.skip (Thin.refl _)) | exact Thin.ref (.skip (.skip (Thin.refl _))) | exact ⟨rfl,Nat.le_of_ble_eq_true rfl⟩ | ((try unfold maxLen); (try simp only [List.length_nil,List.length_cons,List.length_append]); omega) | (refine ⟨rfl,?_⟩; (try simp only [List.length_nil,List.length_cons,List.length_append]); omega)) ?_ | intro _)); (all_goals (conv => whnf))
    all_goals first | (exfalso; omega) | skip
    exact ⟨⟨[.own 880 a7 can.length c7 ty_api_Rule 5 (rulsC can)],Ref.takes [880] rfl (Thin.refl _),by omega,a7,c7,rfl,rfl⟩⟩
theorem Rch.grn {S : Sto} (hw : WF S) {id : Int} {L : List Int} (h : Rch S id L) (hk : id ≤ S.E.length) : Grn (xg S L) (L.map (tm S.E)) := by
  refine ⟨h.gr hw hk,fun i j hi hj he => ?_⟩
  rw [xg_length] at hi hj
  rw [getD_map (d := 0) hi,getD_map (d := 0) hj] at he
  obtain ⟨p1,p2⟩ := h.pos _ (getD_mem hi)
  obtain ⟨q1,q2⟩ := h.pos _ (getD_mem hj)
  have := (hw.inj_iff p1 (by omega) q1 (by omega)).1 he
  rcases Nat.lt_trichotomy i j with hc | hc | hc
  · have := asc_get h.asc hc hj; omega
  · exact hc
  · have := asc_get h.asc hc hi; omega
theorem oneAll_ruls : ∀ g : List Rul,oneAll (rulsC g)
  | [] => trivial
  | r :: g => ⟨trivial,trivial,trivial,trivial,trivial,oneAll_ruls g⟩
theorem rdsW {w0 : World} {fp0 : List Nat} {L : List Ent} (key : Nat) {a : Option Addr} {n c T sz m : Nat} {xs : List Value} (h : ownAt key L = some ⟨a,n,c,T,sz,xs⟩) (hm : m = xs.length) : RdS w0 fp0 L a m xs := by
  refine ⟨hm,?_⟩
  by_cases hx : xs = []
  · exact .inl hx
  · refine .inr fun w hR => ?_
    obtain ⟨v0,hv0⟩ : ∃ v,xs[0]? = some v := ⟨xs[0]'(List.length_pos_iff.2 hx),by simp⟩
    obtain ⟨g,ha,_⟩ := cell_own hR h hv0
    refine ⟨g,0,ha,fun j v hv => ?_⟩
    obtain ⟨g',ha',hc⟩ := cell_own hR h hv
    rw [ha] at ha'
    simp only [Option.some.injEq,Addr.mk.injEq,and_true] at ha'
    subst ha'
    rw [Nat.zero_add]; exact hc
def lcQ (bs : Nat) (S : Sto) (m : Tm) (v : Value) (L1 : List Ent) : Prop := (canT m).length ≤ 1048576 ∧ ∃ a c fp',v = .tuple #[.slice a (canT m).length c,.bool true] ∧ L1 = [packE 77 fp' (fS bs S),.own 880 a (canT m).length c ty_api_Rule 5 (rulsC (canT m))]
theorem calls_lCanon (hs : SortsI Tryz.prog fn_slices_Sort_Sl_api_ID_api_ID) (b : Nat) (S : Sto) (hw : WF S) (id : Int) (hk : known S id) (f fp : List Nat) (w : World) (hR : R w fp [packE 77 f (fS b S)] w) :
    Calls Tryz.prog fn_evergreenlaw22_Canon #[pS b,.int .i64 id] w fun e w' => ∃ v L1,e = .returned v ∧ R w fp L1 w' ∧ lcQ b S (tm S.E id) v L1 := by
  refine part_call [.v (pS b),.v (.int .i64 id)] ok_evergreenlaw22_Canon (by simp) hR ?_
  have c5 := calls_ExportN hs b S hw id hk
  have hsm := hw.small
  have hcm : ∀ L,1 + (xg S L).length = (xg S L).length + 1 := fun L => Nat.add_comm _ _
  have hgn : ∀ L,Rch S id L → Grn (xg S L) (L.map (tm S.E)) := fun L hL => hL.grn hw hk.2
  have htx : ∀ L,Rch S id L → mAt (L.map (tm S.E)) ((xg S L).length : Nat) = tm S.E id := fun L hL => by rw [xg_length]; exact hL.top_ hk.1
  have hcz : ∀ L,Rch S id L → chk 1 (xg S L) = 0 := fun L hL => chk_zero.2 fun i hi => by
    have := (hgn L hL).gr.ok i hi
    rwa [show (1 : Int) + (i : Int) = (i : Int) + 1 by omega]
  have c6 := fun (L : List Int) (hL : Rch S id L) a c w h => calls_r11Check (xg S L) a c (by have := (hgn L hL).gr.most; omega) w h
  have c7 := fun (L : List Int) (hL : Rch S id L) a c w h => calls_refCanon (xg S L) _ (hgn L hL) a c (xg S L).length (Nat.le_refl _) w h
  unfold lcQ
  (repeat' ((conv => whnf); first | (refine CallK_pack (key := 77) rfl (fun w hR h0 => c5 _ _ _ h0) ?_; rintro _ _ ⟨L,aL,cL,fp',hL,hne,rfl,rfl⟩; have cK := c6 L hL; have cC := c7 L hL; have hm1 := (hgn L hL).gr.most; rw [hcz L hL] at cK; rw [htx L hL] at cC; refine ⟨.v _,rfl,?_⟩) | (refine CallK_pure (.v _) (fun w hR => cK _ _ w (In.ownR (key := 812) hR rfl)) ?_) | refine ⟨_,rdsW 812 rfl (rulsC_length _).symm,oneAll_ruls _,?_⟩ | rw [hcm L] | (refine CallK_new (fun w' hR => cC _ _ w' (In.ownR (key := 22) hR rfl)) ?_; rintro _ _ ⟨hsz,a9,c9,rfl,rfl⟩; refine ⟨.v _,rfl,?_⟩) | (refine bcase_prop (fun h => ?_) (fun h => ?_) <;> try (exfalso; omega)) | (refine bcase_nprop (fun h => ?_) (fun h => ?_) <;> try (exfalso; omega)) | (refine bcase_intro (fun h => ?_) (fun h => ?_) <;> (try simp only [Bool.not_eq_true',Bool.not_eq_false',decide_eq_true_eq,decide_eq_false_iff_not,Bool.not_eq_true,Bool.not_eq_false,Decidable.not_not] at h)) | refine And.intro (by first | omega | exact rfl | assumption | exact ⟨rfl,rfl,rfl,rfl,rfl⟩ | exact ⟨rfl,rfl,rfl,rfl⟩ | exact ⟨rfl,by omega⟩ | exact oneAll_of rfl | exact ⟨rfl,oneAll_of rfl⟩ | exact Ref.refl _ | exact Thin.ref (.skip (Thin.refl _)) | exact Thin.ref (.skip (.skip (Thin.refl _))) | exact ⟨rfl,Nat.le_of_ble_eq_true rfl⟩ | ((try unfold maxLen); (try simp only [List.length_nil,List.length_cons,List.length_append]); omega) | (refine ⟨rfl,?_⟩; (try simp only [List.length_nil,List.length_cons,List.length_append]); omega)) ?_ | intro _)); (all_goals (conv => whnf))
  all_goals first | (exfalso; omega) | skip
  exact ⟨⟨_,Ref.takes [77,880] rfl (Thin.refl _),hsz,a9,c9,_,rfl,rfl⟩⟩
end Go.Proofs.YtkkhpdkfploodaaGreatDoor
/- Signatures in two stores: the program. -/
namespace Go.Proofs.YtkkhpdkfploodaaGreatDoor
open Go.EG
attribute [local irreducible] CallK QCall Go.Calls
set_option linter.unusedSimpArgs false
set_option linter.unusedVariables false
set_option maxRecDepth 20000
set_option maxHeartbeats 4000000
theorem calls_Same (g : List Rul) (hl : g.length ≤ 1048576) (a a' : Option Addr) (c c' : Nat) (w : World) (h1 : In w [] a (rulsC g)) (h2 : In w [] a' (rulsC g)) :
    Calls Tryz.prog fn_evergreenref11_Same #[.slice a g.length c,.slice a' g.length c'] w fun e w' => e = .returned (.bool true) ∧ Ext w w' := by
  refine pure_call [.v (.slice a g.length c),.v (.slice a' g.length c')] w ok_evergreenref11_Same (by simp) ?_
  (repeat' ((conv => whnf); first | (refine bcase_prop (fun h => ?_) (fun h => ?_) <;> try (exfalso; omega)) | (refine bcase_nprop (fun h => ?_) (fun h => ?_) <;> try (exfalso; omega)) | (refine bcase_intro (fun h => ?_) (fun h => ?_) <;> (try simp only [Bool.not_eq_true',Bool.not_eq_false',decide_eq_true_eq,decide_eq_false_iff_not,Bool.not_eq_true,Bool.not_eq_false,Decidable.not_not] at h)) | refine And.intro (by first | omega | exact rfl | assumption | exact ⟨rfl,rfl,rfl,rfl,rfl⟩ | exact ⟨rfl,rfl,rfl,rfl⟩ | exact ⟨rfl,by omega⟩ | exact oneAll_of rfl | exact ⟨rfl,oneAll_of rfl⟩ | exact Ref.refl _ | exact Thin.ref (.skip (Thin.refl _)) | exact Thin.ref (.skip (.skip (Thin.refl _))) | exact ⟨rfl,Nat.le_of_ble_eq_true rfl⟩ | ((try unfold maxLen); (try simp only [List.length_nil,List.length_cons,List.length_append]); omega) | (refine ⟨rfl,?_⟩; (try simp only [List.length_nil,List.length_cons,List.length_append]); omega)) ?_ | intro _)); (all_goals (conv => whnf))
  all_goals first | (exfalso; omega) | skip
  refine VC_loop Nat (fun i => [(0,.v (.slice a g.length c)),(1,.v (.slice a' g.length c')),(5,.v (.int .i64 i))]) (fun _ => []) (fun i => i ≤ g.length) (fun i => g.length - i) 0 (Nat.zero_le _) (by (repeat ((conv => whnf); refine And.intro (by first | exact rfl | exact vint_eq (by omega) | exact vint_eq (by (dsimp only; omega)) | exact vsl_eq (by omega) | exact vsl_eq (by first | (dsimp only; omega) | (simp; done) | (simp; omega))) ?_)); exact trivial) (Ref.refl _) ?_
  intro i hi
  by_cases hlt : i < g.length
  · have hrow := rulsC_at hlt
    have r1 := fun {L : List Ent} => h1.rdn (L := L) (vs := ruC (g.getD i rul0)) (k := i * 5) (Nat.succ_pos _) hrow
    have r2 := fun {L : List Ent} => h2.rdn (L := L) (vs := ruC (g.getD i rul0)) (k := i * 5) (Nat.succ_pos _) hrow
    have n1 := h1.ne' (k := i * 5) (by rw [rulsC_length]; omega)
    have n2 := h2.ne' (k := i * 5) (by rw [rulsC_length]; omega)
    generalize g.getD i rul0 = r at *
    (repeat' ((conv => whnf); first | rw [Int.toNat_natCast] | refine ⟨ruC r,rfl,r1,?_⟩ | refine ⟨ruC r,rfl,r2,?_⟩ | (refine bcase_prop (fun h => ?_) (fun h => ?_) <;> try (exfalso; omega)) | (refine bcase_nprop (fun h => ?_) (fun h => ?_) <;> try (exfalso; omega)) | (refine bcase_intro (fun h => ?_) (fun h => ?_) <;> (try simp only [Bool.not_eq_true',Bool.not_eq_false',decide_eq_true_eq,decide_eq_false_iff_not,Bool.not_eq_true,Bool.not_eq_false,Decidable.not_not] at h)) | refine And.intro (by first | omega | exact rfl | assumption | exact ⟨rfl,rfl,rfl,rfl,rfl⟩ | exact ⟨rfl,rfl,rfl,rfl⟩ | exact ⟨rfl,by omega⟩ | exact oneAll_of rfl | exact ⟨rfl,oneAll_of rfl⟩ | exact Ref.refl _ | exact Thin.ref (.skip (Thin.refl _)) | exact Thin.ref (.skip (.skip (Thin.refl _))) | exact n1 | exact n2 | exact ⟨rfl,Nat.le_of_ble_eq_true rfl⟩ | ((try unfold maxLen); (try simp only [List.length_nil,List.length_cons,List.length_append]); omega) | (refine ⟨rfl,?_⟩; (try simp only [List.length_nil,List.length_cons,List.length_append]); omega)) ?_ | intro _)); (all_goals (conv => whnf))
    all_goals first | (exfalso; omega) | skip
    exact loop_next (i + 1) (by ((try dsimp only); omega)) (by ((try dsimp only); omega)) (by (repeat ((conv => whnf); refine And.intro (by first | exact rfl | exact vint_eq (by omega) | exact vint_eq (by (dsimp only; omega)) | exact vsl_eq (by omega) | exact vsl_eq (by first | (dsimp only; omega) | (simp; done) | (simp; omega))) ?_)); exact trivial) (Ref.refl _)
  · (repeat' ((conv => whnf); first | (refine bcase_prop (fun h => ?_) (fun h => ?_) <;> try (exfalso; omega)) | (refine bcase_nprop (fun h => ?_) (fun h => ?_) <;> try (exfalso; omega)) | (refine bcase_intro (fun h => ?_) (fun h => ?_) <;> (try simp only [Bool.not_eq_true',Bool.not_eq_false',decide_eq_true_eq,decide_eq_false_iff_not,Bool.not_eq_true,Bool.not_eq_false,Decidable.not_not] at h)) | refine And.intro (by first | omega | exact rfl | assumption | exact ⟨rfl,rfl,rfl,rfl,rfl⟩ | exact ⟨rfl,rfl,rfl,rfl⟩ | exact ⟨rfl,by omega⟩ | exact oneAll_of rfl | exact ⟨rfl,oneAll_of rfl⟩ | exact Ref.refl _ | exact Thin.ref (.skip (Thin.refl _)) | exact Thin.ref (.skip (.skip (Thin.refl _))) | exact ⟨rfl,Nat.le_of_ble_eq_true rfl⟩ | ((try unfold maxLen); (try simp only [List.length_nil,List.length_cons,List.length_append]); omega) | (refine ⟨rfl,?_⟩; (try simp only [List.length_nil,List.length_cons,List.length_append]); omega)) ?_ | intro _)); (all_goals (conv => whnf))
    all_goals first | (exfalso; omega) | exact ⟨rfl⟩
theorem lcK_thin (k k2 j j2 b : Nat) (S : Sto) (f : List Nat) (a : Option Addr) (n c : Nat) (xs : List Value) : Thin [packE k f (fS b S),.own k2 a n c ty_api_Rule 5 xs] [packE j f (fS b S),.own j2 a n c ty_api_Rule 5 xs] := .keep rfl (fun _ h => h) (.keep rfl (fun _ h => h) (.nil _))
def lcK (k k2 : Nat) (bs : Nat) (S : Sto) (m : Tm) (v : Value) (L1 : List Ent) : Prop := (canT m).length ≤ 1048576 ∧ ∃ a c fp',v = .tuple #[.slice a (canT m).length c,.bool true] ∧ L1 = [packE k fp' (fS bs S),.own k2 a (canT m).length c ty_api_Rule 5 (rulsC (canT m))]
theorem calls_lCanonK (k k2 : Nat) (hs : SortsI Tryz.prog fn_slices_Sort_Sl_api_ID_api_ID) (b : Nat) (S : Sto) (hw : WF S) (id : Int) (hk : known S id) (f fp : List Nat) (w : World) (hR : R w fp [packE k f (fS b S)] w) :
    Calls Tryz.prog fn_evergreenlaw22_Canon #[pS b,.int .i64 id] w fun e w' => ∃ v L1,e = .returned v ∧ R w fp L1 w' ∧ lcK k k2 b S (tm S.E id) v L1 :=
  (calls_lCanon hs b S hw id hk f fp w ((Thin.packE (.nil [])).ref w hR)).mono fun e w' ⟨v,L1,he,hR',hz,a,c,fp',hv,hL⟩ => by
    subst hL
    exact ⟨v,[packE k fp' (fS b S),.own k2 a (canT (tm S.E id)).length c ty_api_Rule 5 (rulsC (canT (tm S.E id)))],he,(lcK_thin 77 880 k k2 b S fp' a _ c _).ref w' hR',hz,a,c,fp',hv,rfl⟩
end Go.Proofs.YtkkhpdkfploodaaGreatDoor
/- The parser in a store that may become full: the program. (Written by a program from the walks of a store with room.) -/
namespace Go.Proofs.YtkkhpdkfploodaaGreatDoor
open Go.EG
attribute [local irreducible] CallK QCall Go.Calls
set_option linter.unusedSimpArgs false
set_option linter.unusedVariables false
set_option maxRecDepth 20000
set_option maxHeartbeats 4000000
--LET
--RUN
--PRS
--OF
end Go.Proofs.YtkkhpdkfploodaaGreatDoor
/- Signatures in a store that may become full: the program. -/
namespace Go.Proofs.YtkkhpdkfploodaaGreatDoor
open Go.EG
attribute [local irreducible] CallK QCall Go.Calls
set_option linter.unusedSimpArgs false
set_option linter.unusedVariables false
set_option maxRecDepth 20000
set_option maxHeartbeats 4000000
end Go.Proofs.YtkkhpdkfploodaaGreatDoor
