/- Hits on the way of a machine. Plain Lean: no program in sight. -/
import Derived.Test.YtjmlialibdobpaaK6
import Derived.Test.YtjmlialibdobpaaK7
import Derived.Test.YtjmlialibdobpaaK4
import Derived.Test.YtjmlialibdobpaaChecked
import Derived.WalkKit
namespace Go.Proofs.Ytjmlialibdobpaa
open Go.EG
set_option linter.unusedSimpArgs false
set_option linter.unusedVariables false
def hitN (H : List Int) (q : Nat) : Nat := (H.getD q 0).toNat
def fstH (M : Mch) (H : List Int) : Nat → List Nat → Nat
  | _,[] => 0
  | q,b :: t => if 0 < hitN H (stp M q b) then 1 else if fstH M H (stp M q b) t = 0 then 0 else fstH M H (stp M q b) t + 1
def lstH (M : Mch) (H : List Int) : Nat → List Nat → Nat
  | _,[] => 0
  | q,b :: t => if lstH M H (stp M q b) t = 0 then (if 0 < hitN H (stp M q b) then 1 else 0) else lstH M H (stp M q b) t + 1
def nthH (M : Mch) (H : List Int) : Nat → Nat → List Nat → Nat
  | _,_,[] => 0
  | n,q,b :: t => if n < hitN H (stp M q b) then 1 else if nthH M H (n - hitN H (stp M q b)) (stp M q b) t = 0 then 0 else nthH M H (n - hitN H (stp M q b)) (stp M q b) t + 1
section
variable {M : Mch} {H : List Int}
theorem runH_cons (q b : Nat) (t : List Nat) : runH M H q (b :: t) = hitN H (stp M q b) + runH M H (stp M q b) t := rfl
theorem fstH_zero : ∀ {q : Nat} {t : List Nat},fstH M H q t = 0 ↔ runH M H q t = 0
  | _,[] => by simp [fstH,runH]
  | q,b :: t => by
    rw [runH_cons,fstH]
    have ih := fstH_zero (q := stp M q b) (t := t)
    split
    · constructor
      · intro h; omega
      · intro h; omega
    · split
      · rename_i h1 h2
        rw [ih] at h2
        constructor
        · intro _; omega
        · intro _; rfl
      · rename_i h1 h2
        rw [ih] at h2
        constructor
        · intro h; omega
        · intro h; omega
theorem lstH_zero : ∀ {q : Nat} {t : List Nat},lstH M H q t = 0 ↔ runH M H q t = 0
  | _,[] => by simp [lstH,runH]
  | q,b :: t => by
    rw [runH_cons,lstH]
    have ih := lstH_zero (q := stp M q b) (t := t)
    split
    · rename_i h1
      rw [ih] at h1
      split
      · constructor
        · intro h; omega
        · intro h; omega
      · constructor
        · intro _; omega
        · intro _; rfl
    · rename_i h1
      rw [ih] at h1
      constructor
      · intro h; omega
      · intro h; omega
theorem fstH_append (q : Nat) : ∀ (s t : List Nat),fstH M H q (s ++ t) = if fstH M H q s = 0 then (if fstH M H (runE M q s) t = 0 then 0 else s.length + fstH M H (runE M q s) t) else fstH M H q s := by
  intro s
  induction s generalizing q with
  | nil => intro t; simp [fstH,runE]
  | cons b s ih =>
    intro t
    rw [List.cons_append,fstH,fstH,ih (stp M q b) t]
    show _ = if _ then (if fstH M H (runE M (stp M q b) s) t = 0 then 0 else (b :: s).length + fstH M H (runE M (stp M q b) s) t) else _
    rw [List.length_cons]
    by_cases h1 : 0 < hitN H (stp M q b)
    · simp [h1]
    · by_cases h2 : fstH M H (stp M q b) s = 0
      · by_cases h3 : fstH M H (runE M (stp M q b) s) t = 0
        · simp [h1,h2,h3]
        · simp only [h1,h2,h3,if_false,if_true]
          rw [if_neg (by omega)]; exact Nat.add_right_comm _ _ _
      · simp [h1,h2]
theorem lstH_append (q : Nat) : ∀ (s t : List Nat),lstH M H q (s ++ t) = if lstH M H (runE M q s) t = 0 then lstH M H q s else s.length + lstH M H (runE M q s) t := by
  intro s
  induction s generalizing q with
  | nil =>
    intro t
    show lstH M H q t = if lstH M H q t = 0 then 0 else 0 + lstH M H q t
    split <;> omega
  | cons b s ih =>
    intro t
    rw [List.cons_append,lstH,ih (stp M q b) t]
    show _ = if lstH M H (runE M (stp M q b) s) t = 0 then _ else (b :: s).length + lstH M H (runE M (stp M q b) s) t
    rw [List.length_cons,lstH]
    by_cases h3 : lstH M H (runE M (stp M q b) s) t = 0
    · simp [h3]
    · simp only [h3,if_false]
      rw [if_neg (by omega)]; omega
theorem fstH_le : ∀ (q : Nat) (t : List Nat),fstH M H q t ≤ t.length
  | _,[] => Nat.le_refl _
  | q,b :: t => by
    have := fstH_le (stp M q b) t
    rw [fstH,List.length_cons]
    split
    · omega
    · split <;> omega
theorem lstH_le : ∀ (q : Nat) (t : List Nat),lstH M H q t ≤ t.length
  | _,[] => Nat.le_refl _
  | q,b :: t => by
    have := lstH_le (stp M q b) t
    rw [lstH,List.length_cons]
    split
    · split <;> omega
    · omega
theorem nthH_le : ∀ (n q : Nat) (t : List Nat),nthH M H n q t ≤ t.length
  | _,_,[] => Nat.le_refl _
  | n,q,b :: t => by
    have := nthH_le (n - hitN H (stp M q b)) (stp M q b) t
    rw [nthH,List.length_cons]
    split
    · omega
    · split <;> omega
theorem nthH_zero : ∀ {n q : Nat} {t : List Nat},nthH M H n q t = 0 ↔ runH M H q t ≤ n
  | _,_,[] => by simp [nthH,runH]
  | n,q,b :: t => by
    rw [runH_cons,nthH]
    have ih := nthH_zero (n := n - hitN H (stp M q b)) (q := stp M q b) (t := t)
    split
    · constructor
      · intro h; omega
      · intro h; omega
    · split
      · rename_i h1 h2
        rw [ih] at h2
        constructor
        · intro _; omega
        · intro _; rfl
      · rename_i h1 h2
        rw [ih] at h2
        constructor
        · intro h; omega
        · intro h; omega
theorem nthH_append (n q : Nat) : ∀ (s t : List Nat),nthH M H n q (s ++ t) = if nthH M H n q s = 0 then (if nthH M H (n - runH M H q s) (runE M q s) t = 0 then 0 else s.length + nthH M H (n - runH M H q s) (runE M q s) t) else nthH M H n q s := by
  intro s
  induction s generalizing q n with
  | nil => intro t; simp [nthH,runE,runH]
  | cons b s ih =>
    intro t
    rw [List.cons_append,nthH,nthH,ih (n - hitN H (stp M q b)) (stp M q b) t,runH_cons,← Nat.sub_sub]
    show _ = if _ then (if nthH M H (n - hitN H (stp M q b) - runH M H (stp M q b) s) (runE M (stp M q b) s) t = 0 then 0 else (b :: s).length + nthH M H (n - hitN H (stp M q b) - runH M H (stp M q b) s) (runE M (stp M q b) s) t) else _
    rw [List.length_cons]
    by_cases h1 : n < hitN H (stp M q b)
    · simp [h1]
    · by_cases h2 : nthH M H (n - hitN H (stp M q b)) (stp M q b) s = 0
      · by_cases h3 : nthH M H (n - hitN H (stp M q b) - runH M H (stp M q b) s) (runE M (stp M q b) s) t = 0
        · simp [h1,h2,h3]
        · simp only [h1,h2,h3,if_false,if_true]
          rw [if_neg (by omega)]; exact Nat.add_right_comm _ _ _
      · simp [h1,h2]
theorem nthH_at {n q : Nat} {t : List Nat} (h : n < runH M H q t) : 1 ≤ nthH M H n q t ∧ runH M H q (t.take (nthH M H n q t - 1)) ≤ n ∧ n < runH M H q (t.take (nthH M H n q t)) := by
  induction t generalizing n q with
  | nil => simp [runH] at h
  | cons b t ih =>
    rw [runH_cons] at h
    rw [nthH]
    by_cases h1 : n < hitN H (stp M q b)
    · rw [if_pos h1]
      exact ⟨Nat.le_refl _,Nat.zero_le _,by rw [List.take_succ_cons,runH_cons]; omega⟩
    · rw [if_neg h1]
      have h2 : n - hitN H (stp M q b) < runH M H (stp M q b) t := by omega
      obtain ⟨i1,i2,i3⟩ := ih h2
      rw [if_neg (by omega)]
      obtain ⟨m,hm⟩ : ∃ m,nthH M H (n - hitN H (stp M q b)) (stp M q b) t = m + 1 := ⟨_,(Nat.succ_pred_eq_of_pos i1).symm⟩
      rw [hm] at i2 i3 ⊢
      rw [Nat.add_sub_cancel] at i2
      refine ⟨by omega,?_,?_⟩
      · rw [Nat.add_sub_cancel,List.take_succ_cons,runH_cons]; omega
      · rw [List.take_succ_cons,runH_cons]; omega
end
def orb (M : Mch) (u : List Nat) (q j : Nat) : Nat := runE M q (rep j u)
theorem orb_succ (M : Mch) (u : List Nat) (q j : Nat) : orb M u q (j + 1) = runE M (orb M u q j) u := by
  unfold orb; rw [rep_add j 1,rep_one,runE_append]
theorem orb_add (M : Mch) (u : List Nat) (q i j : Nat) : orb M u q (i + j) = orb M u (orb M u q i) j := by
  unfold orb; rw [rep_add,runE_append]
theorem orb_lt {M : Mch} {k : Nat} (h : MOk M k) {u : List Nat} (hu : ∀ b ∈ u,b < 256) {q : Nat} (hq : q < M.nx.length) : ∀ j,orb M u q j < M.nx.length
  | 0 => hq
  | j + 1 => by rw [orb_succ]; exact runE_lt h hu (orb_lt h hu hq j)
theorem orb_cyc {M : Mch} {u : List Nat} {q a p : Nat} (h : orb M u q (a + p) = orb M u q a) : ∀ k i,orb M u q (a + i + k * p) = orb M u q (a + i)
  | 0,i => by rw [Nat.zero_mul,Nat.add_zero]
  | k + 1,i => by
    rw [Nat.succ_mul,show a + i + (k * p + p) = a + p + (i + k * p) by omega,orb_add,h,← orb_add,show a + (i + k * p) = a + i + k * p by omega,orb_cyc h k i]
theorem orb_mod {M : Mch} {u : List Nat} {q a p : Nat} (hp : 0 < p) (h : orb M u q (a + p) = orb M u q a) {j : Nat} (hj : a ≤ j) : orb M u q (a + (j - a) % p) = orb M u q j := by
  have e := orb_cyc h ((j - a) / p) ((j - a) % p)
  have d := Nat.mod_add_div (j - a) p
  rw [Nat.mul_comm] at d
  rw [← e]
  congr 1; omega
theorem runH_rep (M : Mch) (H : List Int) (u : List Nat) (q : Nat) : ∀ j,runH M H q (rep (j + 1) u) = runH M H q (rep j u) + runH M H (orb M u q j) u := by
  intro j
  rw [rep_add j 1,rep_one,runH_append]; rfl
theorem runH_rep_add (M : Mch) (H : List Int) (u : List Nat) (q i j : Nat) : runH M H q (rep (i + j) u) = runH M H q (rep i u) + runH M H (orb M u q i) (rep j u) := by
  rw [rep_add,runH_append]; rfl
end Go.Proofs.Ytjmlialibdobpaa
/- Hits on the way of a machine,the small steps: the program. -/
namespace Go.Proofs.Ytjmlialibdobpaa
open Go.EG
attribute [local irreducible] CallK QCall Go.Calls
set_option linter.unusedSimpArgs false
set_option linter.unusedVariables false
set_option linter.unusedSectionVars false
set_option maxRecDepth 20000
set_option maxHeartbeats 4000000
structure ScOk (T : Tb) (kk : Nat) (S : Sto) : Prop where
  ok : TbOk T kk
  wf : WF S
  clo : Clo S T.D
  all : ∀ n : Int,n = 0 ∨ ¬ known S n ∨ T.D n
def otx (T : Tb) (S : Sto) (n : Int) : List Nat := ori T.back (tm S.E n).txt
theorem otx_len (T : Tb) (S : Sto) (n : Int) : (otx T S n).length = (tm S.E n).len := ori_len _ _
theorem ScOk.byt {T : Tb} {kk : Nat} {S : Sto} (h : ScOk T kk S) {n : Int} (hk : known S n) : ∀ b ∈ otx T S n,b < 256 := fun b hb => h.wf.byt _ _ (Nat.le_refl _) hk.2 b ((ori_mem _).1 hb)
theorem ScOk.lt {T : Tb} {kk : Nat} {S : Sto} (h : ScOk T kk S) {n : Int} (hk : known S n) {q : Nat} (hq : q < T.M.nx.length) : runE T.M q (otx T S n) < T.M.nx.length := runE_lt h.ok.m (h.byt hk) hq
section
variable {T : Tb} {kk : Nat} {S : Sto} (bt bs : Nat) (h : ScOk T kk S)
include h
theorem calls_scSize {n : Int} (hk : known S n) : XC fn_scan_Size #[pS bt,.int .i64 n] bt bs T S (.int .i64 (tm S.E n).len) := by
  intro k1 k2 fp1 fp2 w hR
  have hR : R w (fp1 ++ fp2) [packE 78 fp1 (fX bt bs T S.E),packE 77 fp2 (fS bs S)] w := (Thin.packE (Thin.packE (.nil []))).ref w hR
  refine part_call [.v (pS bt),.v (.int .i64 n)] ok_scan_Size (by simp) hR ?_
  have c1 := calls_TStore2 bt bs T S.E
  have c2 := calls_SWeight bs S n h.wf.small
  rw [wtRes_ok hk] at c2
  (repeat' ((conv => whnf); first | (refine CallK_pack (key := 78) rfl (fun w hR h0 => c1 _ _ _ h0) ?_; rintro _ _ ⟨rfl,rfl⟩; refine ⟨.v _,rfl,?_⟩) | refine SC.go 77 c2 rfl fun fp' => ?_ | refine ⟨_,⟨rfl,trivial⟩,?_⟩ | (refine bcase_prop (fun h => ?_) (fun h => ?_) <;> try (exfalso; omega)) | (refine bcase_nprop (fun h => ?_) (fun h => ?_) <;> try (exfalso; omega)) | (refine bcase_intro (fun h => ?_) (fun h => ?_) <;> (try simp only [Bool.not_eq_true',Bool.not_eq_false',decide_eq_true_eq,decide_eq_false_iff_not,Bool.not_eq_true,Bool.not_eq_false,Decidable.not_not] at h)) | refine pay ?_ | intro _)); (all_goals (conv => whnf))
  all_goals first | (exfalso; omega) | skip
  exact ⟨endXP (Ref.takes [78,77] rfl (Thin.refl _)) rfl⟩
theorem calls_scEnd {n : Int} (hk : known S n) {q : Nat} (hq : q < T.M.nx.length) : XC fn_scan_End #[pS bt,.int .i64 n,.int .i64 q] bt bs T S (.int .i64 (runE T.M q (otx T S n))) := by
  intro k1 k2 fp1 fp2 w hR
  have hR : R w (fp1 ++ fp2) [packE 78 fp1 (fX bt bs T S.E),packE 77 fp2 (fS bs S)] w := (Thin.packE (Thin.packE (.nil []))).ref w hR
  refine part_call [.v (pS bt),.v (.int .i64 n),.v (.int .i64 q)] ok_scan_End (by simp) hR ?_
  have c1 := calls_TEnd bt bs T h.ok S h.wf h.clo n q (h.all n)
  rw [show endV T S n q = _ from if_pos ⟨hk,by omega,by omega⟩,Int.toNat_natCast] at c1
  (repeat' ((conv => whnf); first | refine XC.go 78 77 c1 rfl rfl fun fp1' fp2' => ?_ | refine ⟨_,⟨rfl,trivial⟩,?_⟩ | (refine bcase_prop (fun h => ?_) (fun h => ?_) <;> try (exfalso; omega)) | (refine bcase_nprop (fun h => ?_) (fun h => ?_) <;> try (exfalso; omega)) | (refine bcase_intro (fun h => ?_) (fun h => ?_) <;> (try simp only [Bool.not_eq_true',Bool.not_eq_false',decide_eq_true_eq,decide_eq_false_iff_not,Bool.not_eq_true,Bool.not_eq_false,Decidable.not_not] at h)) | refine pay ?_ | intro _)); (all_goals (conv => whnf))
  all_goals first | (exfalso; omega) | skip
  exact ⟨endXP (Ref.takes [78,77] rfl (Thin.refl _)) rfl⟩
theorem calls_scHit {n : Int} (hk : known S n) {q : Nat} (hq : q < T.M.nx.length) : XC fn_scan_Hit #[pS bt,.int .i64 n,.int .i64 q] bt bs T S (.bool (decide (0 < runH T.M T.H q (otx T S n)))) := by
  intro k1 k2 fp1 fp2 w hR
  have hR : R w (fp1 ++ fp2) [packE 78 fp1 (fX bt bs T S.E),packE 77 fp2 (fS bs S)] w := (Thin.packE (Thin.packE (.nil []))).ref w hR
  refine part_call [.v (pS bt),.v (.int .i64 n),.v (.int .i64 q)] ok_scan_Hit (by simp) hR ?_
  have c1 := calls_THits bt bs T h.ok S h.wf h.clo n q (h.all n)
  rw [show hitV T S n q = _ from if_pos ⟨hk,by omega,by omega⟩,Int.toNat_natCast] at c1
  unfold otx
  generalize runH T.M T.H q (ori T.back (tm S.E n).txt) = X at *
  by_cases hx : X ≤ LM
  · rw [if_pos hx] at c1
    (repeat' ((conv => whnf); first | refine XC.go 78 77 c1 rfl rfl fun fp1' fp2' => ?_ | refine ⟨_,⟨rfl,trivial⟩,?_⟩ | (refine bcase_prop (fun h => ?_) (fun h => ?_) <;> try (exfalso; omega)) | (refine bcase_nprop (fun h => ?_) (fun h => ?_) <;> try (exfalso; omega)) | (refine bcase_intro (fun h => ?_) (fun h => ?_) <;> (try simp only [Bool.not_eq_true',Bool.not_eq_false',decide_eq_true_eq,decide_eq_false_iff_not,Bool.not_eq_true,Bool.not_eq_false,Decidable.not_not] at h)) | refine pay ?_ | intro _)); (all_goals (conv => whnf))
    all_goals first | (exfalso; omega) | skip
    refine ⟨endXP (Ref.takes [78,77] rfl (Thin.refl _)) ?_⟩
    congr 1
    exact decide_eq_decide.2 (by omega)
  · rw [if_neg hx] at c1
    have h0 : 0 < X := by omega
    (repeat' ((conv => whnf); first | refine XC.go 78 77 c1 rfl rfl fun fp1' fp2' => ?_ | refine ⟨_,⟨rfl,trivial⟩,?_⟩ | (refine bcase_prop (fun h => ?_) (fun h => ?_) <;> try (exfalso; omega)) | (refine bcase_nprop (fun h => ?_) (fun h => ?_) <;> try (exfalso; omega)) | (refine bcase_intro (fun h => ?_) (fun h => ?_) <;> (try simp only [Bool.not_eq_true',Bool.not_eq_false',decide_eq_true_eq,decide_eq_false_iff_not,Bool.not_eq_true,Bool.not_eq_false,Decidable.not_not] at h)) | refine pay ?_ | intro _)); (all_goals (conv => whnf))
    all_goals first | (exfalso; omega) | skip
    refine ⟨endXP (Ref.takes [78,77] rfl (Thin.refl _)) ?_⟩
    rw [decide_eq_true h0]
theorem calls_scChildren (r : Rul) : XC fn_scan_Children #[pS bt,ruV r] bt bs T S (.tuple #[.int .i64 (if T.back = true then r.b else r.a),.int .i64 (if T.back = true then r.a else r.b)]) := by
  intro k1 k2 fp1 fp2 w hR
  have hR : R w (fp1 ++ fp2) [packE 78 fp1 (fX bt bs T S.E),packE 77 fp2 (fS bs S)] w := (Thin.packE (Thin.packE (.nil []))).ref w hR
  refine part_call [.v (pS bt),.v (ruV r)] ok_scan_Children (by simp) hR ?_
  have c1 := calls_TBack2 bt bs T S.E
  cases hb : T.back <;> rw [hb] at c1
  · (repeat' ((conv => whnf); first | (refine CallK_pack (key := 78) rfl (fun w hR h0 => c1 _ _ _ h0) ?_; rintro _ _ ⟨rfl,rfl⟩; refine ⟨.v _,rfl,?_⟩) | refine ⟨_,⟨rfl,trivial⟩,?_⟩ | (refine bcase_prop (fun h => ?_) (fun h => ?_) <;> try (exfalso; omega)) | (refine bcase_nprop (fun h => ?_) (fun h => ?_) <;> try (exfalso; omega)) | (refine bcase_intro (fun h => ?_) (fun h => ?_) <;> (try simp only [Bool.not_eq_true',Bool.not_eq_false',decide_eq_true_eq,decide_eq_false_iff_not,Bool.not_eq_true,Bool.not_eq_false,Decidable.not_not] at h)) | refine pay ?_ | intro _)); (all_goals (conv => whnf))
    all_goals first | (exfalso; omega) | skip
    exact ⟨endXP (Ref.takes [78,77] rfl (Thin.refl _)) rfl⟩
  · (repeat' ((conv => whnf); first | (refine CallK_pack (key := 78) rfl (fun w hR h0 => c1 _ _ _ h0) ?_; rintro _ _ ⟨rfl,rfl⟩; refine ⟨.v _,rfl,?_⟩) | refine ⟨_,⟨rfl,trivial⟩,?_⟩ | (refine bcase_prop (fun h => ?_) (fun h => ?_) <;> try (exfalso; omega)) | (refine bcase_nprop (fun h => ?_) (fun h => ?_) <;> try (exfalso; omega)) | (refine bcase_intro (fun h => ?_) (fun h => ?_) <;> (try simp only [Bool.not_eq_true',Bool.not_eq_false',decide_eq_true_eq,decide_eq_false_iff_not,Bool.not_eq_true,Bool.not_eq_false,Decidable.not_not] at h)) | refine pay ?_ | intro _)); (all_goals (conv => whnf))
    all_goals first | (exfalso; omega) | skip
    exact ⟨endXP (Ref.takes [78,77] rfl (Thin.refl _)) rfl⟩
end
end Go.Proofs.Ytjmlialibdobpaa
/- The orbit of a state over copies: the program. -/
namespace Go.Proofs.Ytjmlialibdobpaa
open Go.EG
attribute [local irreducible] CallK QCall Go.Calls
set_option linter.unusedSimpArgs false
set_option linter.unusedVariables false
set_option maxRecDepth 20000
set_option maxHeartbeats 4000000
def orbL (M : Mch) (u : List Nat) (q n : Nat) : List Nat := (List.range n).map (orb M u q)
theorem orbL_len (M : Mch) (u : List Nat) (q n : Nat) : (orbL M u q n).length = n := by simp [orbL]
theorem orbL_succ (M : Mch) (u : List Nat) (q n : Nat) : orbL M u q (n + 1) = orbL M u q n ++ [orb M u q n] := by simp [orbL,List.range_succ]
theorem orbL_get {M : Mch} {u : List Nat} {q n j : Nat} (h : j < n) : (orbL M u q n)[j]? = some (orb M u q j) := by
  simp [orbL,List.getElem?_range h]
theorem nodup_ltN : ∀ {n : Nat} {L : List Nat},L.Nodup → (∀ x ∈ L,x < n) → L.length ≤ n
  | 0,[],_,_ => Nat.le_refl _
  | 0,x :: t,_,h => absurd (h x (by simp)) (by omega)
  | n + 1,L,hn,h => by
    have h1 : (L.erase n).length ≤ n := nodup_ltN (hn.erase _) fun x hx => by
      have h2 := h x (List.mem_of_mem_erase hx)
      have h3 : x ≠ n := fun he => by
        subst he
        exact absurd hx (List.Nodup.not_mem_erase hn)
      omega
    by_cases hm : n ∈ L
    · rw [List.length_erase_of_mem hm] at h1
      omega
    · rw [List.erase_of_not_mem hm] at h1
      omega
def seenL (l : List Nat) : List Int := (List.range 256).map fun q => if q ∈ l then (l.idxOf q : Int) + 1 else 0
theorem seenL_len (l : List Nat) : (seenL l).length = 256 := by simp [seenL]
theorem seenL_nil : seenL [] = List.replicate 256 0 := by decide
theorem seenL_get {l : List Nat} {q : Nat} (h : q < 256) : (seenL l).getD q 0 = if q ∈ l then (l.idxOf q : Int) + 1 else 0 := by
  simp [seenL,List.getD_eq_getElem?_getD,List.getElem?_range h]
theorem seenL_add {l : List Nat} {q : Nat} (h : q ∉ l) : (seenL l).set q ((l.length : Int) + 1) = seenL (l ++ [q]) := by
  apply List.ext_getElem?
  intro i
  by_cases hi : i < 256
  · rw [List.getElem?_set]
    have e1 : (seenL l)[i]? = some (if i ∈ l then (l.idxOf i : Int) + 1 else 0) := by simp [seenL,List.getElem?_range hi]
    have e2 : (seenL (l ++ [q]))[i]? = some (if i ∈ l ++ [q] then ((l ++ [q]).idxOf i : Int) + 1 else 0) := by simp [seenL,List.getElem?_range hi]
    rw [e2,e1,seenL_len]
    by_cases hq : q = i
    · subst hq
      rw [if_pos rfl,if_pos hi,if_pos (by simp),List.idxOf_append,if_neg h]
      simp
    · rw [if_neg hq]
      by_cases hm : i ∈ l
      · rw [if_pos hm,if_pos (List.mem_append_left _ hm),List.idxOf_append,if_pos hm]
      · rw [if_neg hm,if_neg (by simp [hm]; exact fun e => hq e.symm)]
  · rw [List.getElem?_eq_none (by rw [List.length_set,seenL_len]; omega),List.getElem?_eq_none (by rw [seenL_len]; omega)]
theorem spliceK_in : ∀ {off : Nat} {cs vs : List Value} {K : List Value → Prop},off + vs.length ≤ cs.length → K (splice cs off vs) → spliceK off cs vs K
  | off + 1,[],vs,K,h,_ => by simp at h
  | off + 1,c :: cs,vs,K,h,hk => spliceK_in (K := fun l => K (c :: l)) (by simp at h; omega) (by
    simpa only [splice,List.take_succ_cons,List.cons_append,Nat.add_right_comm off 1 vs.length,List.drop_succ_cons] using hk)
  | 0,cs,[],K,_,hk => by cases cs <;> simpa [splice,spliceK] using hk
  | 0,[],_ :: _,K,h,_ => by simp at h
  | 0,c :: cs,v :: vs,K,h,hk => spliceK_in (K := fun l => K (v :: l)) (off := 0) (by simp at h ⊢; omega) (by
    simpa [splice,Nat.zero_add] using hk)
theorem idxOf_getN {L : List Nat} {x : Nat} (h : x ∈ L) : L.idxOf x < L.length ∧ L[L.idxOf x]? = some x := by
  have h1 := List.idxOf_lt_length_of_mem h
  exact ⟨h1,by rw [List.getElem?_eq_getElem h1,List.getElem_idxOf]⟩
theorem splice_set {k : IntKind} {xs : List Int} {q : Nat} {v : Int} (h : q < xs.length) : splice (ints k xs) q [.int k v] = ints k (xs.set q v) := by
  unfold splice ints
  rw [List.map_set]
  have hl : q < (xs.map (Value.int k)).length := by simpa using h
  rw [List.set_eq_take_append_cons_drop,if_pos hl]
  simp
theorem spliceI {k : IntKind} {xs : List Int} {off q : Nat} {v : Int} {K : List Value → Prop} (h : off = q) (hq : q < xs.length) (hk : K (ints k (xs.set q v))) : spliceK off (ints k xs) [.int k v] K := by
  subst h
  exact spliceK_in (by rw [ints_length]; exact hq) (by rw [splice_set hq]; exact hk)
structure Fol (M : Mch) (u : List Nat) (q times m tl : Nat) : Prop where
  nod : (orbL M u q m).Nodup
  out : (m = times + 1 ∧ tl = m) ∨ (m ≤ times ∧ tl < m ∧ orb M u q m = orb M u q tl)
structure FoG where
  i : Nat
  a : Option Addr
  c : Nat
  f1 : List Nat
  f2 : List Nat
def folQ (k1 k2 bt bs : Nat) (T : Tb) (S : Sto) (u : List Nat) (q times : Nat) (v : Value) (L1 : List Ent) : Prop :=
  ∃ m tl a c fp1 fp2,v = .agg #[.slice a m c,.int .i64 (tl : Nat)] ∧ Fol T.M u q times m tl ∧ m ≤ 256 ∧ L1 = [packE k1 fp1 (fX bt bs T S.E),packE k2 fp2 (fS bs S),.own 890 a m c ty_int 1 (ints .i64 ((orbL T.M u q m).map Int.ofNat))]
theorem calls_Follow {T : Tb} {kk : Nat} {S : Sto} (bt bs : Nat) (h : ScOk T kk S) {n : Int} (hk : known S n) {q : Nat} (hq : q < T.M.nx.length) (times : Nat) (ht : times ≤ 9223372036854775807) (k1 k2 : Nat) (fp1 fp2 : List Nat) (w : World) (hR : R w (fp1 ++ fp2) [packE k1 fp1 (fX bt bs T S.E),packE k2 fp2 (fS bs S)] w) :
    Calls Try.prog fn_scan_Follow #[pS bt,.int .i64 n,.int .i64 q,.int .i64 times] w fun e w' => ∃ v L1,e = .returned v ∧ R w (fp1 ++ fp2) L1 w' ∧ folQ k1 k2 bt bs T S (otx T S n) q times v L1 := by
  have hR : R w (fp1 ++ fp2) [packE 78 fp1 (fX bt bs T S.E),packE 77 fp2 (fS bs S)] w := (Thin.packE (Thin.packE (.nil []))).ref w hR
  refine part_call [.v (pS bt),.v (.int .i64 n),.v (.int .i64 q),.v (.int .i64 times)] ok_scan_Follow (by simp) hR ?_
  have hN := h.ok.m.most
  have hb := h.byt hk
  have cE := fun q hq => calls_scEnd bt bs h hk (q := q) hq
  have hlt := orb_lt h.ok.m hb hq
  have hos := orb_succ T.M (otx T S n) q
  generalize otx T S n = u at *
  (repeat' ((conv => whnf); first | (refine bcase_prop (fun h => ?_) (fun h => ?_) <;> try (exfalso; omega)) | (refine bcase_nprop (fun h => ?_) (fun h => ?_) <;> try (exfalso; omega)) | (refine bcase_intro (fun h => ?_) (fun h => ?_) <;> (try simp only [Bool.not_eq_true',Bool.not_eq_false',decide_eq_true_eq,decide_eq_false_iff_not,Bool.not_eq_true,Bool.not_eq_false,Decidable.not_not] at h)) | refine pay ?_ | intro _)); (all_goals (conv => whnf))
  rename_i b8 b9 b10
  refine VC_loop FoG (fun x => [(0,.v (pS bt)),(1,.v (.int .i64 n)),(2,.v (.int .i64 (orb T.M u q x.i))),(3,.v (.int .i64 times)),(8,.ptr 8 b8 0),(9,.ptr 9 b9 0),(10,.ptr 10 b10 0)])
    (fun x => [packE 78 x.f1 (fX bt bs T S.E),packE 77 x.f2 (fS bs S),.box 8 b8 [.slice none 0 0,.int .i64 0] ty_scan_Orbit,.box 9 b9 (ints .i16 (seenL (orbL T.M u q x.i))) ty_256_int16,.box 10 b10 [.slice x.a x.i x.c,.int .i64 0] ty_scan_Orbit,.own 31 x.a x.i x.c ty_int 1 (ints .i64 ((orbL T.M u q x.i).map Int.ofNat))])
    (fun x => x.i ≤ times + 1 ∧ (orbL T.M u q x.i).Nodup) (fun x => 256 - x.i) ⟨0,none,0,fp1,fp2⟩ ⟨Nat.zero_le _,.nil⟩ (by (repeat ((conv => whnf); refine And.intro (by first | exact rfl | exact vint_eq (by omega) | exact vint_eq (by (dsimp only; omega)) | exact vsl_eq (by omega) | exact vsl_eq (by first | (dsimp only; omega) | (simp; done) | (simp; omega))) ?_)); exact trivial) ((Ref.ownNil 31 ty_int 1).trans (Ref.takes [78,77,8,9,10,31] rfl (.packE (.packE (.keep rfl (fun _ h => h) (.box (by rw [show orbL T.M u q 0 = [] from rfl,seenL_nil]; rfl) (Thin.refl _))))))) ?_
  rintro ⟨i,a,c,g1,g2⟩ ⟨hi,hnd⟩
  dsimp only at hi hnd ⊢
  have hcap : ∀ m,(orbL T.M u q m).Nodup → m ≤ 256 := fun m hm => by
    have := nodup_ltN (n := 256) hm fun x hx => by
      obtain ⟨j,_,rfl⟩ := List.mem_map.1 hx
      have := hlt j
      omega
    rwa [orbL_len] at this
  have hi2 := hcap i hnd
  have hq2 := hlt i
  have hsg := seenL_get (l := orbL T.M u q i) (q := orb T.M u q i) (by omega)
  have hsl := seenL_len (orbL T.M u q i)
  have q0 : ((orb T.M u q i : Nat) : Int).toNat = orb T.M u q i := by omega
  have hnth : ∀ s : Int,(seenL (orbL T.M u q i)).getD (orb T.M u q i) 0 = s → nth (ints .i16 (seenL (orbL T.M u q i))) (0 + orb T.M u q i * 1) = some (.int .i16 s) := fun s hs => by
    rw [nth_eq,Nat.zero_add,Nat.mul_one,ints_getD (by omega),hs]
  by_cases hle : i ≤ times
  · by_cases hm : orb T.M u q i ∈ orbL T.M u q i
    · rw [if_pos hm] at hsg
      have hn1 := hnth _ hsg
      obtain ⟨hix,hio⟩ := idxOf_getN hm
      rw [orbL_len] at hix
      have hio : orb T.M u q i = orb T.M u q ((orbL T.M u q i).idxOf (orb T.M u q i)) := by
        rw [orbL_get hix] at hio
        exact (Option.some.inj hio).symm
      generalize (orbL T.M u q i).idxOf (orb T.M u q i) = tl at *
      (repeat' ((conv => whnf); first | rw [q0] | rw [hn1] | refine ⟨.sl 31 _ _ _,⟨rfl,rfl,rfl,rfl⟩,?_⟩ | refine ⟨_,⟨rfl,trivial⟩,?_⟩ | (refine bcase_prop (fun h => ?_) (fun h => ?_) <;> try (exfalso; omega)) | (refine bcase_nprop (fun h => ?_) (fun h => ?_) <;> try (exfalso; omega)) | (refine bcase_intro (fun h => ?_) (fun h => ?_) <;> (try simp only [Bool.not_eq_true',Bool.not_eq_false',decide_eq_true_eq,decide_eq_false_iff_not,Bool.not_eq_true,Bool.not_eq_false,Decidable.not_not] at h)) | refine pay ?_ | intro _)); (all_goals (conv => whnf))
      all_goals first | (exfalso; omega) | skip
      refine ⟨⟨_,Ref.takes [78,77,31] rfl (.packE (k' := k1) (.packE (k' := k2) (.own (k' := 890) rfl rfl (.nil _)))),i,tl,a,c,g1,g2,?_,⟨hnd,.inr ⟨hle,hix,hio⟩⟩,hi2,rfl⟩⟩
      show Value.agg #[.slice a i c,.int .i64 ((tl : Int) + 1 - 1)] = _
      rw [Int.add_sub_cancel]
    · rw [if_neg hm] at hsg
      have hn1 := hnth _ hsg
      have cE2 := cE _ hq2
      rw [← hos i] at cE2
      have hset : (seenL (orbL T.M u q i)).set (orb T.M u q i) ((i + 1 : Nat) : Int) = seenL (orbL T.M u q (i + 1)) := by
        have := seenL_add hm
        rw [orbL_len] at this
        rw [orbL_succ,← this]; congr 1
      have hsn : ints .i64 ((orbL T.M u q i).map Int.ofNat) ++ [.int .i64 ((orb T.M u q i : Nat) : Int)] = ints .i64 ((orbL T.M u q (i + 1)).map Int.ofNat) := by
        rw [orbL_succ,List.map_append]; exact ints_snoc
      have hnd2 : (orbL T.M u q (i + 1)).Nodup := by
        rw [orbL_succ,List.nodup_append]
        exact ⟨hnd,by simp,fun x hx y hy => by rw [List.mem_singleton] at hy; subst hy; exact fun e => hm (e ▸ hx)⟩
      (repeat' ((conv => whnf); first | rw [q0] | rw [hn1] | rw [hsn] | rw [hset] | refine XC.go 78 77 cE2 rfl rfl fun fp1' fp2' => ?_ | refine spliceI (q := orb T.M u q i) (by omega) (by omega) ?_ | refine ⟨.sl 31 _ _ _,⟨rfl,rfl,rfl,rfl⟩,?_⟩ | refine ⟨_,⟨rfl,trivial⟩,?_⟩ | (refine bcase_prop (fun h => ?_) (fun h => ?_) <;> try (exfalso; omega)) | (refine bcase_nprop (fun h => ?_) (fun h => ?_) <;> try (exfalso; omega)) | (refine bcase_intro (fun h => ?_) (fun h => ?_) <;> (try simp only [Bool.not_eq_true',Bool.not_eq_false',decide_eq_true_eq,decide_eq_false_iff_not,Bool.not_eq_true,Bool.not_eq_false,Decidable.not_not] at h)) | refine pay ?_ | refine And.intro (by first | exact ⟨rfl,by rw [ints_length]; omega⟩) ?_ | intro _)); (all_goals (conv => whnf))
      all_goals first | (exfalso; omega) | skip
      have hi3 := hcap _ hnd2
      exact loop_next ⟨i + 1,_,_,_,_⟩ ⟨Nat.succ_le_succ hle,hnd2⟩ (show 256 - (i + 1) < 256 - i by omega) (by (repeat ((conv => whnf); refine And.intro (by first | exact rfl | exact vint_eq (by omega) | exact vint_eq (by (dsimp only; omega)) | exact vsl_eq (by omega) | exact vsl_eq (by first | (dsimp only; omega) | (simp; done) | (simp; omega))) ?_)); exact trivial) (Ref.takes [78,77,8,9,10,31] rfl (.packE (.packE (Thin.refl _))))
  · (repeat' ((conv => whnf); first | rw [q0] | refine ⟨_,⟨rfl,trivial⟩,?_⟩ | (refine bcase_prop (fun h => ?_) (fun h => ?_) <;> try (exfalso; omega)) | (refine bcase_nprop (fun h => ?_) (fun h => ?_) <;> try (exfalso; omega)) | (refine bcase_intro (fun h => ?_) (fun h => ?_) <;> (try simp only [Bool.not_eq_true',Bool.not_eq_false',decide_eq_true_eq,decide_eq_false_iff_not,Bool.not_eq_true,Bool.not_eq_false,Decidable.not_not] at h)) | refine pay ?_ | intro _)); (all_goals (conv => whnf))
    all_goals first | (exfalso; omega) | skip
    obtain rfl : i = times + 1 := by omega
    exact ⟨⟨_,Ref.takes [78,77,31] rfl (.packE (k' := k1) (.packE (k' := k2) (.own (k' := 890) rfl rfl (.nil _)))),times + 1,times + 1,a,c,g1,g2,rfl,⟨hnd,.inl ⟨rfl,rfl⟩⟩,hi2,rfl⟩⟩
end Go.Proofs.Ytjmlialibdobpaa
/- States after copies: the program. -/
namespace Go.Proofs.Ytjmlialibdobpaa
open Go.EG
attribute [local irreducible] CallK QCall Go.Calls
set_option linter.unusedSimpArgs false
set_option linter.unusedVariables false
set_option maxRecDepth 20000
set_option maxHeartbeats 4000000
theorem Fol.at_ {M : Mch} {u : List Nat} {q times m tl : Nat} (h : Fol M u q times m tl) {j : Nat} (hj : j ≤ times) (hm : m ≤ j) : tl < m ∧ orb M u q (tl + (j - tl) % (m - tl)) = orb M u q j := by
  rcases h.out with ⟨h1,_⟩ | ⟨h1,h2,h3⟩
  · omega
  · exact ⟨h2,orb_mod (by omega) (by rw [Nat.add_sub_cancel' (by omega)]; exact h3) (by omega)⟩
theorem orbI_get {M : Mch} {u : List Nat} {q n j : Nat} (h : j < n) : ((orbL M u q n).map Int.ofNat).getD j 0 = (orb M u q j : Int) := by
  rw [List.getD_eq_getElem?_getD,List.getElem?_map,orbL_get h]; rfl
theorem orbI_len (M : Mch) (u : List Nat) (q n : Nat) : ((orbL M u q n).map Int.ofNat).length = n := by rw [List.length_map,orbL_len]
theorem calls_OAt {M : Mch} {u : List Nat} {q times m tl : Nat} (hF : Fol M u q times m tl) (a : Option Addr) (c : Nat) (j : Nat) (hj : j ≤ times) (ht : times ≤ 4611686018427387904) (w : World) (hin : In w [] a (ints .i64 ((orbL M u q m).map Int.ofNat))) :
    Calls Try.prog fn_scan_Orbit_At #[.agg #[.slice a m c,.int .i64 (tl : Nat)],.int .i64 (j : Nat)] w fun e w' => e = .returned (.int .i64 (orb M u q j : Nat)) ∧ Ext w w' := by
  refine pure_call [.v (.agg #[.slice a m c,.int .i64 (tl : Nat)]),.v (.int .i64 (j : Nat))] w ok_scan_Orbit_At (by simp) ?_
  have hl := orbI_len M u q m
  by_cases hm : j < m
  · have rd := fun {L : List Ent} => rdI (L := L) hin (i := j) (by omega)
    have nr : a ≠ none := hin.ne' (k := j) (by rw [ints_length]; omega)
    rw [orbI_get hm] at rd
    have q0 : ((j : Nat) : Int).toNat = j := by omega
    (repeat' ((conv => whnf); first | rw [q0] | refine ⟨_,rd,?_⟩ | refine ⟨_,⟨rfl,trivial⟩,?_⟩ | (refine bcase_prop (fun h => ?_) (fun h => ?_) <;> try (exfalso; omega)) | (refine bcase_nprop (fun h => ?_) (fun h => ?_) <;> try (exfalso; omega)) | (refine bcase_intro (fun h => ?_) (fun h => ?_) <;> (try simp only [Bool.not_eq_true',Bool.not_eq_false',decide_eq_true_eq,decide_eq_false_iff_not,Bool.not_eq_true,Bool.not_eq_false,Decidable.not_not] at h)) | refine pay ?_ | intro _)); (all_goals (conv => whnf))
    all_goals first | (exfalso; omega) | exact ⟨rfl⟩
  · obtain ⟨h1,h2⟩ := hF.at_ hj (by omega)
    have hlt : tl + (j - tl) % (m - tl) < m := by
      have := Nat.mod_lt (j - tl) (show 0 < m - tl by omega)
      omega
    have rd := fun {L : List Ent} => rdI (L := L) hin (i := tl + (j - tl) % (m - tl)) (by omega)
    have nr : a ≠ none := hin.ne' (k := tl + (j - tl) % (m - tl)) (by rw [ints_length]; omega)
    rw [orbI_get hlt,h2] at rd
    have q1 : ((tl : Int) + ((j : Int) - (tl : Int)) % ((m : Int) - (tl : Int))) = ((tl + (j - tl) % (m - tl) : Nat) : Int) := by
      have e : ((j : Int) - (tl : Int)) % ((m : Int) - (tl : Int)) = (((j - tl) % (m - tl) : Nat) : Int) := by
        rw [Int.natCast_emod,Int.natCast_sub (by omega),Int.natCast_sub (by omega)]
      rw [e,Int.natCast_add]
    have q2 : ((tl + (j - tl) % (m - tl) : Nat) : Int).toNat = tl + (j - tl) % (m - tl) := by omega
    generalize tl + (j - tl) % (m - tl) = r at *
    (repeat' ((conv => whnf); first | rw [q1] | rw [q2] | refine ⟨_,rd,?_⟩ | refine ⟨_,⟨rfl,trivial⟩,?_⟩ | (refine bcase_prop (fun h => ?_) (fun h => ?_) <;> try (exfalso; omega)) | (refine bcase_nprop (fun h => ?_) (fun h => ?_) <;> try (exfalso; omega)) | (refine bcase_intro (fun h => ?_) (fun h => ?_) <;> (try simp only [Bool.not_eq_true',Bool.not_eq_false',decide_eq_true_eq,decide_eq_false_iff_not,Bool.not_eq_true,Bool.not_eq_false,Decidable.not_not] at h)) | refine pay ?_ | intro _)); (all_goals (conv => whnf))
    all_goals first | (exfalso; omega) | exact ⟨rfl⟩
end Go.Proofs.Ytjmlialibdobpaa
/- Copies without a hit: the program. -/
namespace Go.Proofs.Ytjmlialibdobpaa
open Go.EG
attribute [local irreducible] CallK QCall Go.Calls
set_option linter.unusedSimpArgs false
set_option linter.unusedVariables false
set_option maxRecDepth 20000
set_option maxHeartbeats 4000000
def skp (M : Mch) (H : List Int) (u : List Nat) : Nat → Nat → Nat
  | _,0 => 0
  | q,t + 1 => if 0 < runH M H q u then 0 else skp M H u (runE M q u) t + 1
structure Skp (M : Mch) (H : List Int) (u : List Nat) (q times c : Nat) : Prop where
  le : c ≤ times
  no : ∀ i,i < c → runH M H (orb M u q i) u = 0
  hit : c < times → 0 < runH M H (orb M u q c) u
theorem orb_shift (M : Mch) (u : List Nat) (q j : Nat) : orb M u (runE M q u) j = orb M u q (j + 1) := by
  rw [Nat.add_comm,orb_add]; congr 1; exact (orb_succ M u q 0).symm
theorem skp_spec {M : Mch} {H : List Int} {u : List Nat} : ∀ {t q : Nat},Skp M H u q t (skp M H u q t)
  | 0,q => ⟨Nat.le_refl _,fun i h => absurd h (Nat.not_lt_zero i),fun h => absurd h (Nat.lt_irrefl _)⟩
  | t + 1,q => by
    rw [skp]
    by_cases h : 0 < runH M H q u
    · rw [if_pos h]
      exact ⟨Nat.zero_le _,fun i h => absurd h (Nat.not_lt_zero i),fun _ => h⟩
    · rw [if_neg h]
      have ih := skp_spec (M := M) (H := H) (u := u) (t := t) (q := runE M q u)
      refine ⟨Nat.succ_le_succ ih.le,fun i hi => ?_,fun hc => ?_⟩
      · cases i with
        | zero => show runH M H q u = 0; omega
        | succ i => rw [← orb_shift]; exact ih.no i (by omega)
      · rw [← orb_shift]; exact ih.hit (by omega)
theorem Skp.uniq {M : Mch} {H : List Int} {u : List Nat} {q t c d : Nat} (h : Skp M H u q t c) (k : Skp M H u q t d) : c = d := by
  rcases Nat.lt_trichotomy c d with hl | hl | hl
  · have h1 := k.no c hl
    have h2 := h.hit (Nat.lt_of_lt_of_le hl k.le)
    omega
  · exact hl
  · have h1 := h.no d hl
    have h2 := k.hit (Nat.lt_of_lt_of_le hl h.le)
    omega
theorem runH_rep_zero {M : Mch} {H : List Int} {u : List Nat} {q : Nat} : ∀ {c : Nat},(∀ i,i < c → runH M H (orb M u q i) u = 0) → runH M H q (rep c u) = 0
  | 0,_ => rfl
  | c + 1,h => by rw [runH_rep,runH_rep_zero (fun i hi => h i (by omega)),h c (by omega)]
structure SkG where
  i : Nat
  f1 : List Nat
  f2 : List Nat
theorem calls_Skip {T : Tb} {kk : Nat} {S : Sto} (bt bs : Nat) (h : ScOk T kk S) {n : Int} (hk : known S n) {q : Nat} (hq : q < T.M.nx.length) (times : Nat) (ht : times ≤ 4611686018427387904) :
    XC fn_scan_Skip #[pS bt,.int .i64 n,.int .i64 q,.int .i64 times] bt bs T S (.tuple #[.int .i64 (skp T.M T.H (otx T S n) q times : Nat),.int .i64 (orb T.M (otx T S n) q (skp T.M T.H (otx T S n) q times) : Nat)]) := by
  intro k1 k2 fp1 fp2 w hR
  have hR : R w (fp1 ++ fp2) [packE 78 fp1 (fX bt bs T S.E),packE 77 fp2 (fS bs S)] w := (Thin.packE (Thin.packE (.nil []))).ref w hR
  refine part_call [.v (pS bt),.v (.int .i64 n),.v (.int .i64 q),.v (.int .i64 times)] ok_scan_Skip (by simp) hR ?_
  have hN := h.ok.m.most
  have hb := h.byt hk
  have cE := fun q hq => calls_scEnd bt bs h hk (q := q) hq
  have cH := fun q hq => calls_scHit bt bs h hk (q := q) hq
  have hlt := orb_lt h.ok.m hb hq
  have hos := orb_succ T.M (otx T S n) q
  have hsp := skp_spec (M := T.M) (H := T.H) (u := otx T S n) (t := times) (q := q)
  generalize otx T S n = u at *
  generalize skp T.M T.H u q times = C at *
  (repeat' ((conv => whnf); first | (refine bcase_prop (fun h => ?_) (fun h => ?_) <;> try (exfalso; omega)) | (refine bcase_nprop (fun h => ?_) (fun h => ?_) <;> try (exfalso; omega)) | (refine bcase_intro (fun h => ?_) (fun h => ?_) <;> (try simp only [Bool.not_eq_true',Bool.not_eq_false',decide_eq_true_eq,decide_eq_false_iff_not,Bool.not_eq_true,Bool.not_eq_false,Decidable.not_not] at h)) | refine pay ?_ | intro _)); (all_goals (conv => whnf))
  rename_i b10
  refine VC_loop SkG (fun x => [(0,.v (pS bt)),(1,.v (.int .i64 n)),(2,.v (.int .i64 (orb T.M u q x.i))),(3,.v (.int .i64 times)),(10,.ptr 10 b10 0),(11,.v (.int .i64 x.i))])
    (fun x => [packE 78 x.f1 (fX bt bs T S.E),packE 77 x.f2 (fS bs S),.box 10 b10 (ints .i16 (seenL (orbL T.M u q x.i))) ty_256_int16])
    (fun x => x.i ≤ times ∧ (orbL T.M u q x.i).Nodup ∧ ∀ j,j < x.i → runH T.M T.H (orb T.M u q j) u = 0) (fun x => 256 - x.i) ⟨0,fp1,fp2⟩ ⟨Nat.zero_le _,.nil,fun j hj => absurd hj (Nat.not_lt_zero j)⟩ (by (repeat ((conv => whnf); refine And.intro (by first | exact rfl | exact vint_eq (by omega) | exact vint_eq (by (dsimp only; omega)) | exact vsl_eq (by omega) | exact vsl_eq (by first | (dsimp only; omega) | (simp; done) | (simp; omega))) ?_)); exact trivial) (Ref.takes [78,77,10] rfl (.packE (.packE (.box (by rw [show orbL T.M u q 0 = [] from rfl,seenL_nil]; rfl) (.nil _))))) ?_
  rintro ⟨i,g1,g2⟩ ⟨hi,hnd,hno⟩
  dsimp only at hi hnd hno ⊢
  have hcap : ∀ m,(orbL T.M u q m).Nodup → m ≤ 256 := fun m hm => by
    have := nodup_ltN (n := 256) hm fun x hx => by
      obtain ⟨j,_,rfl⟩ := List.mem_map.1 hx
      have := hlt j
      omega
    rwa [orbL_len] at this
  have hi2 := hcap i hnd
  have hq2 := hlt i
  have hsg := seenL_get (l := orbL T.M u q i) (q := orb T.M u q i) (by omega)
  have hsl := seenL_len (orbL T.M u q i)
  have q0 : ((orb T.M u q i : Nat) : Int).toNat = orb T.M u q i := by omega
  have hnth : ∀ s : Int,(seenL (orbL T.M u q i)).getD (orb T.M u q i) 0 = s → nth (ints .i16 (seenL (orbL T.M u q i))) (0 + orb T.M u q i * 1) = some (.int .i16 s) := fun s hs => by
    rw [nth_eq,Nat.zero_add,Nat.mul_one,ints_getD (by omega),hs]
  by_cases hle : i < times
  case neg =>
    obtain rfl : i = times := by omega
    obtain rfl : i = C := Skp.uniq ⟨Nat.le_refl _,hno,fun h => absurd h (Nat.lt_irrefl _)⟩ hsp
    (repeat' ((conv => whnf); first | refine ⟨_,⟨rfl,trivial⟩,?_⟩ | (refine bcase_prop (fun h => ?_) (fun h => ?_) <;> try (exfalso; omega)) | (refine bcase_nprop (fun h => ?_) (fun h => ?_) <;> try (exfalso; omega)) | (refine bcase_intro (fun h => ?_) (fun h => ?_) <;> (try simp only [Bool.not_eq_true',Bool.not_eq_false',decide_eq_true_eq,decide_eq_false_iff_not,Bool.not_eq_true,Bool.not_eq_false,Decidable.not_not] at h)) | refine pay ?_ | intro _)); (all_goals (conv => whnf))
    all_goals first | (exfalso; omega) | skip
    exact ⟨endXP (Ref.takes [78,77] rfl (Thin.refl _)) rfl⟩
  have cH2 := cH _ hq2
  by_cases hh : 0 < runH T.M T.H (orb T.M u q i) u
  · obtain rfl : i = C := Skp.uniq ⟨by omega,hno,fun _ => hh⟩ hsp
    rw [decide_eq_true hh] at cH2
    (repeat' ((conv => whnf); first | refine XC.go 78 77 cH2 rfl rfl fun fp1' fp2' => ?_ | refine ⟨_,⟨rfl,trivial⟩,?_⟩ | (refine bcase_prop (fun h => ?_) (fun h => ?_) <;> try (exfalso; omega)) | (refine bcase_nprop (fun h => ?_) (fun h => ?_) <;> try (exfalso; omega)) | (refine bcase_intro (fun h => ?_) (fun h => ?_) <;> (try simp only [Bool.not_eq_true',Bool.not_eq_false',decide_eq_true_eq,decide_eq_false_iff_not,Bool.not_eq_true,Bool.not_eq_false,Decidable.not_not] at h)) | refine pay ?_ | intro _)); (all_goals (conv => whnf))
    all_goals first | (exfalso; omega) | skip
    exact ⟨endXP (Ref.takes [78,77] rfl (Thin.refl _)) rfl⟩
  rw [decide_eq_false hh] at cH2
  have hno2 : ∀ j,j < i + 1 → runH T.M T.H (orb T.M u q j) u = 0 := fun j hj => by
    by_cases hji : j = i
    · subst hji; omega
    · exact hno j (by omega)
  by_cases hm : orb T.M u q i ∈ orbL T.M u q i
  · rw [if_pos hm] at hsg
    have hn1 := hnth _ hsg
    obtain ⟨hix,hio⟩ := idxOf_getN hm
    rw [orbL_len] at hix
    have hio : orb T.M u q i = orb T.M u q ((orbL T.M u q i).idxOf (orb T.M u q i)) := by
      rw [orbL_get hix] at hio
      exact (Option.some.inj hio).symm
    generalize (orbL T.M u q i).idxOf (orb T.M u q i) = tl at *
    have hcy : orb T.M u q (tl + (i - tl)) = orb T.M u q tl := by rw [Nat.add_sub_cancel' (by omega)]; exact hio
    have hall : ∀ j,runH T.M T.H (orb T.M u q j) u = 0 := fun j => by
      by_cases hj : j < i
      · exact hno j hj
      · rw [← orb_mod (by omega) hcy (j := j) (by omega)]
        have := Nat.mod_lt (j - tl) (show 0 < i - tl by omega)
        exact hno _ (by omega)
    obtain rfl : times = C := Skp.uniq ⟨Nat.le_refl _,fun j _ => hall j,fun h => absurd h (Nat.lt_irrefl _)⟩ hsp
    have hci : orb T.M u q (i + (i - tl)) = orb T.M u q i := by
      have := orb_cyc hcy 1 (i - tl)
      rw [Nat.one_mul,Nat.add_sub_cancel' (by omega)] at this
      exact this
    have hfin := orb_mod (by omega) hci (j := times) (by omega)
    have e : ((times : Int) - (i : Int)) % ((i : Int) + 1 - ((tl : Int) + 1)) = (((times - i) % (i - tl) : Nat) : Int) := by
      rw [show (i : Int) + 1 - ((tl : Int) + 1) = ((i - tl : Nat) : Int) by omega,show (times : Int) - (i : Int) = ((times - i : Nat) : Int) by omega,Int.natCast_emod]
    have hr : (times - i) % (i - tl) < i - tl := Nat.mod_lt _ (by omega)
    generalize (times - i) % (i - tl) = R at *
    (repeat' ((conv => whnf); first | rw [q0] | rw [hn1] | rw [e] | refine XC.go 78 77 cH2 rfl rfl fun fp1' fp2' => ?_ | refine ⟨_,⟨rfl,trivial⟩,?_⟩ | (refine bcase_prop (fun h => ?_) (fun h => ?_) <;> try (exfalso; omega)) | (refine bcase_nprop (fun h => ?_) (fun h => ?_) <;> try (exfalso; omega)) | (refine bcase_intro (fun h => ?_) (fun h => ?_) <;> (try simp only [Bool.not_eq_true',Bool.not_eq_false',decide_eq_true_eq,decide_eq_false_iff_not,Bool.not_eq_true,Bool.not_eq_false,Decidable.not_not] at h)) | refine pay ?_ | intro _)); (all_goals (conv => whnf))
    all_goals first | (exfalso; omega) | skip
    refine VC_loop SkG (fun x => [(0,.v (pS bt)),(1,.v (.int .i64 n)),(2,.v (.int .i64 (orb T.M u q (i + x.i)))),(3,.v (.int .i64 times)),(13,.v (.int .i64 ((R : Int) - (x.i : Int))))])
      (fun x => [packE 78 x.f1 (fX bt bs T S.E),packE 77 x.f2 (fS bs S)]) (fun x => x.i ≤ R) (fun x => R - x.i) ⟨0,_,_⟩ (Nat.zero_le _) (by (repeat ((conv => whnf); refine And.intro (by first | exact rfl | exact vint_eq (by omega) | exact vint_eq (by (dsimp only; omega)) | exact vsl_eq (by omega) | exact vsl_eq (by first | (dsimp only; omega) | (simp; done) | (simp; omega))) ?_)); exact trivial) (Ref.takes [78,77] rfl (.packE (.packE (.nil _)))) ?_
    rintro ⟨r,y1,y2⟩ hr2
    dsimp only at hr2 ⊢
    by_cases hrl : r < R
    · have cE2 := cE _ (hlt (i + r))
      rw [← hos (i + r)] at cE2
      (repeat' ((conv => whnf); first | refine XC.go 78 77 cE2 rfl rfl fun fp1' fp2' => ?_ | refine ⟨_,⟨rfl,trivial⟩,?_⟩ | (refine bcase_prop (fun h => ?_) (fun h => ?_) <;> try (exfalso; omega)) | (refine bcase_nprop (fun h => ?_) (fun h => ?_) <;> try (exfalso; omega)) | (refine bcase_intro (fun h => ?_) (fun h => ?_) <;> (try simp only [Bool.not_eq_true',Bool.not_eq_false',decide_eq_true_eq,decide_eq_false_iff_not,Bool.not_eq_true,Bool.not_eq_false,Decidable.not_not] at h)) | refine pay ?_ | intro _)); (all_goals (conv => whnf))
      all_goals first | (exfalso; omega) | skip
      exact loop_next ⟨r + 1,_,_⟩ hrl (show R - (r + 1) < R - r by omega) (by (repeat ((conv => whnf); refine And.intro (by first | exact rfl | exact vint_eq (by omega) | exact vint_eq (by (dsimp only; omega)) | exact vsl_eq (by omega) | exact vsl_eq (by first | (dsimp only; omega) | (simp; done) | (simp; omega))) ?_)); exact trivial) (Ref.takes [78,77] rfl (.packE (.packE (.nil _))))
    · obtain rfl : r = R := by omega
      rw [hfin]
      (repeat' ((conv => whnf); first | refine ⟨_,⟨rfl,trivial⟩,?_⟩ | (refine bcase_prop (fun h => ?_) (fun h => ?_) <;> try (exfalso; omega)) | (refine bcase_nprop (fun h => ?_) (fun h => ?_) <;> try (exfalso; omega)) | (refine bcase_intro (fun h => ?_) (fun h => ?_) <;> (try simp only [Bool.not_eq_true',Bool.not_eq_false',decide_eq_true_eq,decide_eq_false_iff_not,Bool.not_eq_true,Bool.not_eq_false,Decidable.not_not] at h)) | refine pay ?_ | intro _)); (all_goals (conv => whnf))
      all_goals first | (exfalso; omega) | skip
      exact ⟨endXP (Ref.takes [78,77] rfl (Thin.refl _)) rfl⟩
  · rw [if_neg hm] at hsg
    have hn1 := hnth _ hsg
    have cE2 := cE _ hq2
    rw [← hos i] at cE2
    have hset : (seenL (orbL T.M u q i)).set (orb T.M u q i) ((i : Int) + 1) = seenL (orbL T.M u q (i + 1)) := by
      have := seenL_add hm
      rw [orbL_len] at this
      rw [orbL_succ,← this]
    have hnd2 : (orbL T.M u q (i + 1)).Nodup := by
      rw [orbL_succ,List.nodup_append]
      exact ⟨hnd,by simp,fun x hx y hy => by rw [List.mem_singleton] at hy; subst hy; exact fun e => hm (e ▸ hx)⟩
    (repeat' ((conv => whnf); first | rw [q0] | rw [hn1] | rw [hset] | refine XC.go 78 77 cH2 rfl rfl fun fp1' fp2' => ?_ | refine XC.go 78 77 cE2 rfl rfl fun fp1' fp2' => ?_ | refine spliceI (q := orb T.M u q i) (by omega) (by omega) ?_ | refine ⟨_,⟨rfl,trivial⟩,?_⟩ | (refine bcase_prop (fun h => ?_) (fun h => ?_) <;> try (exfalso; omega)) | (refine bcase_nprop (fun h => ?_) (fun h => ?_) <;> try (exfalso; omega)) | (refine bcase_intro (fun h => ?_) (fun h => ?_) <;> (try simp only [Bool.not_eq_true',Bool.not_eq_false',decide_eq_true_eq,decide_eq_false_iff_not,Bool.not_eq_true,Bool.not_eq_false,Decidable.not_not] at h)) | refine pay ?_ | refine And.intro (by first | exact ⟨rfl,by rw [ints_length]; omega⟩) ?_ | intro _)); (all_goals (conv => whnf))
    all_goals first | (exfalso; omega) | skip
    have hi3 := hcap _ hnd2
    exact loop_next ⟨i + 1,_,_⟩ ⟨hle,hnd2,hno2⟩ (show 256 - (i + 1) < 256 - i by omega) (by (repeat ((conv => whnf); refine And.intro (by first | exact rfl | exact vint_eq (by omega) | exact vint_eq (by (dsimp only; omega)) | exact vsl_eq (by omega) | exact vsl_eq (by first | (dsimp only; omega) | (simp; done) | (simp; omega))) ?_)); exact trivial) (Ref.takes [78,77,10] rfl (.packE (.packE (Thin.refl _))))
end Go.Proofs.Ytjmlialibdobpaa
/- The first hit of a text: the program. -/
namespace Go.Proofs.Ytjmlialibdobpaa
open Go.EG
attribute [local irreducible] CallK QCall Go.Calls
set_option linter.unusedSimpArgs false
set_option linter.unusedVariables false
set_option maxRecDepth 20000
set_option maxHeartbeats 4000000
theorem otx_view {S : Sto} (hw : WF S) (T : Tb) {i : Int} (h1 : 1 ≤ i) (h2 : i ≤ S.E.length) :
    ((atE S.E i).r.k = 1 ∧ (otx T S i).length = 1) ∨
    ((atE S.E i).r.k = 2 ∧ otx T S i = otx T S (if T.back = true then (atE S.E i).r.b else (atE S.E i).r.a) ++ otx T S (if T.back = true then (atE S.E i).r.a else (atE S.E i).r.b) ∧ (1 ≤ (atE S.E i).r.a ∧ (atE S.E i).r.a < i) ∧ (1 ≤ (atE S.E i).r.b ∧ (atE S.E i).r.b < i)) ∨
    ((atE S.E i).r.k = 3 ∧ otx T S i = rep (atE S.E i).r.t.toNat (otx T S (atE S.E i).r.a) ∧ (1 ≤ (atE S.E i).r.a ∧ (atE S.E i).r.a < i) ∧ 2 ≤ (atE S.E i).r.t ∧ (atE S.E i).r.t.toNat * (tm S.E (atE S.E i).r.a).len ≤ LM ∧ 1 ≤ (tm S.E (atE S.E i).r.a).len) := by
  obtain ⟨ho,_⟩ := hw.at_ h1 h2
  have hle := hw.le h2
  rcases view hw h1 h2 with ⟨v,e⟩ | ⟨v,e,_⟩ | ⟨v,e,_,e2,e3⟩
  · exact .inl ⟨v,by rw [otx_len]; exact e⟩
  · refine .inr (.inl ⟨v,?_,?_,?_⟩)
    · unfold otx
      rw [e,ori_append]
      cases T.back <;> rfl
    · rcases ho with ho | ho | ho <;> omega
    · rcases ho with ho | ho | ho <;> omega
  · refine .inr (.inr ⟨v,?_,?_,e3,?_,e2⟩)
    · unfold otx
      rw [e,ori_rep]
    · rcases ho with ho | ho | ho <;> omega
    · unfold Tm.len at hle ⊢
      rw [e,len_rep] at hle
      exact hle
theorem fstH_rep {M : Mch} {H : List Int} {u : List Nat} {q t c : Nat} (h : Skp M H u q t c) (hc : c < t) : fstH M H q (rep t u) = c * u.length + fstH M H (orb M u q c) u := by
  have h1 := h.hit hc
  have h0 : fstH M H q (rep c u) = 0 := fstH_zero.2 (runH_rep_zero h.no)
  have h2 : fstH M H (orb M u q c) u ≠ 0 := fun e => by
    have := fstH_zero.1 e; omega
  rw [show t = c + (1 + (t - c - 1)) by omega,rep_add,fstH_append,if_pos h0,len_rep,rep_add,rep_one,fstH_append]
  show (if (if fstH M H (orb M u q c) u = 0 then _ else fstH M H (orb M u q c) u) = 0 then 0 else _) = _
  rw [if_neg h2,if_neg h2]
  show c * u.length + (if fstH M H (orb M u q c) u = 0 then _ else fstH M H (orb M u q c) u) = _
  rw [if_neg h2]
theorem skp_lt {M : Mch} {H : List Int} {u : List Nat} {q t : Nat} (h : 0 < runH M H q (rep t u)) : skp M H u q t < t := by
  have hs := skp_spec (M := M) (H := H) (u := u) (t := t) (q := q)
  rcases Nat.lt_or_ge (skp M H u q t) t with hl | hl
  · exact hl
  · have e : skp M H u q t = t := Nat.le_antisymm hs.le hl
    have := runH_rep_zero hs.no
    rw [e] at this
    omega
structure FsG where
  id : Int
  q : Nat
  rd : Nat
  f1 : List Nat
  f2 : List Nat
theorem calls_sfirst {T : Tb} {kk : Nat} {S : Sto} (bt bs : Nat) (h : ScOk T kk S) {n : Int} (h1 : 1 ≤ n) (h2 : n ≤ S.E.length) {q : Nat} (hq : q < T.M.nx.length) (hr : 0 < runH T.M T.H q (otx T S n)) :
    XC fn_scan_first #[pS bt,.int .i64 n,.int .i64 q] bt bs T S (.int .i64 (fstH T.M T.H q (otx T S n) : Nat)) := by
  intro k1 k2 fp1 fp2 w hR
  have hR : R w (fp1 ++ fp2) [packE 78 fp1 (fX bt bs T S.E),packE 77 fp2 (fS bs S)] w := (Thin.packE (Thin.packE (.nil []))).ref w hR
  refine part_call [.v (pS bt),.v (.int .i64 n),.v (.int .i64 q)] ok_scan_first (by simp) hR ?_
  have hLM : LM = 1152921504606846976 := rfl
  have hle0 := fstH_le (M := T.M) (H := T.H) q (otx T S n)
  rw [otx_len] at hle0
  have hle1 := h.wf.le h2
  obtain ⟨F,hF⟩ : ∃ F,fstH T.M T.H q (otx T S n) = F := ⟨_,rfl⟩
  rw [hF] at hle0 ⊢
  have hFle : F ≤ LM := by omega
  have c1 := calls_TStore2 bt bs T S.E
  (repeat' ((conv => whnf); first | (refine bcase_prop (fun h => ?_) (fun h => ?_) <;> try (exfalso; omega)) | (refine bcase_nprop (fun h => ?_) (fun h => ?_) <;> try (exfalso; omega)) | (refine bcase_intro (fun h => ?_) (fun h => ?_) <;> (try simp only [Bool.not_eq_true',Bool.not_eq_false',decide_eq_true_eq,decide_eq_false_iff_not,Bool.not_eq_true,Bool.not_eq_false,Decidable.not_not] at h)) | refine pay ?_ | intro _)); (all_goals (conv => whnf))
  refine VC_loop FsG (fun x => [(0,.v (pS bt)),(1,.v (.int .i64 x.id)),(2,.v (.int .i64 x.q)),(7,.v (.int .i64 x.rd))])
    (fun x => [packE 78 x.f1 (fX bt bs T S.E),packE 77 x.f2 (fS bs S)])
    (fun x => (1 ≤ x.id ∧ x.id ≤ S.E.length) ∧ x.q < T.M.nx.length ∧ 0 < runH T.M T.H x.q (otx T S x.id) ∧ x.rd + fstH T.M T.H x.q (otx T S x.id) = F) (fun x => x.id.toNat) ⟨n,q,0,fp1,fp2⟩ ⟨⟨h1,h2⟩,hq,hr,by rw [Nat.zero_add]; exact hF⟩ (by (repeat ((conv => whnf); refine And.intro (by first | exact rfl | exact vint_eq (by omega) | exact vint_eq (by (dsimp only; omega)) | exact vsl_eq (by omega) | exact vsl_eq (by first | (dsimp only; omega) | (simp; done) | (simp; omega))) ?_)); exact trivial) (Ref.takes [78,77] rfl (.packE (.packE (.nil _)))) ?_
  clear hr hF h1 h2 hq hle0 hle1
  rintro ⟨id,q,rd,g1,g2⟩ ⟨⟨h1,h2⟩,hq,hr,hF⟩
  dsimp only at h1 h2 hq hr hF ⊢
  have c2 := calls_Rule bs S id h.wf.small
  rw [ruleV_ok h1 h2] at c2
  have c3 := calls_scChildren bt bs h (atE S.E id).r
  have hv := otx_view h.wf T h1 h2
  generalize (atE S.E id).r = r at *
  rcases hv with ⟨hk,hl⟩ | ⟨hk,he,ha,hb⟩ | ⟨hk,he,ha,ht,hlm,hl1⟩
  · have hf1 : fstH T.M T.H q (otx T S id) = 1 := by
      have := fstH_le (M := T.M) (H := T.H) q (otx T S id)
      have h0 : fstH T.M T.H q (otx T S id) ≠ 0 := fun e => by have := fstH_zero.1 e; omega
      omega
    rw [hf1] at hF
    (repeat' ((conv => whnf); first | (refine CallK_pack (key := 78) rfl (fun w hR h0 => c1 _ _ _ h0) ?_; rintro _ _ ⟨rfl,rfl⟩; refine ⟨.v _,rfl,?_⟩) | refine SC.go 77 c2 rfl fun fp' => ?_ | refine ⟨_,⟨rfl,trivial⟩,?_⟩ | (refine bcase_prop (fun h => ?_) (fun h => ?_) <;> try (exfalso; omega)) | (refine bcase_nprop (fun h => ?_) (fun h => ?_) <;> try (exfalso; omega)) | (refine bcase_intro (fun h => ?_) (fun h => ?_) <;> (try simp only [Bool.not_eq_true',Bool.not_eq_false',decide_eq_true_eq,decide_eq_false_iff_not,Bool.not_eq_true,Bool.not_eq_false,Decidable.not_not] at h)) | refine pay ?_ | intro _)); (all_goals (conv => whnf))
    all_goals first | (exfalso; omega) | skip
    refine ⟨endXP (Ref.takes [78,77] rfl (Thin.refl _)) ?_⟩
    congr 1; omega
  · obtain ⟨f,hf⟩ : ∃ f,(if T.back = true then r.b else r.a) = f := ⟨_,rfl⟩
    obtain ⟨l,hl⟩ : ∃ l,(if T.back = true then r.a else r.b) = l := ⟨_,rfl⟩
    have hfb : 1 ≤ f ∧ f < id := by rw [← hf]; split <;> assumption
    have hlb : 1 ≤ l ∧ l < id := by rw [← hl]; split <;> assumption
    rw [hf,hl] at c3 he
    have kf : known S f := ⟨by omega,by omega⟩
    have hll : l ≤ S.E.length := by omega
    have c6 := calls_scHit bt bs h kf hq
    rw [he] at hr hF
    by_cases hh : 0 < runH T.M T.H q (otx T S f)
    · rw [decide_eq_true hh] at c6
      have hne : fstH T.M T.H q (otx T S f) ≠ 0 := fun e => by have := fstH_zero.1 e; omega
      rw [fstH_append,if_neg hne] at hF
      (repeat' ((conv => whnf); first | (refine CallK_pack (key := 78) rfl (fun w hR h0 => c1 _ _ _ h0) ?_; rintro _ _ ⟨rfl,rfl⟩; refine ⟨.v _,rfl,?_⟩) | refine SC.go 77 c2 rfl fun fp' => ?_ | refine XC.go 78 77 c3 rfl rfl fun fp1' fp2' => ?_ | refine XC.go 78 77 c6 rfl rfl fun fp1' fp2' => ?_ | refine ⟨_,⟨rfl,trivial⟩,?_⟩ | (refine bcase_prop (fun h => ?_) (fun h => ?_) <;> try (exfalso; omega)) | (refine bcase_nprop (fun h => ?_) (fun h => ?_) <;> try (exfalso; omega)) | (refine bcase_intro (fun h => ?_) (fun h => ?_) <;> (try simp only [Bool.not_eq_true',Bool.not_eq_false',decide_eq_true_eq,decide_eq_false_iff_not,Bool.not_eq_true,Bool.not_eq_false,Decidable.not_not] at h)) | refine pay ?_ | intro _)); (all_goals (conv => whnf))
      all_goals first | (exfalso; omega) | skip
      exact loop_next ⟨f,q,rd,_,_⟩ ⟨⟨hfb.1,kf.2⟩,hq,hh,hF⟩ (show f.toNat < id.toNat by omega) (by (repeat ((conv => whnf); refine And.intro (by first | exact rfl | exact vint_eq (by omega) | exact vint_eq (by (dsimp only; omega)) | exact vsl_eq (by omega) | exact vsl_eq (by first | (dsimp only; omega) | (simp; done) | (simp; omega))) ?_)); exact trivial) (Ref.takes [78,77] rfl (.packE (.packE (.nil _))))
    · rw [decide_eq_false hh] at c6
      have h0 : runH T.M T.H q (otx T S f) = 0 := by omega
      rw [runH_append,h0,Nat.zero_add] at hr
      have hne : fstH T.M T.H (runE T.M q (otx T S f)) (otx T S l) ≠ 0 := fun e => by have := fstH_zero.1 e; omega
      rw [fstH_append,if_pos (fstH_zero.2 h0),if_neg hne,otx_len] at hF
      have c7 := calls_scSize bt bs h kf
      have c8 := calls_scEnd bt bs h kf hq
      have hlt := h.lt kf hq
      generalize runE T.M q (otx T S f) = q' at *
      (repeat' ((conv => whnf); first | (refine CallK_pack (key := 78) rfl (fun w hR h0 => c1 _ _ _ h0) ?_; rintro _ _ ⟨rfl,rfl⟩; refine ⟨.v _,rfl,?_⟩) | refine SC.go 77 c2 rfl fun fp' => ?_ | refine XC.go 78 77 c3 rfl rfl fun fp1' fp2' => ?_ | refine XC.go 78 77 c6 rfl rfl fun fp1' fp2' => ?_ | refine XC.go 78 77 c7 rfl rfl fun fp1' fp2' => ?_ | refine XC.go 78 77 c8 rfl rfl fun fp1' fp2' => ?_ | refine ⟨_,⟨rfl,trivial⟩,?_⟩ | (refine bcase_prop (fun h => ?_) (fun h => ?_) <;> try (exfalso; omega)) | (refine bcase_nprop (fun h => ?_) (fun h => ?_) <;> try (exfalso; omega)) | (refine bcase_intro (fun h => ?_) (fun h => ?_) <;> (try simp only [Bool.not_eq_true',Bool.not_eq_false',decide_eq_true_eq,decide_eq_false_iff_not,Bool.not_eq_true,Bool.not_eq_false,Decidable.not_not] at h)) | refine pay ?_ | intro _)); (all_goals (conv => whnf))
      all_goals first | (exfalso; omega) | skip
      exact loop_next ⟨l,q',rd + (tm S.E f).len,_,_⟩ ⟨⟨hlb.1,hll⟩,hlt,hr,by rw [← hF,Nat.add_assoc]⟩ (show l.toNat < id.toNat by omega) (by (repeat ((conv => whnf); refine And.intro (by first | exact rfl | exact vint_eq (by omega) | exact vint_eq (by (dsimp only; omega)) | exact vsl_eq (by omega) | exact vsl_eq (by first | (dsimp only; omega) | (simp; done) | (simp; omega))) ?_)); exact trivial) (Ref.takes [78,77] rfl (.packE (.packE (.nil _))))
  · have ka : known S r.a := ⟨by omega,by omega⟩
    rw [he] at hr hF
    have c4 := calls_Skip bt bs h ka hq r.t.toNat (by
      have : r.t.toNat * 1 ≤ LM := Nat.le_trans (Nat.mul_le_mul_left _ hl1) hlm
      omega)
    rw [show ((r.t.toNat : Nat) : Int) = r.t by omega] at c4
    have hs := skp_spec (M := T.M) (H := T.H) (u := otx T S r.a) (t := r.t.toNat) (q := q)
    have hlt := skp_lt hr
    have c5 := calls_scSize bt bs h ka
    have hql := orb_lt h.ok.m (h.byt ka) hq (skp T.M T.H (otx T S r.a) q r.t.toNat)
    generalize skp T.M T.H (otx T S r.a) q r.t.toNat = c at *
    have hr2 := hs.hit hlt
    rw [fstH_rep hs hlt,otx_len] at hF
    have hP : ((c : Nat) : Int) * ((tm S.E r.a).len : Nat) = ((c * (tm S.E r.a).len : Nat) : Int) := (Int.natCast_mul ..).symm
    have hPb : c * (tm S.E r.a).len ≤ LM := Nat.le_trans (Nat.mul_le_mul_right _ (by omega)) hlm
    generalize c * (tm S.E r.a).len = P at *
    generalize orb T.M (otx T S r.a) q c = q' at *
    (repeat' ((conv => whnf); first | rw [hP] | (refine CallK_pack (key := 78) rfl (fun w hR h0 => c1 _ _ _ h0) ?_; rintro _ _ ⟨rfl,rfl⟩; refine ⟨.v _,rfl,?_⟩) | refine SC.go 77 c2 rfl fun fp' => ?_ | refine XC.go 78 77 c4 rfl rfl fun fp1' fp2' => ?_ | refine XC.go 78 77 c5 rfl rfl fun fp1' fp2' => ?_ | refine ⟨_,⟨rfl,trivial⟩,?_⟩ | (refine bcase_prop (fun h => ?_) (fun h => ?_) <;> try (exfalso; omega)) | (refine bcase_nprop (fun h => ?_) (fun h => ?_) <;> try (exfalso; omega)) | (refine bcase_intro (fun h => ?_) (fun h => ?_) <;> (try simp only [Bool.not_eq_true',Bool.not_eq_false',decide_eq_true_eq,decide_eq_false_iff_not,Bool.not_eq_true,Bool.not_eq_false,Decidable.not_not] at h)) | refine pay ?_ | intro _)); (all_goals (conv => whnf))
    all_goals first | (exfalso; omega) | skip
    exact loop_next ⟨r.a,q',rd + P,_,_⟩ ⟨⟨ha.1,ka.2⟩,hql,hr2,by rw [← hF,Nat.add_assoc]⟩ (show r.a.toNat < id.toNat by omega) (by (repeat ((conv => whnf); refine And.intro (by first | exact rfl | exact vint_eq (by omega) | exact vint_eq (by (dsimp only; omega)) | exact vsl_eq (by omega) | exact vsl_eq (by first | (dsimp only; omega) | (simp; done) | (simp; omega))) ?_)); exact trivial) (Ref.takes [78,77] rfl (.packE (.packE (.nil _))))
end Go.Proofs.Ytjmlialibdobpaa
/- The parts of a range in the order of reading,and a run over them: the program. -/
namespace Go.Proofs.Ytjmlialibdobpaa
open Go.EG
attribute [local irreducible] CallK QCall Go.Calls
set_option linter.unusedSimpArgs false
set_option linter.unusedVariables false
set_option maxRecDepth 20000
set_option maxHeartbeats 4000000
def rulD (S : Sto) (i : Int) : Prop := 1 ≤ i ∧ i ≤ S.E.length
theorem rulD_clo {S : Sto} (hw : WF S) : Clo S (rulD S) := by
  intro i h
  obtain ⟨ho,_⟩ := hw.at_ h.1 h.2
  unfold rulD at *
  refine ⟨h.1,h.2,fun hk => ?_,fun hk => ?_⟩
  · rcases ho with ho | ho | ho <;> omega
  · rcases ho with ho | ho | ho <;> omega
structure Prs (T : Tb) (S : Sto) (X : List Nat) (ps : List Pt) : Prop where
  id : ∀ p ∈ ps,1 ≤ p.id ∧ p.id ≤ S.E.length ∧ 1 ≤ p.t ∧ p.t * (tm S.E p.id).len ≤ LM ∧ 1 ≤ (tm S.E p.id).len
  tx : ps.flatMap (fun p => rep p.t (otx T S p.id)) = X
  le : ps.length ≤ 6291457
theorem flat_le {α : Type} {f : α → List Nat} : ∀ {l : List α} {x : α},x ∈ l → (f x).length ≤ (l.flatMap f).length
  | y :: l,x,h => by
    rw [List.flatMap_cons,List.length_append]
    rcases List.mem_cons.1 h with rfl | h
    · omega
    · have := flat_le (f := f) h; omega
def scpQ (bt bs : Nat) (T : Tb) (S : Sto) (X : List Nat) (v : Value) (L1 : List Ent) : Prop :=
  ∃ ps a c fp1 fp2,v = .slice a (ps : List Pt).length c ∧ Prs T S X ps ∧ L1 = [packE 78 fp1 (fX bt bs T S.E),packE 77 fp2 (fS bs S),.own 880 a ps.length c ty_parts_Part 3 (pts ps)]
theorem calls_scParts {T : Tb} {kk : Nat} {S : Sto} (bt bs : Nat) (h : ScOk T kk S) {n : Int} (hk : known S n) {i m : Nat} (hi : i + m ≤ (tm S.E n).len) (fp1 fp2 : List Nat) (w : World) (hR : R w (fp1 ++ fp2) [packE 78 fp1 (fX bt bs T S.E),packE 77 fp2 (fS bs S)] w) :
    Calls Try.prog fn_scan_Parts #[pS bt,.int .i64 n,.int .i64 i,.int .i64 m] w fun e w' => ∃ v L1,e = .returned v ∧ R w (fp1 ++ fp2) L1 w' ∧ scpQ bt bs T S (ori T.back (((tm S.E n).txt.drop i).take m)) v L1 := by
  refine part_call [.v (pS bt),.v (.int .i64 n),.v (.int .i64 i),.v (.int .i64 m)] ok_scan_Parts (by simp) hR ?_
  have hLM : LM = 1152921504606846976 := rfl
  have hln := h.wf.le hk.2
  have c1 := calls_TStore2 bt bs T S.E
  have cB := calls_TBack2 bt bs T S.E
  have hPO : POk S (rulD S) ⟨n,i,m⟩ := ⟨by
    by_cases h0 : n = 0
    · exact .inl h0
    · exact .inr ⟨by have := hk.1; show 1 ≤ n; omega,hk.2⟩,hi⟩
  have c5 := fun f0 fp (w' : World) hR => calls_PartsOf bs S h.wf (rulD S) (rulD_clo h.wf) ⟨n,i,m⟩ hPO f0 fp w' hR
  have c6 := fun ps hl (a8 : Option Addr) (c8 : Nat) fp (w' : World) hR => calls_revPt ps hl a8 c8 fp w' hR
  have hprs : ∀ ps : List Pt,(∀ q ∈ ps,QOk S (rulD S) q) → ps.flatMap (ptT S) = pcT S ⟨n,i,m⟩ → ps.length ≤ 6291457 → Prs T S (ori T.back (((tm S.E n).txt.drop i).take m)) (ordP T.back ps) := fun ps hQ htx hpl => by
    refine ⟨fun p hp => ?_,?_,by rw [ordP_len]; exact hpl⟩
    · have hp := ordP_mem.1 hp
      obtain ⟨q1,q2⟩ := hQ p hp
      have h1 := flat_le (f := ptT S) hp
      rw [htx] at h1
      have h2 : (pcT S ⟨n,i,m⟩).length ≤ (tm S.E n).len := by
        show (((tm S.E n).txt.drop i).take m).length ≤ (tm S.E n).txt.length
        rw [List.length_take,List.length_drop]
        omega
      have h3 : (ptT S p).length = p.t * (tm S.E p.id).len := by unfold ptT Tm.len; rw [len_rep]
      exact ⟨q1.1,q1.2,by rcases q2 with q2 | q2 <;> omega,by omega,h.wf.pos1 q1.1 q1.2⟩
    · show _ = ori T.back (pcT S ⟨n,i,m⟩)
      rw [← htx,ori_parts]
      congr 1
      funext p
      exact (ori_rep T.back p.t _).symm
  cases hb : T.back <;> rw [hb] at cB hprs
  all_goals
    (repeat' ((conv => whnf); first | (refine CallK_pack (key := 78) rfl (fun w hR h0 => c1 _ _ _ h0) ?_; rintro _ _ ⟨rfl,rfl⟩; refine ⟨.v _,rfl,?_⟩) | (refine CallK_pack (key := 78) rfl (fun w hR h0 => cB _ _ _ h0) ?_; rintro _ _ ⟨rfl,rfl⟩; refine ⟨.v _,rfl,?_⟩) | (refine CallK_subR [77] rfl (fun w' hR h0 => c5 _ _ w' (by with_reducible exact h0)) ?_; rintro _ _ w2 ⟨ps,a8,c8,f8,rfl,hQ,htx,hpl,rfl⟩ hRp; refine ⟨.v _,rfl,?_⟩) | (refine CallK_sub [880] rfl (fun w' hR h0 => c6 ps (Nat.le_trans hpl (Nat.le_of_ble_eq_true rfl)) _ _ _ w' h0) ?_; rintro _ _ ⟨rfl,rfl⟩; refine ⟨.v _,rfl,?_⟩) | refine ⟨_,⟨rfl,trivial⟩,?_⟩ | (refine bcase_prop (fun h => ?_) (fun h => ?_) <;> try (exfalso; omega)) | (refine bcase_nprop (fun h => ?_) (fun h => ?_) <;> try (exfalso; omega)) | (refine bcase_intro (fun h => ?_) (fun h => ?_) <;> (try simp only [Bool.not_eq_true',Bool.not_eq_false',decide_eq_true_eq,decide_eq_false_iff_not,Bool.not_eq_true,Bool.not_eq_false,Decidable.not_not] at h)) | refine pay ?_ | intro _)); (all_goals (conv => whnf))
    all_goals first | (exfalso; omega) | skip
    have hp := hprs ps hQ htx hpl
    exact ⟨⟨_,Ref.takes [78,77,880] rfl (.packE (.packE (.own (by rw [ordP_len]) rfl (.nil _)))),_,_,_,_,_,by rw [ordP_len],hp,rfl⟩⟩
end Go.Proofs.Ytjmlialibdobpaa
/- A run over parts: the program. -/
namespace Go.Proofs.Ytjmlialibdobpaa
open Go.EG
attribute [local irreducible] CallK QCall Go.Calls
set_option linter.unusedSimpArgs false
set_option linter.unusedVariables false
set_option maxRecDepth 20000
set_option maxHeartbeats 4000000
theorem pts_len : ∀ l : List Pt,(pts l).length = l.length * 3
  | [] => rfl
  | p :: l => by
    have := pts_len l
    unfold pts at this ⊢
    rw [List.flatMap_cons,List.length_append,this,List.length_cons]
    show 3 + _ = _
    omega
theorem pts_at : ∀ {l : List Pt} {i : Nat} {p : Pt},l[i]? = some p → ((pts l).drop (i * 3)).take 3 = ptC p
  | x :: l,0,p,h => by
    have : x = p := by simpa using h
    subst this; rfl
  | x :: l,i + 1,p,h => by
    have h' : l[i]? = some p := by simpa using h
    rw [← pts_at h']
    show (List.drop ((i + 1) * 3) (ptC x ++ pts l)).take 3 = _
    rw [Nat.succ_mul,Nat.add_comm,← List.drop_drop]; rfl
structure ThG where
  i : Nat
  f1 : List Nat
  f2 : List Nat
theorem calls_Through {T : Tb} {kk : Nat} {S : Sto} (bt bs : Nat) (h : ScOk T kk S) {X : List Nat} {ps : List Pt} (hP : Prs T S X ps) (a : Option Addr) (c : Nat) {q : Nat} (hq : q < T.M.nx.length) (fp1 fp2 : List Nat) (w : World) (hR : R w (fp1 ++ fp2) [packE 78 fp1 (fX bt bs T S.E),packE 77 fp2 (fS bs S)] w) (hin : In w (fp1 ++ fp2) a (pts ps)) :
    Calls Try.prog fn_scan_Through #[pS bt,.slice a ps.length c,.int .i64 q] w fun e w' => ∃ v L1,e = .returned v ∧ R w (fp1 ++ fp2) L1 w' ∧ retX 78 77 bt bs T S (.int .i64 (runE T.M q X : Nat)) v L1 := by
  refine part_call [.v (pS bt),.v (.slice a ps.length c),.v (.int .i64 q)] ok_scan_Through (by simp) hR ?_
  have hLM : LM = 1152921504606846976 := rfl
  have hpl := hP.le
  have hX := hP.tx
  obtain ⟨st,hst⟩ : ∃ st : Nat → Nat,∀ i,runE T.M q ((ps.take i).flatMap fun p => rep p.t (otx T S p.id)) = st i := ⟨_,fun _ => rfl⟩
  have hst0 : st 0 = q := (hst 0).symm
  have hstE : runE T.M q X = st ps.length := by rw [← hst,List.take_length,hX]
  have hbt : ∀ i,∀ b ∈ (ps.take i).flatMap (fun p => rep p.t (otx T S p.id)),b < 256 := fun i b hb => by
    obtain ⟨p,hp,hb⟩ := List.mem_flatMap.1 hb
    have := hP.id p (List.mem_of_mem_take hp)
    exact h.byt ⟨by omega,this.2.1⟩ b (memRep hb)
  have hstl : ∀ i,st i < T.M.nx.length := fun i => by rw [← hst]; exact runE_lt h.ok.m (hbt i) hq
  have hstS : ∀ i p,ps[i]? = some p → st (i + 1) = orb T.M (otx T S p.id) (st i) p.t := fun i p hp => by
    have e : ps.take (i + 1) = ps.take i ++ [p] := by rw [List.take_add_one,hp]; rfl
    rw [← hst,← hst,e,List.flatMap_append,runE_append,List.flatMap_singleton]; rfl
  rw [hstE]
  (repeat' ((conv => whnf); first | (refine bcase_prop (fun h => ?_) (fun h => ?_) <;> try (exfalso; omega)) | (refine bcase_nprop (fun h => ?_) (fun h => ?_) <;> try (exfalso; omega)) | (refine bcase_intro (fun h => ?_) (fun h => ?_) <;> (try simp only [Bool.not_eq_true',Bool.not_eq_false',decide_eq_true_eq,decide_eq_false_iff_not,Bool.not_eq_true,Bool.not_eq_false,Decidable.not_not] at h)) | refine pay ?_ | intro _)); (all_goals (conv => whnf))
  refine VC_loop ThG (fun x => [(0,.v (pS bt)),(1,.v (.slice a ps.length c)),(2,.v (.int .i64 (st x.i))),(9,.v (.slice a ps.length c)),(10,.v (.int .i64 ps.length)),(11,.v (.int .i64 x.i))])
    (fun x => [packE 78 x.f1 (fX bt bs T S.E),packE 77 x.f2 (fS bs S)]) (fun x => x.i ≤ ps.length) (fun x => ps.length - x.i) ⟨0,fp1,fp2⟩ (Nat.zero_le _) (by (repeat ((conv => whnf); refine And.intro (by first | exact rfl | exact vint_eq (by omega) | exact vint_eq (by (dsimp only; omega)) | exact vsl_eq (by omega) | exact vsl_eq (by first | (dsimp only; omega) | (simp; done) | (simp; omega))) ?_)); exact trivial) (Ref.takes [78,77] rfl (.packE (.packE (.nil _)))) ?_
  rintro ⟨i,g1,g2⟩ hi
  dsimp only at hi ⊢
  by_cases hlt : i < ps.length
  case neg =>
    obtain rfl : i = ps.length := by omega
    (repeat' ((conv => whnf); first | refine ⟨_,⟨rfl,trivial⟩,?_⟩ | (refine bcase_prop (fun h => ?_) (fun h => ?_) <;> try (exfalso; omega)) | (refine bcase_nprop (fun h => ?_) (fun h => ?_) <;> try (exfalso; omega)) | (refine bcase_intro (fun h => ?_) (fun h => ?_) <;> (try simp only [Bool.not_eq_true',Bool.not_eq_false',decide_eq_true_eq,decide_eq_false_iff_not,Bool.not_eq_true,Bool.not_eq_false,Decidable.not_not] at h)) | refine pay ?_ | intro _)); (all_goals (conv => whnf))
    all_goals first | (exfalso; omega) | skip
    exact ⟨endXP (Ref.takes [78,77] rfl (Thin.refl _)) rfl⟩
  obtain ⟨p,hp⟩ : ∃ p,ps[i]? = some p := ⟨_,List.getElem?_eq_getElem hlt⟩
  have hpm := hP.id p (List.mem_of_getElem? hp)
  have rd := fun {L : List Ent} => In.rdn (L := L) (vs := ptC p) (k := i * 3) hin (Nat.succ_pos _) (pts_at hp)
  have nr : a ≠ none := hin.ne' (k := i * 3) (by rw [pts_len]; omega)
  have q0 : ((i : Nat) : Int).toNat = i := by omega
  have kp : known S p.id := ⟨by omega,hpm.2.1⟩
  have htb : p.t ≤ LM := by
    have : p.t * 1 ≤ LM := Nat.le_trans (Nat.mul_le_mul_left _ hpm.2.2.2.2) hpm.2.2.2.1
    omega
  have cF := fun k1 k2 fp1 fp2 w hR => calls_Follow bt bs h kp (hstl i) p.t (by omega) k1 k2 fp1 fp2 w hR
  have hstp := hstS i p hp
  have cA := fun {m tl : Nat} (hF : Fol T.M (otx T S p.id) (st i) p.t m tl) a c w hin => calls_OAt hF a c p.t (Nat.le_refl _) (by omega) w hin
  rw [← hstp] at cA
  obtain ⟨id,pw,t⟩ := p
  dsimp only [ptC] at *
  (repeat' ((conv => whnf); first | rw [q0] | refine VC_base _ (Ref.takes [8] rfl (Thin.refl _)) ?_ | refine ⟨[.int .i64 id,.int .i64 pw,.int .i64 t],rfl,rd,?_⟩ | (refine CallK_pack2 (key1 := 78) (key2 := 77) rfl rfl (fun w hR h0 => cF _ _ _ _ _ h0) ?_; rintro _ _ ⟨m,tl,aF,cF2,y1,y2,rfl,hF,hm,rfl⟩; refine ⟨.v _,rfl,?_⟩) | (refine CallK_pure (.v _) (fun w' hR => cA hF _ _ w' (In.ownR (key := 890) hR rfl)) ?_) | refine ⟨_,⟨rfl,trivial⟩,?_⟩ | (refine bcase_prop (fun h => ?_) (fun h => ?_) <;> try (exfalso; omega)) | (refine bcase_nprop (fun h => ?_) (fun h => ?_) <;> try (exfalso; omega)) | (refine bcase_intro (fun h => ?_) (fun h => ?_) <;> (try simp only [Bool.not_eq_true',Bool.not_eq_false',decide_eq_true_eq,decide_eq_false_iff_not,Bool.not_eq_true,Bool.not_eq_false,Decidable.not_not] at h)) | refine pay ?_ | refine And.intro (by first | exact Ref.takes [8] rfl (Thin.refl _)) ?_ | intro _)); (all_goals (conv => whnf))
  all_goals first | (exfalso; omega) | skip
  exact loop_next ⟨i + 1,_,_⟩ hlt (show ps.length - (i + 1) < ps.length - i by omega) (by (repeat ((conv => whnf); refine And.intro (by first | exact rfl | exact vint_eq (by omega) | exact vint_eq (by (dsimp only; omega)) | exact vsl_eq (by omega) | exact vsl_eq (by first | (dsimp only; omega) | (simp; done) | (simp; omega))) ?_)); exact trivial) (Ref.takes [78,77] rfl (.packE (.packE (.nil _))))
structure TfG where
  i : Nat
  f1 : List Nat
  f2 : List Nat
theorem calls_scFirst {T : Tb} {kk : Nat} {S : Sto} (bt bs : Nat) (h : ScOk T kk S) {X : List Nat} {ps : List Pt} (hP : Prs T S X ps) (hXl : X.length ≤ LM) (a : Option Addr) (c : Nat) {q : Nat} (hq : q < T.M.nx.length) (fp1 fp2 : List Nat) (w : World) (hR : R w (fp1 ++ fp2) [packE 78 fp1 (fX bt bs T S.E),packE 77 fp2 (fS bs S)] w) (hin : In w (fp1 ++ fp2) a (pts ps)) :
    Calls Try.prog fn_scan_First #[pS bt,.slice a ps.length c,.int .i64 q] w fun e w' => ∃ v L1,e = .returned v ∧ R w (fp1 ++ fp2) L1 w' ∧ retX 78 77 bt bs T S (.int .i64 (fstH T.M T.H q X : Nat)) v L1 := by
  refine part_call [.v (pS bt),.v (.slice a ps.length c),.v (.int .i64 q)] ok_scan_First (by simp) hR ?_
  have hLM : LM = 1152921504606846976 := rfl
  have hpl := hP.le
  have hX := hP.tx
  obtain ⟨A,hA⟩ : ∃ A : Nat → List Nat,∀ i,(ps.take i).flatMap (fun p => rep p.t (otx T S p.id)) = A i := ⟨_,fun _ => rfl⟩
  obtain ⟨B,hB⟩ : ∃ B : Nat → List Nat,∀ i,(ps.drop i).flatMap (fun p => rep p.t (otx T S p.id)) = B i := ⟨_,fun _ => rfl⟩
  have hA0 : A 0 = [] := (hA 0).symm
  have hAE : X = A ps.length := by rw [← hA,List.take_length,hX]
  have hAB : ∀ i,X = A i ++ B i := fun i => by rw [← hA,← hB,← List.flatMap_append,List.take_append_drop,hX]
  have hbt : ∀ i,∀ b ∈ A i,b < 256 := fun i b hb => by
    rw [← hA] at hb
    obtain ⟨p,hp,hb⟩ := List.mem_flatMap.1 hb
    have := hP.id p (List.mem_of_mem_take hp)
    exact h.byt ⟨by omega,this.2.1⟩ b (memRep hb)
  have hstl : ∀ i,runE T.M q (A i) < T.M.nx.length := fun i => runE_lt h.ok.m (hbt i) hq
  have hAS : ∀ i p,ps[i]? = some p → A (i + 1) = A i ++ rep p.t (otx T S p.id) := fun i p hp => by
    have e : ps.take (i + 1) = ps.take i ++ [p] := by rw [List.take_add_one,hp]; rfl
    rw [← hA,← hA,e,List.flatMap_append,List.flatMap_singleton]
  have hBS : ∀ i p,ps[i]? = some p → B i = rep p.t (otx T S p.id) ++ B (i + 1) := fun i p hp => by
    obtain ⟨hi,rfl⟩ := List.getElem?_eq_some_iff.1 hp
    rw [← hB,← hB,← List.getElem_cons_drop hi,List.flatMap_cons]
  have hAl : ∀ i,(A i).length ≤ LM := fun i => by
    have := congrArg List.length (hAB i)
    rw [List.length_append] at this
    omega
  (repeat' ((conv => whnf); first | (refine bcase_prop (fun h => ?_) (fun h => ?_) <;> try (exfalso; omega)) | (refine bcase_nprop (fun h => ?_) (fun h => ?_) <;> try (exfalso; omega)) | (refine bcase_intro (fun h => ?_) (fun h => ?_) <;> (try simp only [Bool.not_eq_true',Bool.not_eq_false',decide_eq_true_eq,decide_eq_false_iff_not,Bool.not_eq_true,Bool.not_eq_false,Decidable.not_not] at h)) | refine pay ?_ | intro _)); (all_goals (conv => whnf))
  refine VC_loop TfG (fun x => [(0,.v (pS bt)),(1,.v (.slice a ps.length c)),(2,.v (.int .i64 (runE T.M q (A x.i)))),(7,.v (.int .i64 (A x.i).length)),(12,.v (.slice a ps.length c)),(13,.v (.int .i64 ps.length)),(14,.v (.int .i64 x.i))])
    (fun x => [packE 78 x.f1 (fX bt bs T S.E),packE 77 x.f2 (fS bs S)]) (fun x => x.i ≤ ps.length ∧ runH T.M T.H q (A x.i) = 0) (fun x => ps.length - x.i) ⟨0,fp1,fp2⟩ ⟨Nat.zero_le _,by rw [hA0]; rfl⟩ (by rw [hA0]; (repeat ((conv => whnf); refine And.intro (by first | exact rfl | exact vint_eq (by omega) | exact vint_eq (by (dsimp only; omega)) | exact vsl_eq (by omega) | exact vsl_eq (by first | (dsimp only; omega) | (simp; done) | (simp; omega))) ?_)); exact trivial) (Ref.takes [78,77] rfl (.packE (.packE (.nil _)))) ?_
  rintro ⟨i,g1,g2⟩ ⟨hi,hz⟩
  dsimp only at hi hz ⊢
  by_cases hlt : i < ps.length
  case neg =>
    obtain rfl : i = ps.length := by omega
    rw [show fstH T.M T.H q X = 0 from fstH_zero.2 (by rw [hAE]; exact hz)]
    (repeat' ((conv => whnf); first | refine ⟨_,⟨rfl,trivial⟩,?_⟩ | (refine bcase_prop (fun h => ?_) (fun h => ?_) <;> try (exfalso; omega)) | (refine bcase_nprop (fun h => ?_) (fun h => ?_) <;> try (exfalso; omega)) | (refine bcase_intro (fun h => ?_) (fun h => ?_) <;> (try simp only [Bool.not_eq_true',Bool.not_eq_false',decide_eq_true_eq,decide_eq_false_iff_not,Bool.not_eq_true,Bool.not_eq_false,Decidable.not_not] at h)) | refine pay ?_ | intro _)); (all_goals (conv => whnf))
    all_goals first | (exfalso; omega) | skip
    exact ⟨endXP (Ref.takes [78,77] rfl (Thin.refl _)) rfl⟩
  obtain ⟨p,hp⟩ : ∃ p,ps[i]? = some p := ⟨_,List.getElem?_eq_getElem hlt⟩
  have hpm := hP.id p (List.mem_of_getElem? hp)
  have rd := fun {L : List Ent} => In.rdn (L := L) (vs := ptC p) (k := i * 3) hin (Nat.succ_pos _) (pts_at hp)
  have nr : a ≠ none := hin.ne' (k := i * 3) (by rw [pts_len]; omega)
  have q0 : ((i : Nat) : Int).toNat = i := by omega
  have kp : known S p.id := ⟨by omega,hpm.2.1⟩
  have htb : p.t ≤ LM := by
    have : p.t * 1 ≤ LM := Nat.le_trans (Nat.mul_le_mul_left _ hpm.2.2.2.2) hpm.2.2.2.1
    omega
  have c4 := calls_Skip bt bs h kp (hstl i) p.t (by omega)
  have c5 := calls_scSize bt bs h kp
  have hAS := hAS i p hp
  have hBS := hBS i p hp
  have hAl1 := hAl (i + 1)
  have hAl0 := hAl i
  have hs := skp_spec (M := T.M) (H := T.H) (u := otx T S p.id) (t := p.t) (q := runE T.M q (A i))
  have hFX : fstH T.M T.H q X = if fstH T.M T.H (runE T.M q (A i)) (B i) = 0 then 0 else (A i).length + fstH T.M T.H (runE T.M q (A i)) (B i) := by
    rw [hAB i,fstH_append,if_pos (fstH_zero.2 hz)]
  have hFl := fstH_le (M := T.M) (H := T.H) q X
  have hP2 : ((skp T.M T.H (otx T S p.id) (runE T.M q (A i)) p.t : Nat) : Int) * ((tm S.E p.id).len : Nat) = ((skp T.M T.H (otx T S p.id) (runE T.M q (A i)) p.t * (tm S.E p.id).len : Nat) : Int) := (Int.natCast_mul ..).symm
  have hle2 : skp T.M T.H (otx T S p.id) (runE T.M q (A i)) p.t * (tm S.E p.id).len ≤ p.t * (tm S.E p.id).len := Nat.mul_le_mul_right _ hs.le
  have hA1 : (A (i + 1)).length = (A i).length + p.t * (tm S.E p.id).len := by rw [hAS,List.length_append,len_rep,otx_len]
  have hzz : skp T.M T.H (otx T S p.id) (runE T.M q (A i)) p.t = p.t → runH T.M T.H q (A (i + 1)) = 0 ∧ runE T.M q (A (i + 1)) = orb T.M (otx T S p.id) (runE T.M q (A i)) p.t := fun e => by
    have hn := runH_rep_zero hs.no
    rw [e] at hn
    exact ⟨by rw [hAS,runH_append,hz,hn],by rw [hAS,runE_append]; rfl⟩
  by_cases hc : skp T.M T.H (otx T S p.id) (runE T.M q (A i)) p.t < p.t
  · have hf := fstH_rep hs hc
    have hhit := hs.hit hc
    have hql := orb_lt h.ok.m (h.byt kp) (hstl i) (skp T.M T.H (otx T S p.id) (runE T.M q (A i)) p.t)
    have c6 := calls_sfirst bt bs h hpm.1 hpm.2.1 hql hhit
    have hne : fstH T.M T.H (orb T.M (otx T S p.id) (runE T.M q (A i)) (skp T.M T.H (otx T S p.id) (runE T.M q (A i)) p.t)) (otx T S p.id) ≠ 0 := fun e => by have := fstH_zero.1 e; omega
    have hBi : fstH T.M T.H (runE T.M q (A i)) (B i) = skp T.M T.H (otx T S p.id) (runE T.M q (A i)) p.t * (tm S.E p.id).len + fstH T.M T.H (orb T.M (otx T S p.id) (runE T.M q (A i)) (skp T.M T.H (otx T S p.id) (runE T.M q (A i)) p.t)) (otx T S p.id) := by
      rw [hBS,fstH_append,if_neg (by rw [hf]; omega),hf,otx_len]
    rw [hBi,if_neg (by omega)] at hFX
    generalize orb T.M (otx T S p.id) (runE T.M q (A i)) (skp T.M T.H (otx T S p.id) (runE T.M q (A i)) p.t) = q2 at *
    generalize skp T.M T.H (otx T S p.id) (runE T.M q (A i)) p.t = C at *
    generalize fstH T.M T.H q2 (otx T S p.id) = F2 at *
    generalize fstH T.M T.H q X = FX at *
    obtain ⟨id,pw,t⟩ := p
    dsimp only [ptC] at *
    generalize C * (tm S.E id).len = P at *
    (repeat' ((conv => whnf); first | rw [q0] | rw [hP2] | refine ⟨[.int .i64 id,.int .i64 pw,.int .i64 t],rfl,rd,?_⟩ | refine XC.go 78 77 c4 rfl rfl fun fp1' fp2' => ?_ | refine XC.go 78 77 c5 rfl rfl fun fp1' fp2' => ?_ | refine XC.go 78 77 c6 rfl rfl fun fp1' fp2' => ?_ | refine ⟨_,⟨rfl,trivial⟩,?_⟩ | (refine bcase_prop (fun h => ?_) (fun h => ?_) <;> try (exfalso; omega)) | (refine bcase_nprop (fun h => ?_) (fun h => ?_) <;> try (exfalso; omega)) | (refine bcase_intro (fun h => ?_) (fun h => ?_) <;> (try simp only [Bool.not_eq_true',Bool.not_eq_false',decide_eq_true_eq,decide_eq_false_iff_not,Bool.not_eq_true,Bool.not_eq_false,Decidable.not_not] at h)) | refine pay ?_ | intro _)); (all_goals (conv => whnf))
    all_goals first | (exfalso; omega) | skip
    refine ⟨endXP (Ref.takes [78,77] rfl (Thin.refl _)) ?_⟩
    congr 1; omega
  · have he : skp T.M T.H (otx T S p.id) (runE T.M q (A i)) p.t = p.t := Nat.le_antisymm hs.le (by omega)
    obtain ⟨z1,z2⟩ := hzz he
    rw [he] at c4 hP2
    rw [← z2] at c4
    obtain ⟨q2,hq2⟩ : ∃ q2,runE T.M q (A (i + 1)) = q2 := ⟨_,rfl⟩
    rw [hq2] at c4
    obtain ⟨id,pw,t⟩ := p
    dsimp only [ptC] at *
    generalize t * (tm S.E id).len = P at *
    (repeat' ((conv => whnf); first | rw [q0] | rw [hP2] | refine ⟨[.int .i64 id,.int .i64 pw,.int .i64 t],rfl,rd,?_⟩ | refine XC.go 78 77 c4 rfl rfl fun fp1' fp2' => ?_ | refine XC.go 78 77 c5 rfl rfl fun fp1' fp2' => ?_ | refine ⟨_,⟨rfl,trivial⟩,?_⟩ | (refine bcase_prop (fun h => ?_) (fun h => ?_) <;> try (exfalso; omega)) | (refine bcase_nprop (fun h => ?_) (fun h => ?_) <;> try (exfalso; omega)) | (refine bcase_intro (fun h => ?_) (fun h => ?_) <;> (try simp only [Bool.not_eq_true',Bool.not_eq_false',decide_eq_true_eq,decide_eq_false_iff_not,Bool.not_eq_true,Bool.not_eq_false,Decidable.not_not] at h)) | refine pay ?_ | intro _)); (all_goals (conv => whnf))
    all_goals first | (exfalso; omega) | skip
    subst hq2
    exact loop_next ⟨i + 1,_,_⟩ ⟨hlt,z1⟩ (show ps.length - (i + 1) < ps.length - i by omega) (by (repeat ((conv => whnf); refine And.intro (by first | exact rfl | exact vint_eq (by omega) | exact vint_eq (by (dsimp only; omega)) | exact vsl_eq (by omega) | exact vsl_eq (by first | (dsimp only; omega) | (simp; done) | (simp; omega))) ?_)); exact trivial) (Ref.takes [78,77] rfl (.packE (.packE (.nil _))))
end Go.Proofs.Ytjmlialibdobpaa
/- The last hit of a text: the program. -/
namespace Go.Proofs.Ytjmlialibdobpaa
open Go.EG
attribute [local irreducible] CallK QCall Go.Calls
set_option linter.unusedSimpArgs false
set_option linter.unusedVariables false
set_option maxRecDepth 20000
set_option maxHeartbeats 4000000
def lcp (M : Mch) (H : List Int) (u : List Nat) (q : Nat) : Nat → Nat
  | 0 => 0
  | t + 1 => if 0 < runH M H (orb M u q t) u then t else lcp M H u q t
structure Lcp (M : Mch) (H : List Int) (u : List Nat) (q t j : Nat) : Prop where
  lt : j < t
  hit : 0 < runH M H (orb M u q j) u
  no : ∀ i,j < i → i < t → runH M H (orb M u q i) u = 0
theorem lcp_spec {M : Mch} {H : List Int} {u : List Nat} {q : Nat} : ∀ {t : Nat},0 < runH M H q (rep t u) → Lcp M H u q t (lcp M H u q t)
  | 0,h => absurd h (by show ¬ 0 < 0; omega)
  | t + 1,h => by
    rw [lcp]
    by_cases hh : 0 < runH M H (orb M u q t) u
    · rw [if_pos hh]
      exact ⟨Nat.lt_succ_self t,hh,fun i h1 h2 => by omega⟩
    · rw [if_neg hh]
      rw [runH_rep] at h
      have ih := lcp_spec (t := t) (M := M) (H := H) (u := u) (q := q) (by omega)
      refine ⟨Nat.lt_succ_of_lt ih.lt,ih.hit,fun i h1 h2 => ?_⟩
      by_cases hi : i = t
      · subst hi; omega
      · exact ih.no i h1 (by omega)
theorem Lcp.uniq {M : Mch} {H : List Int} {u : List Nat} {q t c d : Nat} (h : Lcp M H u q t c) (k : Lcp M H u q t d) : c = d := by
  rcases Nat.lt_trichotomy c d with hl | hl | hl
  · have h1 := h.no d hl k.lt
    have h2 := k.hit
    omega
  · exact hl
  · have h1 := k.no c hl h.lt
    have h2 := h.hit
    omega
theorem Lcp.pos {M : Mch} {H : List Int} {u : List Nat} {q t j : Nat} (h : Lcp M H u q t j) : 0 < runH M H q (rep t u) := by
  have h1 := h.hit
  rw [show t = j + (1 + (t - j - 1)) by have := h.lt; omega,runH_rep_add,runH_rep_add,rep_one]
  omega
theorem lstH_rep {M : Mch} {H : List Int} {u : List Nat} {q t j : Nat} (h : Lcp M H u q t j) : lstH M H q (rep t u) = j * u.length + lstH M H (orb M u q j) u := by
  have h0 : runH M H (orb M u q (j + 1)) (rep (t - j - 1) u) = 0 := runH_rep_zero fun i hi => by
    rw [← orb_add]; exact h.no _ (by omega) (by have := h.lt; omega)
  have h2 : lstH M H (orb M u q j) u ≠ 0 := fun e => by
    have := lstH_zero.1 e; have := h.hit; omega
  have h3 : lstH M H (orb M u q j) (u ++ rep (t - j - 1) u) = lstH M H (orb M u q j) u := by
    rw [lstH_append,if_pos]
    rw [lstH_zero,← orb_succ]; exact h0
  rw [show t = j + (1 + (t - j - 1)) by have := h.lt; omega,rep_add,lstH_append,rep_add,rep_one]
  show (if lstH M H (orb M u q j) (u ++ _) = 0 then _ else _ + lstH M H (orb M u q j) (u ++ _)) = _
  rw [h3,if_neg h2,len_rep]
structure LcG where
  i : Nat
  t : Nat
  f1 : List Nat
  f2 : List Nat
theorem calls_lastCopy {T : Tb} {kk : Nat} {S : Sto} (bt bs : Nat) (h : ScOk T kk S) {n : Int} (hk : known S n) {q : Nat} (hq : q < T.M.nx.length) (times : Nat) (ht : times ≤ 4611686018427387904) (hh : 0 < runH T.M T.H q (rep times (otx T S n))) :
    XC fn_scan_lastCopy #[pS bt,.int .i64 n,.int .i64 q,.int .i64 times] bt bs T S (.tuple #[.int .i64 (lcp T.M T.H (otx T S n) q times : Nat),.int .i64 (orb T.M (otx T S n) q (lcp T.M T.H (otx T S n) q times) : Nat)]) := by
  intro k1 k2 fp1 fp2 w hR
  have hR : R w (fp1 ++ fp2) [packE 78 fp1 (fX bt bs T S.E),packE 77 fp2 (fS bs S)] w := (Thin.packE (Thin.packE (.nil []))).ref w hR
  refine part_call [.v (pS bt),.v (.int .i64 n),.v (.int .i64 q),.v (.int .i64 times)] ok_scan_lastCopy (by simp) hR ?_
  have cH := fun q hq => calls_scHit bt bs h hk (q := q) hq
  have cF := fun k1 k2 fp1 fp2 w hR => calls_Follow bt bs h hk hq times (by omega) k1 k2 fp1 fp2 w hR
  have cA := fun {m tl : Nat} (hF : Fol T.M (otx T S n) q times m tl) a c j hj w hin => calls_OAt hF a c j hj (by omega) w hin
  have hlt := orb_lt h.ok.m (h.byt hk) hq
  have hsp := lcp_spec hh
  generalize otx T S n = u at *
  generalize lcp T.M T.H u q times = C at *
  have htp : 0 < times := by have := hsp.lt; omega
  (repeat' ((conv => whnf); first | (refine CallK_pack2 (key1 := 78) (key2 := 77) rfl rfl (fun w hR h0 => cF _ _ _ _ _ h0) ?_; rintro _ _ ⟨m,tl,aF,cF2,y1,y2,rfl,hF,hm,rfl⟩; refine ⟨.v _,rfl,?_⟩) | refine ⟨_,⟨rfl,trivial⟩,?_⟩ | (refine bcase_prop (fun h => ?_) (fun h => ?_) <;> try (exfalso; omega)) | (refine bcase_nprop (fun h => ?_) (fun h => ?_) <;> try (exfalso; omega)) | (refine bcase_intro (fun h => ?_) (fun h => ?_) <;> (try simp only [Bool.not_eq_true',Bool.not_eq_false',decide_eq_true_eq,decide_eq_false_iff_not,Bool.not_eq_true,Bool.not_eq_false,Decidable.not_not] at h)) | refine pay ?_ | intro _)); (all_goals (conv => whnf))
  all_goals first | (exfalso; omega) | skip
  rename_i b10
  have hl := orbI_len T.M u q m
  refine VC_cut LcG (fun x => [(0,.v (pS bt)),(1,.v (.int .i64 n)),(2,.v (.int .i64 q)),(3,.v (.int .i64 x.t)),(10,.ptr 10 b10 0)])
    (fun x => [packE 78 x.f1 (fX bt bs T S.E),packE 77 x.f2 (fS bs S),.box 10 b10 [.slice aF m cF2,.int .i64 (tl : Nat)] ty_scan_Orbit,.own 890 aF m cF2 ty_int 1 (ints .i64 ((orbL T.M u q m).map Int.ofNat))])
    (fun x => x.t ≤ times ∧ x.t ≤ m ∧ ∀ j,x.t ≤ j → j < times → runH T.M T.H (orb T.M u q j) u = 0) ?_ ?_
  · by_cases hgt : m < times
    case neg =>
      have hmt : times ≤ m := by omega
      (repeat' ((conv => whnf); first | refine ⟨.sl 890 _ _ _,⟨rfl,rfl,rfl,rfl⟩,?_⟩ | refine ⟨_,⟨rfl,trivial⟩,?_⟩ | (refine bcase_prop (fun h => ?_) (fun h => ?_) <;> try (exfalso; omega)) | (refine bcase_nprop (fun h => ?_) (fun h => ?_) <;> try (exfalso; omega)) | (refine bcase_intro (fun h => ?_) (fun h => ?_) <;> (try simp only [Bool.not_eq_true',Bool.not_eq_false',decide_eq_true_eq,decide_eq_false_iff_not,Bool.not_eq_true,Bool.not_eq_false,Decidable.not_not] at h)) | refine pay ?_ | intro _)); (all_goals (conv => whnf))
      all_goals first | (exfalso; omega) | skip
      exact cut_next ⟨0,times,_,_⟩ ⟨Nat.le_refl _,hmt,fun j h1 h2 => absurd h2 (Nat.not_lt.2 h1)⟩ (by (repeat ((conv => whnf); refine And.intro (by first | exact rfl | exact vint_eq (by omega) | exact vint_eq (by (dsimp only; omega)) | exact vsl_eq (by omega) | exact vsl_eq (by first | (dsimp only; omega) | (simp; done) | (simp; omega))) ?_)); exact trivial) (Ref.takes [78,77,10,890] rfl (.packE (.packE (Thin.refl _))))
    obtain ⟨hmt,htl,hcy⟩ : m ≤ times ∧ tl < m ∧ orb T.M u q m = orb T.M u q tl := by
      rcases hF.out with h1 | h1
      · omega
      · exact h1
    have hcy2 : orb T.M u q (tl + (m - tl)) = orb T.M u q tl := by rw [Nat.add_sub_cancel' (by omega)]; exact hcy
    (repeat' ((conv => whnf); first | refine ⟨_,⟨rfl,trivial⟩,?_⟩ | (refine bcase_prop (fun h => ?_) (fun h => ?_) <;> try (exfalso; omega)) | (refine bcase_nprop (fun h => ?_) (fun h => ?_) <;> try (exfalso; omega)) | (refine bcase_intro (fun h => ?_) (fun h => ?_) <;> (try simp only [Bool.not_eq_true',Bool.not_eq_false',decide_eq_true_eq,decide_eq_false_iff_not,Bool.not_eq_true,Bool.not_eq_false,Decidable.not_not] at h)) | refine pay ?_ | intro _)); (all_goals (conv => whnf))
    all_goals first | (exfalso; omega) | skip
    refine VC_loop LcG (fun x => [(0,.v (pS bt)),(1,.v (.int .i64 n)),(2,.v (.int .i64 q)),(3,.v (.int .i64 times)),(10,.ptr 10 b10 0),(11,.v (.int .i64 m)),(12,.v (.int .i64 ((times : Int) - 1 - x.i)))])
      (fun x => [packE 78 x.f1 (fX bt bs T S.E),packE 77 x.f2 (fS bs S),.box 10 b10 [.slice aF m cF2,.int .i64 (tl : Nat)] ty_scan_Orbit,.own 890 aF m cF2 ty_int 1 (ints .i64 ((orbL T.M u q m).map Int.ofNat))])
      (fun x => x.i ≤ m - tl ∧ ∀ j,times - x.i ≤ j → j < times → runH T.M T.H (orb T.M u q j) u = 0) (fun x => m - x.i) ⟨0,0,_,_⟩ ⟨Nat.zero_le _,fun j h1 h2 => absurd h2 (Nat.not_lt.2 h1)⟩ (by (repeat ((conv => whnf); refine And.intro (by first | exact rfl | exact vint_eq (by omega) | exact vint_eq (by (dsimp only; omega)) | exact vsl_eq (by omega) | exact vsl_eq (by first | (dsimp only; omega) | (simp; done) | (simp; omega))) ?_)); exact trivial) (Ref.takes [78,77,10,890] rfl (.packE (.packE (Thin.refl _)))) ?_
    rintro ⟨k,t0,z1,z2⟩ ⟨hk2,hno⟩
    dsimp only at hk2 hno ⊢
    by_cases hlt2 : k < m - tl
    · have hc0 : (times : Int) - 1 - (k : Int) = ((times - 1 - k : Nat) : Int) := by omega
      have cA2 := fun w hin => cA hF aF cF2 (times - 1 - k) (by omega) w hin
      have cH2 := cH _ (hlt (times - 1 - k))
      rw [hc0]
      by_cases hit : 0 < runH T.M T.H (orb T.M u q (times - 1 - k)) u
      · rw [decide_eq_true hit] at cH2
        obtain rfl : times - 1 - k = C := Lcp.uniq ⟨by omega,hit,fun j h1 h2 => hno j (by omega) h2⟩ hsp
        (repeat' ((conv => whnf); first | (refine CallK_pure (.v _) (fun w' hR => cA2 w' (In.ownR (key := 890) hR rfl)) ?_) | refine XC.go 78 77 cH2 rfl rfl fun fp1' fp2' => ?_ | refine ⟨_,⟨rfl,trivial⟩,?_⟩ | (refine bcase_prop (fun h => ?_) (fun h => ?_) <;> try (exfalso; omega)) | (refine bcase_nprop (fun h => ?_) (fun h => ?_) <;> try (exfalso; omega)) | (refine bcase_intro (fun h => ?_) (fun h => ?_) <;> (try simp only [Bool.not_eq_true',Bool.not_eq_false',decide_eq_true_eq,decide_eq_false_iff_not,Bool.not_eq_true,Bool.not_eq_false,Decidable.not_not] at h)) | refine pay ?_ | intro _)); (all_goals (conv => whnf))
        all_goals first | (exfalso; omega) | skip
        exact ⟨endXP (Ref.takes [78,77] rfl (Thin.refl _)) rfl⟩
      · rw [decide_eq_false hit] at cH2
        (repeat' ((conv => whnf); first | (refine CallK_pure (.v _) (fun w' hR => cA2 w' (In.ownR (key := 890) hR rfl)) ?_) | refine XC.go 78 77 cH2 rfl rfl fun fp1' fp2' => ?_ | refine ⟨_,⟨rfl,trivial⟩,?_⟩ | (refine bcase_prop (fun h => ?_) (fun h => ?_) <;> try (exfalso; omega)) | (refine bcase_nprop (fun h => ?_) (fun h => ?_) <;> try (exfalso; omega)) | (refine bcase_intro (fun h => ?_) (fun h => ?_) <;> (try simp only [Bool.not_eq_true',Bool.not_eq_false',decide_eq_true_eq,decide_eq_false_iff_not,Bool.not_eq_true,Bool.not_eq_false,Decidable.not_not] at h)) | refine pay ?_ | intro _)); (all_goals (conv => whnf))
        all_goals first | (exfalso; omega) | skip
        refine loop_next ⟨k + 1,0,_,_⟩ ⟨hlt2,fun j h1 h2 => ?_⟩ (show m - (k + 1) < m - k by omega) (by (repeat ((conv => whnf); refine And.intro (by first | exact rfl | exact vint_eq (by omega) | exact vint_eq (by (dsimp only; omega)) | exact vsl_eq (by omega) | exact vsl_eq (by first | (dsimp only; omega) | (simp; done) | (simp; omega))) ?_)); exact trivial) (Ref.takes [78,77,10,890] rfl (.packE (.packE (Thin.refl _))))
        by_cases hj : j = times - 1 - k
        · subst hj; omega
        · exact hno j (by dsimp only at h1; omega) h2
    · obtain rfl : k = m - tl := by omega
      have hno2 : ∀ j,tl ≤ j → j < times → runH T.M T.H (orb T.M u q j) u = 0 := fun j h1 h2 => by
        by_cases hj : times - (m - tl) ≤ j
        · exact hno j hj h2
        · -- the same state comes again among the last ones
          obtain ⟨e,he1,he2⟩ : ∃ e,(times - (m - tl) ≤ e ∧ e < times) ∧ orb T.M u q e = orb T.M u q j := by
            refine ⟨j + (times - 1 - j) / (m - tl) * (m - tl),?_,?_⟩
            · have d := Nat.div_add_mod (times - 1 - j) (m - tl)
              have l := Nat.mod_lt (times - 1 - j) (show 0 < m - tl by omega)
              rw [Nat.mul_comm] at d
              generalize (times - 1 - j) / (m - tl) * (m - tl) = D at *
              omega
            · have := orb_cyc hcy2 ((times - 1 - j) / (m - tl)) (j - tl)
              rw [Nat.add_sub_cancel' h1] at this
              exact this
          rw [← he2]; exact hno e he1.1 he1.2
      (repeat' ((conv => whnf); first | refine ⟨_,⟨rfl,trivial⟩,?_⟩ | (refine bcase_prop (fun h => ?_) (fun h => ?_) <;> try (exfalso; omega)) | (refine bcase_nprop (fun h => ?_) (fun h => ?_) <;> try (exfalso; omega)) | (refine bcase_intro (fun h => ?_) (fun h => ?_) <;> (try simp only [Bool.not_eq_true',Bool.not_eq_false',decide_eq_true_eq,decide_eq_false_iff_not,Bool.not_eq_true,Bool.not_eq_false,Decidable.not_not] at h)) | refine pay ?_ | intro _)); (all_goals (conv => whnf))
      all_goals first | (exfalso; omega) | skip
      exact cut_next ⟨0,tl,_,_⟩ ⟨by dsimp only; omega,by dsimp only; omega,hno2⟩ (by (repeat ((conv => whnf); refine And.intro (by first | exact rfl | exact vint_eq (by omega) | exact vint_eq (by (dsimp only; omega)) | exact vsl_eq (by omega) | exact vsl_eq (by first | (dsimp only; omega) | (simp; done) | (simp; omega))) ?_)); exact trivial) (Ref.takes [78,77,10,890] rfl (.packE (.packE (Thin.refl _))))
  · rintro ⟨_,t',z1,z2⟩ ⟨ht1,ht2,hno⟩
    dsimp only at ht1 ht2 hno ⊢
    (repeat' ((conv => whnf); first | refine ⟨_,⟨rfl,trivial⟩,?_⟩ | (refine bcase_prop (fun h => ?_) (fun h => ?_) <;> try (exfalso; omega)) | (refine bcase_nprop (fun h => ?_) (fun h => ?_) <;> try (exfalso; omega)) | (refine bcase_intro (fun h => ?_) (fun h => ?_) <;> (try simp only [Bool.not_eq_true',Bool.not_eq_false',decide_eq_true_eq,decide_eq_false_iff_not,Bool.not_eq_true,Bool.not_eq_false,Decidable.not_not] at h)) | refine pay ?_ | intro _)); (all_goals (conv => whnf))
    all_goals first | (exfalso; omega) | skip
    refine VC_loop LcG (fun x => [(0,.v (pS bt)),(1,.v (.int .i64 n)),(2,.v (.int .i64 q)),(10,.ptr 10 b10 0),(13,.v (.int .i64 ((t' : Int) - 1 - x.i)))])
      (fun x => [packE 78 x.f1 (fX bt bs T S.E),packE 77 x.f2 (fS bs S),.box 10 b10 [.slice aF m cF2,.int .i64 (tl : Nat)] ty_scan_Orbit,.own 890 aF m cF2 ty_int 1 (ints .i64 ((orbL T.M u q m).map Int.ofNat))])
      (fun x => x.i ≤ t' ∧ ∀ j,t' - x.i ≤ j → j < times → runH T.M T.H (orb T.M u q j) u = 0) (fun x => t' - x.i) ⟨0,0,_,_⟩ ⟨Nat.zero_le _,fun j h1 h2 => hno j h1 h2⟩ (by (repeat ((conv => whnf); refine And.intro (by first | exact rfl | exact vint_eq (by omega) | exact vint_eq (by (dsimp only; omega)) | exact vsl_eq (by omega) | exact vsl_eq (by first | (dsimp only; omega) | (simp; done) | (simp; omega))) ?_)); exact trivial) (Ref.takes [78,77,10,890] rfl (.packE (.packE (Thin.refl _)))) ?_
    clear hno
    rintro ⟨k,t0,z1,z2⟩ ⟨hk2,hno⟩
    dsimp only at hk2 hno ⊢
    by_cases hlt2 : k + 1 < t'
    · have hc0 : (t' : Int) - 1 - (k : Int) = ((t' - 1 - k : Nat) : Int) := by omega
      have cH2 := cH _ (hlt (t' - 1 - k))
      have q1 : Go.EG.intOf (atL (ints .i64 ((orbL T.M u q m).map Int.ofNat)) (t' - 1 - k)) = (orb T.M u q (t' - 1 - k) : Int) := by rw [intOf_ints (by omega),orbI_get (by omega)]
      have k1' := isK_ints (k := .i64) (zs := (orbL T.M u q m).map Int.ofNat) (i := t' - 1 - k) (by omega)
      have q2 : ((t' - 1 - k : Nat) : Int).toNat = t' - 1 - k := by omega
      rw [hc0]
      by_cases hit : 0 < runH T.M T.H (orb T.M u q (t' - 1 - k)) u
      · rw [decide_eq_true hit] at cH2
        obtain hCe : t' - 1 - k = C := Lcp.uniq ⟨by omega,hit,fun j h1 h2 => hno j (by omega) h2⟩ hsp
        (repeat' ((conv => whnf); first | rw [q2] | rw [Nat.mul_one] | rw [q1] | refine XC.go 78 77 cH2 rfl rfl fun fp1' fp2' => ?_ | refine ⟨.sl 890 _ _ _,⟨rfl,rfl,rfl,rfl⟩,?_⟩ | refine ⟨_,⟨rfl,trivial⟩,?_⟩ | (refine bcase_prop (fun h => ?_) (fun h => ?_) <;> try (exfalso; omega)) | (refine bcase_nprop (fun h => ?_) (fun h => ?_) <;> try (exfalso; omega)) | (refine bcase_intro (fun h => ?_) (fun h => ?_) <;> (try simp only [Bool.not_eq_true',Bool.not_eq_false',decide_eq_true_eq,decide_eq_false_iff_not,Bool.not_eq_true,Bool.not_eq_false,Decidable.not_not] at h)) | refine pay ?_ | refine And.intro (by first | exact k1') ?_ | intro _)); (all_goals (conv => whnf))
        all_goals first | (exfalso; omega) | skip
        subst hCe
        exact ⟨endXP (Ref.takes [78,77] rfl (Thin.refl _)) rfl⟩
      · rw [decide_eq_false hit] at cH2
        (repeat' ((conv => whnf); first | rw [q2] | rw [Nat.mul_one] | rw [q1] | refine XC.go 78 77 cH2 rfl rfl fun fp1' fp2' => ?_ | refine ⟨.sl 890 _ _ _,⟨rfl,rfl,rfl,rfl⟩,?_⟩ | refine ⟨_,⟨rfl,trivial⟩,?_⟩ | (refine bcase_prop (fun h => ?_) (fun h => ?_) <;> try (exfalso; omega)) | (refine bcase_nprop (fun h => ?_) (fun h => ?_) <;> try (exfalso; omega)) | (refine bcase_intro (fun h => ?_) (fun h => ?_) <;> (try simp only [Bool.not_eq_true',Bool.not_eq_false',decide_eq_true_eq,decide_eq_false_iff_not,Bool.not_eq_true,Bool.not_eq_false,Decidable.not_not] at h)) | refine pay ?_ | refine And.intro (by first | exact k1') ?_ | intro _)); (all_goals (conv => whnf))
        all_goals first | (exfalso; omega) | skip
        refine loop_next ⟨k + 1,0,_,_⟩ ⟨by dsimp only; omega,fun j h1 h2 => ?_⟩ (show t' - (k + 1) < t' - k by omega) (by (repeat ((conv => whnf); refine And.intro (by first | exact rfl | exact vint_eq (by omega) | exact vint_eq (by (dsimp only; omega)) | exact vsl_eq (by omega) | exact vsl_eq (by first | (dsimp only; omega) | (simp; done) | (simp; omega))) ?_)); exact trivial) (Ref.takes [78,77,10,890] rfl (.packE (.packE (Thin.refl _))))
        by_cases hj : j = t' - 1 - k
        · subst hj; omega
        · exact hno j (by dsimp only at h1; omega) h2
    · obtain rfl : C = 0 := by
        rcases Nat.eq_zero_or_pos C with h0 | h0
        · exact h0
        · have h1 := hsp.hit
          have h2 := hno C (by omega) hsp.lt
          omega
      (repeat' ((conv => whnf); first | refine ⟨_,⟨rfl,trivial⟩,?_⟩ | (refine bcase_prop (fun h => ?_) (fun h => ?_) <;> try (exfalso; omega)) | (refine bcase_nprop (fun h => ?_) (fun h => ?_) <;> try (exfalso; omega)) | (refine bcase_intro (fun h => ?_) (fun h => ?_) <;> (try simp only [Bool.not_eq_true',Bool.not_eq_false',decide_eq_true_eq,decide_eq_false_iff_not,Bool.not_eq_true,Bool.not_eq_false,Decidable.not_not] at h)) | refine pay ?_ | intro _)); (all_goals (conv => whnf))
      all_goals first | (exfalso; omega) | skip
      exact ⟨endXP (Ref.takes [78,77] rfl (Thin.refl _)) rfl⟩
end Go.Proofs.Ytjmlialibdobpaa
/- The last hit of a text,and of parts: the program. -/
namespace Go.Proofs.Ytjmlialibdobpaa
open Go.EG
attribute [local irreducible] CallK QCall Go.Calls
set_option linter.unusedSimpArgs false
set_option linter.unusedVariables false
set_option maxRecDepth 20000
set_option maxHeartbeats 4000000
theorem calls_slast {T : Tb} {kk : Nat} {S : Sto} (bt bs : Nat) (h : ScOk T kk S) {n : Int} (h1 : 1 ≤ n) (h2 : n ≤ S.E.length) {q : Nat} (hq : q < T.M.nx.length) (hr : 0 < runH T.M T.H q (otx T S n)) :
    XC fn_scan_last #[pS bt,.int .i64 n,.int .i64 q] bt bs T S (.int .i64 (lstH T.M T.H q (otx T S n) : Nat)) := by
  intro k1 k2 fp1 fp2 w hR
  have hR : R w (fp1 ++ fp2) [packE 78 fp1 (fX bt bs T S.E),packE 77 fp2 (fS bs S)] w := (Thin.packE (Thin.packE (.nil []))).ref w hR
  refine part_call [.v (pS bt),.v (.int .i64 n),.v (.int .i64 q)] ok_scan_last (by simp) hR ?_
  have hLM : LM = 1152921504606846976 := rfl
  have hle0 := lstH_le (M := T.M) (H := T.H) q (otx T S n)
  rw [otx_len] at hle0
  have hle1 := h.wf.le h2
  obtain ⟨F,hF⟩ : ∃ F,lstH T.M T.H q (otx T S n) = F := ⟨_,rfl⟩
  rw [hF] at hle0 ⊢
  have hFle : F ≤ LM := by omega
  have c1 := calls_TStore2 bt bs T S.E
  (repeat' ((conv => whnf); first | (refine bcase_prop (fun h => ?_) (fun h => ?_) <;> try (exfalso; omega)) | (refine bcase_nprop (fun h => ?_) (fun h => ?_) <;> try (exfalso; omega)) | (refine bcase_intro (fun h => ?_) (fun h => ?_) <;> (try simp only [Bool.not_eq_true',Bool.not_eq_false',decide_eq_true_eq,decide_eq_false_iff_not,Bool.not_eq_true,Bool.not_eq_false,Decidable.not_not] at h)) | refine pay ?_ | intro _)); (all_goals (conv => whnf))
  refine VC_loop FsG (fun x => [(0,.v (pS bt)),(1,.v (.int .i64 x.id)),(2,.v (.int .i64 x.q)),(7,.v (.int .i64 x.rd))])
    (fun x => [packE 78 x.f1 (fX bt bs T S.E),packE 77 x.f2 (fS bs S)])
    (fun x => (1 ≤ x.id ∧ x.id ≤ S.E.length) ∧ x.q < T.M.nx.length ∧ 0 < runH T.M T.H x.q (otx T S x.id) ∧ x.rd + lstH T.M T.H x.q (otx T S x.id) = F) (fun x => x.id.toNat) ⟨n,q,0,fp1,fp2⟩ ⟨⟨h1,h2⟩,hq,hr,by rw [Nat.zero_add]; exact hF⟩ (by (repeat ((conv => whnf); refine And.intro (by first | exact rfl | exact vint_eq (by omega) | exact vint_eq (by (dsimp only; omega)) | exact vsl_eq (by omega) | exact vsl_eq (by first | (dsimp only; omega) | (simp; done) | (simp; omega))) ?_)); exact trivial) (Ref.takes [78,77] rfl (.packE (.packE (.nil _)))) ?_
  clear hr hF h1 h2 hq hle0 hle1
  rintro ⟨id,q,rd,g1,g2⟩ ⟨⟨h1,h2⟩,hq,hr,hF⟩
  dsimp only at h1 h2 hq hr hF ⊢
  have c2 := calls_Rule bs S id h.wf.small
  rw [ruleV_ok h1 h2] at c2
  have c3 := calls_scChildren bt bs h (atE S.E id).r
  have hv := otx_view h.wf T h1 h2
  generalize (atE S.E id).r = r at *
  rcases hv with ⟨hk,hl⟩ | ⟨hk,he,ha,hb⟩ | ⟨hk,he,ha,ht,hlm,hl1⟩
  · have hf1 : lstH T.M T.H q (otx T S id) = 1 := by
      have := lstH_le (M := T.M) (H := T.H) q (otx T S id)
      have h0 : lstH T.M T.H q (otx T S id) ≠ 0 := fun e => by have := lstH_zero.1 e; omega
      omega
    rw [hf1] at hF
    (repeat' ((conv => whnf); first | (refine CallK_pack (key := 78) rfl (fun w hR h0 => c1 _ _ _ h0) ?_; rintro _ _ ⟨rfl,rfl⟩; refine ⟨.v _,rfl,?_⟩) | refine SC.go 77 c2 rfl fun fp' => ?_ | refine ⟨_,⟨rfl,trivial⟩,?_⟩ | (refine bcase_prop (fun h => ?_) (fun h => ?_) <;> try (exfalso; omega)) | (refine bcase_nprop (fun h => ?_) (fun h => ?_) <;> try (exfalso; omega)) | (refine bcase_intro (fun h => ?_) (fun h => ?_) <;> (try simp only [Bool.not_eq_true',Bool.not_eq_false',decide_eq_true_eq,decide_eq_false_iff_not,Bool.not_eq_true,Bool.not_eq_false,Decidable.not_not] at h)) | refine pay ?_ | intro _)); (all_goals (conv => whnf))
    all_goals first | (exfalso; omega) | skip
    refine ⟨endXP (Ref.takes [78,77] rfl (Thin.refl _)) ?_⟩
    congr 1; omega
  · obtain ⟨f,hf⟩ : ∃ f,(if T.back = true then r.b else r.a) = f := ⟨_,rfl⟩
    obtain ⟨l,hl⟩ : ∃ l,(if T.back = true then r.a else r.b) = l := ⟨_,rfl⟩
    have hfb : 1 ≤ f ∧ f < id := by rw [← hf]; split <;> assumption
    have hlb : 1 ≤ l ∧ l < id := by rw [← hl]; split <;> assumption
    rw [hf,hl] at c3 he
    have kf : known S f := ⟨by omega,by omega⟩
    have kl : known S l := ⟨by omega,by omega⟩
    rw [he] at hr hF
    have c8 := calls_scEnd bt bs h kf hq
    have hlt := h.lt kf hq
    have c6 := calls_scHit bt bs h kl hlt
    by_cases hh : 0 < runH T.M T.H (runE T.M q (otx T S f)) (otx T S l)
    · rw [decide_eq_true hh] at c6
      have hne : lstH T.M T.H (runE T.M q (otx T S f)) (otx T S l) ≠ 0 := fun e => by have := lstH_zero.1 e; omega
      rw [lstH_append,if_neg hne,otx_len] at hF
      have c7 := calls_scSize bt bs h kf
      generalize runE T.M q (otx T S f) = q' at *
      (repeat' ((conv => whnf); first | (refine CallK_pack (key := 78) rfl (fun w hR h0 => c1 _ _ _ h0) ?_; rintro _ _ ⟨rfl,rfl⟩; refine ⟨.v _,rfl,?_⟩) | refine SC.go 77 c2 rfl fun fp' => ?_ | refine XC.go 78 77 c3 rfl rfl fun fp1' fp2' => ?_ | refine XC.go 78 77 c8 rfl rfl fun fp1' fp2' => ?_ | refine XC.go 78 77 c6 rfl rfl fun fp1' fp2' => ?_ | refine XC.go 78 77 c7 rfl rfl fun fp1' fp2' => ?_ | refine ⟨_,⟨rfl,trivial⟩,?_⟩ | (refine bcase_prop (fun h => ?_) (fun h => ?_) <;> try (exfalso; omega)) | (refine bcase_nprop (fun h => ?_) (fun h => ?_) <;> try (exfalso; omega)) | (refine bcase_intro (fun h => ?_) (fun h => ?_) <;> (try simp only [Bool.not_eq_true',Bool.not_eq_false',decide_eq_true_eq,decide_eq_false_iff_not,Bool.not_eq_true,Bool.not_eq_false,Decidable.not_not] at h)) | refine pay ?_ | intro _)); (all_goals (conv => whnf))
      all_goals first | (exfalso; omega) | skip
      exact loop_next ⟨l,q',rd + (tm S.E f).len,_,_⟩ ⟨⟨hlb.1,kl.2⟩,hlt,hh,by rw [← hF,Nat.add_assoc]⟩ (show l.toNat < id.toNat by omega) (by (repeat ((conv => whnf); refine And.intro (by first | exact rfl | exact vint_eq (by omega) | exact vint_eq (by (dsimp only; omega)) | exact vsl_eq (by omega) | exact vsl_eq (by first | (dsimp only; omega) | (simp; done) | (simp; omega))) ?_)); exact trivial) (Ref.takes [78,77] rfl (.packE (.packE (.nil _))))
    · rw [decide_eq_false hh] at c6
      have h0 : runH T.M T.H (runE T.M q (otx T S f)) (otx T S l) = 0 := by omega
      rw [runH_append,h0,Nat.add_zero] at hr
      rw [lstH_append,if_pos (lstH_zero.2 h0)] at hF
      (repeat' ((conv => whnf); first | (refine CallK_pack (key := 78) rfl (fun w hR h0 => c1 _ _ _ h0) ?_; rintro _ _ ⟨rfl,rfl⟩; refine ⟨.v _,rfl,?_⟩) | refine SC.go 77 c2 rfl fun fp' => ?_ | refine XC.go 78 77 c3 rfl rfl fun fp1' fp2' => ?_ | refine XC.go 78 77 c8 rfl rfl fun fp1' fp2' => ?_ | refine XC.go 78 77 c6 rfl rfl fun fp1' fp2' => ?_ | refine ⟨_,⟨rfl,trivial⟩,?_⟩ | (refine bcase_prop (fun h => ?_) (fun h => ?_) <;> try (exfalso; omega)) | (refine bcase_nprop (fun h => ?_) (fun h => ?_) <;> try (exfalso; omega)) | (refine bcase_intro (fun h => ?_) (fun h => ?_) <;> (try simp only [Bool.not_eq_true',Bool.not_eq_false',decide_eq_true_eq,decide_eq_false_iff_not,Bool.not_eq_true,Bool.not_eq_false,Decidable.not_not] at h)) | refine pay ?_ | intro _)); (all_goals (conv => whnf))
      all_goals first | (exfalso; omega) | skip
      exact loop_next ⟨f,q,rd,_,_⟩ ⟨⟨hfb.1,kf.2⟩,hq,hr,hF⟩ (show f.toNat < id.toNat by omega) (by (repeat ((conv => whnf); refine And.intro (by first | exact rfl | exact vint_eq (by omega) | exact vint_eq (by (dsimp only; omega)) | exact vsl_eq (by omega) | exact vsl_eq (by first | (dsimp only; omega) | (simp; done) | (simp; omega))) ?_)); exact trivial) (Ref.takes [78,77] rfl (.packE (.packE (.nil _))))
  · have ka : known S r.a := ⟨by omega,by omega⟩
    rw [he] at hr hF
    have c4 := calls_lastCopy bt bs h ka hq r.t.toNat (by
      have : r.t.toNat * 1 ≤ LM := Nat.le_trans (Nat.mul_le_mul_left _ hl1) hlm
      omega) hr
    rw [show ((r.t.toNat : Nat) : Int) = r.t by omega] at c4
    have hs := lcp_spec hr
    have c5 := calls_scSize bt bs h ka
    have hql := orb_lt h.ok.m (h.byt ka) hq (lcp T.M T.H (otx T S r.a) q r.t.toNat)
    generalize lcp T.M T.H (otx T S r.a) q r.t.toNat = c at *
    have hr2 := hs.hit
    have hlt := hs.lt
    rw [lstH_rep hs,otx_len] at hF
    have hP : ((c : Nat) : Int) * ((tm S.E r.a).len : Nat) = ((c * (tm S.E r.a).len : Nat) : Int) := (Int.natCast_mul ..).symm
    have hPb : c * (tm S.E r.a).len ≤ LM := Nat.le_trans (Nat.mul_le_mul_right _ (by omega)) hlm
    generalize c * (tm S.E r.a).len = P at *
    generalize orb T.M (otx T S r.a) q c = q' at *
    (repeat' ((conv => whnf); first | rw [hP] | (refine CallK_pack (key := 78) rfl (fun w hR h0 => c1 _ _ _ h0) ?_; rintro _ _ ⟨rfl,rfl⟩; refine ⟨.v _,rfl,?_⟩) | refine SC.go 77 c2 rfl fun fp' => ?_ | refine XC.go 78 77 c4 rfl rfl fun fp1' fp2' => ?_ | refine XC.go 78 77 c5 rfl rfl fun fp1' fp2' => ?_ | refine ⟨_,⟨rfl,trivial⟩,?_⟩ | (refine bcase_prop (fun h => ?_) (fun h => ?_) <;> try (exfalso; omega)) | (refine bcase_nprop (fun h => ?_) (fun h => ?_) <;> try (exfalso; omega)) | (refine bcase_intro (fun h => ?_) (fun h => ?_) <;> (try simp only [Bool.not_eq_true',Bool.not_eq_false',decide_eq_true_eq,decide_eq_false_iff_not,Bool.not_eq_true,Bool.not_eq_false,Decidable.not_not] at h)) | refine pay ?_ | intro _)); (all_goals (conv => whnf))
    all_goals first | (exfalso; omega) | skip
    exact loop_next ⟨r.a,q',rd + P,_,_⟩ ⟨⟨ha.1,ka.2⟩,hql,hr2,by rw [← hF,Nat.add_assoc]⟩ (show r.a.toNat < id.toNat by omega) (by (repeat ((conv => whnf); refine And.intro (by first | exact rfl | exact vint_eq (by omega) | exact vint_eq (by (dsimp only; omega)) | exact vsl_eq (by omega) | exact vsl_eq (by first | (dsimp only; omega) | (simp; done) | (simp; omega))) ?_)); exact trivial) (Ref.takes [78,77] rfl (.packE (.packE (.nil _))))
structure LaG where
  i : Nat
  p : Pt
  bf : Nat
  fd : Nat
  f1 : List Nat
  f2 : List Nat
def LaI (T : Tb) (S : Sto) (q : Nat) (A : List Nat) (p : Pt) (bf fd : Nat) : Prop :=
  (p.t = 0 ∧ runH T.M T.H q A = 0) ∨ ((1 ≤ p.id ∧ p.id ≤ S.E.length) ∧ bf < T.M.nx.length ∧ 0 < runH T.M T.H bf (rep p.t (otx T S p.id)) ∧ lstH T.M T.H q A = fd + lstH T.M T.H bf (rep p.t (otx T S p.id)) ∧ fd + p.t * (tm S.E p.id).len ≤ LM ∧ 1 ≤ p.t ∧ p.t ≤ LM)
theorem calls_scLast {T : Tb} {kk : Nat} {S : Sto} (bt bs : Nat) (h : ScOk T kk S) {X : List Nat} {ps : List Pt} (hP : Prs T S X ps) (hXl : X.length ≤ LM) (a : Option Addr) (c : Nat) {q : Nat} (hq : q < T.M.nx.length) (fp1 fp2 : List Nat) (w : World) (hR : R w (fp1 ++ fp2) [packE 78 fp1 (fX bt bs T S.E),packE 77 fp2 (fS bs S)] w) (hin : In w (fp1 ++ fp2) a (pts ps)) :
    Calls Try.prog fn_scan_Last #[pS bt,.slice a ps.length c,.int .i64 q] w fun e w' => ∃ v L1,e = .returned v ∧ R w (fp1 ++ fp2) L1 w' ∧ retX 78 77 bt bs T S (.int .i64 (lstH T.M T.H q X : Nat)) v L1 := by
  refine part_call [.v (pS bt),.v (.slice a ps.length c),.v (.int .i64 q)] ok_scan_Last (by simp) hR ?_
  have hLM : LM = 1152921504606846976 := rfl
  have hpl := hP.le
  have hX := hP.tx
  obtain ⟨A,hA⟩ : ∃ A : Nat → List Nat,∀ i,(ps.take i).flatMap (fun p => rep p.t (otx T S p.id)) = A i := ⟨_,fun _ => rfl⟩
  obtain ⟨B,hB⟩ : ∃ B : Nat → List Nat,∀ i,(ps.drop i).flatMap (fun p => rep p.t (otx T S p.id)) = B i := ⟨_,fun _ => rfl⟩
  have hA0 : A 0 = [] := (hA 0).symm
  have hAE : X = A ps.length := by rw [← hA,List.take_length,hX]
  have hAB : ∀ i,X = A i ++ B i := fun i => by rw [← hA,← hB,← List.flatMap_append,List.take_append_drop,hX]
  have hbt : ∀ i,∀ b ∈ A i,b < 256 := fun i b hb => by
    rw [← hA] at hb
    obtain ⟨p,hp,hb⟩ := List.mem_flatMap.1 hb
    have := hP.id p (List.mem_of_mem_take hp)
    exact h.byt ⟨by omega,this.2.1⟩ b (memRep hb)
  have hstl : ∀ i,runE T.M q (A i) < T.M.nx.length := fun i => runE_lt h.ok.m (hbt i) hq
  have hAS : ∀ i p,ps[i]? = some p → A (i + 1) = A i ++ rep p.t (otx T S p.id) := fun i p hp => by
    have e : ps.take (i + 1) = ps.take i ++ [p] := by rw [List.take_add_one,hp]; rfl
    rw [← hA,← hA,e,List.flatMap_append,List.flatMap_singleton]
  have hAl : ∀ i,(A i).length ≤ LM := fun i => by
    have := congrArg List.length (hAB i)
    rw [List.length_append] at this
    omega
  (repeat' ((conv => whnf); first | (refine bcase_prop (fun h => ?_) (fun h => ?_) <;> try (exfalso; omega)) | (refine bcase_nprop (fun h => ?_) (fun h => ?_) <;> try (exfalso; omega)) | (refine bcase_intro (fun h => ?_) (fun h => ?_) <;> (try simp only [Bool.not_eq_true',Bool.not_eq_false',decide_eq_true_eq,decide_eq_false_iff_not,Bool.not_eq_true,Bool.not_eq_false,Decidable.not_not] at h)) | refine pay ?_ | intro _)); (all_goals (conv => whnf))
  rename_i b9
  refine VC_loop LaG (fun x => [(0,.v (pS bt)),(1,.v (.slice a ps.length c)),(2,.v (.int .i64 (runE T.M q (A x.i)))),(7,.v (.int .i64 (A x.i).length)),(8,.v (.int .i64 x.fd)),(9,.ptr 9 b9 0),(10,.v (.int .i64 x.bf)),(17,.v (.slice a ps.length c)),(18,.v (.int .i64 ps.length)),(19,.v (.int .i64 x.i))])
    (fun x => [packE 78 x.f1 (fX bt bs T S.E),packE 77 x.f2 (fS bs S),.box 9 b9 [.int .i64 x.p.id,.int .i64 x.p.pw,.int .i64 x.p.t] ty_parts_Part]) (fun x => x.i ≤ ps.length ∧ LaI T S q (A x.i) x.p x.bf x.fd) (fun x => ps.length - x.i) ⟨0,⟨0,0,0⟩,0,0,fp1,fp2⟩ ⟨Nat.zero_le _,.inl ⟨rfl,by rw [hA0]; rfl⟩⟩ (by rw [hA0]; (repeat ((conv => whnf); refine And.intro (by first | exact rfl | exact vint_eq (by omega) | exact vint_eq (by (dsimp only; omega)) | exact vsl_eq (by omega) | exact vsl_eq (by first | (dsimp only; omega) | (simp; done) | (simp; omega))) ?_)); exact trivial) (Ref.takes [78,77,9] rfl (.packE (.packE (Thin.refl _)))) ?_
  rintro ⟨i,lp,bf,fd,g1,g2⟩ ⟨hi,hI⟩
  dsimp only at hi hI ⊢
  by_cases hlt : i < ps.length
  case neg =>
    obtain rfl : i = ps.length := by omega
    rw [← hAE] at hI
    obtain ⟨id,pw,t⟩ := lp
    dsimp only at *
    rcases hI with ⟨h0,hz⟩ | ⟨hid,hbf,hpos,hls,hfd,ht1,ht2⟩
    · dsimp only at h0
      subst h0
      rw [show lstH T.M T.H q X = 0 from lstH_zero.2 hz]
      (repeat' ((conv => whnf); first | refine ⟨_,⟨rfl,trivial⟩,?_⟩ | (refine bcase_prop (fun h => ?_) (fun h => ?_) <;> try (exfalso; omega)) | (refine bcase_nprop (fun h => ?_) (fun h => ?_) <;> try (exfalso; omega)) | (refine bcase_intro (fun h => ?_) (fun h => ?_) <;> (try simp only [Bool.not_eq_true',Bool.not_eq_false',decide_eq_true_eq,decide_eq_false_iff_not,Bool.not_eq_true,Bool.not_eq_false,Decidable.not_not] at h)) | refine pay ?_ | intro _)); (all_goals (conv => whnf))
      all_goals first | (exfalso; omega) | skip
      exact ⟨endXP (Ref.takes [78,77] rfl (Thin.refl _)) rfl⟩
    · dsimp only at hid hbf hpos hls hfd ht1 ht2
      have kp : known S id := ⟨by omega,hid.2⟩
      have c4 := calls_lastCopy bt bs h kp hbf t (by omega) hpos
      have hs := lcp_spec hpos
      have c5 := calls_scSize bt bs h kp
      have hql := orb_lt h.ok.m (h.byt kp) hbf (lcp T.M T.H (otx T S id) bf t)
      rw [lstH_rep hs,otx_len] at hls
      generalize lcp T.M T.H (otx T S id) bf t = C at *
      have hr2 := hs.hit
      have c6 := calls_slast bt bs h hid.1 hid.2 hql hr2
      have hl2 := lstH_le (M := T.M) (H := T.H) (orb T.M (otx T S id) bf C) (otx T S id)
      rw [otx_len] at hl2
      have hlsX := lstH_le (M := T.M) (H := T.H) q X
      have hP2 : ((C : Nat) : Int) * ((tm S.E id).len : Nat) = ((C * (tm S.E id).len : Nat) : Int) := (Int.natCast_mul ..).symm
      generalize orb T.M (otx T S id) bf C = q2 at *
      generalize lstH T.M T.H q2 (otx T S id) = F2 at *
      generalize lstH T.M T.H q X = FX at *
      generalize C * (tm S.E id).len = P at *
      (repeat' ((conv => whnf); first | rw [hP2] | refine VC_base _ (Ref.takes [9] rfl (Thin.refl _)) ?_ | refine XC.go 78 77 c4 rfl rfl fun fp1' fp2' => ?_ | refine XC.go 78 77 c5 rfl rfl fun fp1' fp2' => ?_ | refine XC.go 78 77 c6 rfl rfl fun fp1' fp2' => ?_ | refine ⟨_,⟨rfl,trivial⟩,?_⟩ | (refine bcase_prop (fun h => ?_) (fun h => ?_) <;> try (exfalso; omega)) | (refine bcase_nprop (fun h => ?_) (fun h => ?_) <;> try (exfalso; omega)) | (refine bcase_intro (fun h => ?_) (fun h => ?_) <;> (try simp only [Bool.not_eq_true',Bool.not_eq_false',decide_eq_true_eq,decide_eq_false_iff_not,Bool.not_eq_true,Bool.not_eq_false,Decidable.not_not] at h)) | refine pay ?_ | refine And.intro (by first | exact Ref.takes [9] rfl (Thin.refl _)) ?_ | intro _)); (all_goals (conv => whnf))
      all_goals first | (exfalso; omega) | skip
      refine ⟨endXP (Ref.takes [78,77] rfl (Thin.refl _)) ?_⟩
      congr 1; omega
  obtain ⟨p,hp⟩ : ∃ p,ps[i]? = some p := ⟨_,List.getElem?_eq_getElem hlt⟩
  have hpm := hP.id p (List.mem_of_getElem? hp)
  have rd := fun {L : List Ent} => In.rdn (L := L) (vs := ptC p) (k := i * 3) hin (Nat.succ_pos _) (pts_at hp)
  have nr : a ≠ none := hin.ne' (k := i * 3) (by rw [pts_len]; omega)
  have q0 : ((i : Nat) : Int).toNat = i := by omega
  have kp : known S p.id := ⟨by omega,hpm.2.1⟩
  have htb : p.t ≤ LM := by
    have : p.t * 1 ≤ LM := Nat.le_trans (Nat.mul_le_mul_left _ hpm.2.2.2.2) hpm.2.2.2.1
    omega
  have c4 := calls_Skip bt bs h kp (hstl i) p.t (by omega)
  have c5 := calls_scSize bt bs h kp
  have cF := fun k1 k2 fp1 fp2 w hR => calls_Follow bt bs h kp (hstl i) p.t (by omega) k1 k2 fp1 fp2 w hR
  have cA := fun {m tl : Nat} (hF : Fol T.M (otx T S p.id) (runE T.M q (A i)) p.t m tl) a c w hin => calls_OAt hF a c p.t (Nat.le_refl _) (by omega) w hin
  have hAS := hAS i p hp
  have hAl1 := hAl (i + 1)
  have hAl0 := hAl i
  have hs := skp_spec (M := T.M) (H := T.H) (u := otx T S p.id) (t := p.t) (q := runE T.M q (A i))
  have hA1 : (A (i + 1)).length = (A i).length + p.t * (tm S.E p.id).len := by rw [hAS,List.length_append,len_rep,otx_len]
  have hP2 : ((p.t : Nat) : Int) * ((tm S.E p.id).len : Nat) = ((p.t * (tm S.E p.id).len : Nat) : Int) := (Int.natCast_mul ..).symm
  have hE1 : runE T.M q (A (i + 1)) = orb T.M (otx T S p.id) (runE T.M q (A i)) p.t := by rw [hAS,runE_append]; rfl
  rw [← hE1] at cA
  -- what the cut keeps
  have hcut : ∃ lp' bf' fd',LaI T S q (A (i + 1)) lp' bf' fd' ∧ ((skp T.M T.H (otx T S p.id) (runE T.M q (A i)) p.t < p.t ∧ lp' = p ∧ bf' = runE T.M q (A i) ∧ fd' = (A i).length) ∨ (¬ skp T.M T.H (otx T S p.id) (runE T.M q (A i)) p.t < p.t ∧ lp' = lp ∧ bf' = bf ∧ fd' = fd)) := by
    by_cases hc : skp T.M T.H (otx T S p.id) (runE T.M q (A i)) p.t < p.t
    · refine ⟨p,_,_,.inr ⟨⟨hpm.1,hpm.2.1⟩,hstl i,?_,?_,by omega,hpm.2.2.1,htb⟩,.inl ⟨hc,rfl,rfl,rfl⟩⟩
      · have hh := hs.hit hc
        rw [show p.t = skp T.M T.H (otx T S p.id) (runE T.M q (A i)) p.t + (1 + (p.t - skp T.M T.H (otx T S p.id) (runE T.M q (A i)) p.t - 1)) by omega,runH_rep_add,runH_rep_add,rep_one]
        omega
      · rw [hAS,lstH_append,if_neg]
        intro e
        have e := lstH_zero.1 e
        have hh := hs.hit hc
        rw [show p.t = skp T.M T.H (otx T S p.id) (runE T.M q (A i)) p.t + (1 + (p.t - skp T.M T.H (otx T S p.id) (runE T.M q (A i)) p.t - 1)) by omega,runH_rep_add,runH_rep_add,rep_one] at e
        omega
    · have he : skp T.M T.H (otx T S p.id) (runE T.M q (A i)) p.t = p.t := Nat.le_antisymm hs.le (by omega)
      have hn := runH_rep_zero hs.no
      rw [he] at hn
      refine ⟨lp,bf,fd,?_,.inr ⟨hc,rfl,rfl,rfl⟩⟩
      rcases hI with ⟨h0,hz⟩ | ⟨z1,z2,z3,z4,z5,z6⟩
      · exact .inl ⟨h0,by rw [hAS,runH_append,hz,hn]⟩
      · exact .inr ⟨z1,z2,z3,by rw [hAS,lstH_append,if_pos (lstH_zero.2 hn)]; exact z4,z5,z6⟩
  obtain ⟨lp',bf',fd',hI2,hch⟩ := hcut
  obtain ⟨id,pw,t⟩ := p
  dsimp only [ptC] at *
  (repeat' ((conv => whnf); first | rw [q0] | refine ⟨[.int .i64 id,.int .i64 pw,.int .i64 t],rfl,rd,?_⟩ | refine ⟨_,⟨rfl,trivial⟩,?_⟩ | (refine bcase_prop (fun h => ?_) (fun h => ?_) <;> try (exfalso; omega)) | (refine bcase_nprop (fun h => ?_) (fun h => ?_) <;> try (exfalso; omega)) | (refine bcase_intro (fun h => ?_) (fun h => ?_) <;> (try simp only [Bool.not_eq_true',Bool.not_eq_false',decide_eq_true_eq,decide_eq_false_iff_not,Bool.not_eq_true,Bool.not_eq_false,Decidable.not_not] at h)) | refine pay ?_ | intro _)); (all_goals (conv => whnf))
  all_goals first | (exfalso; omega) | skip
  rename_i b12
  refine VC_cut LaG (fun x => [(0,.v (pS bt)),(1,.v (.slice a ps.length c)),(2,.v (.int .i64 (runE T.M q (A i)))),(7,.v (.int .i64 (A i).length)),(8,.v (.int .i64 fd')),(9,.ptr 9 b9 0),(10,.v (.int .i64 bf')),(12,.ptr 12 b12 0),(17,.v (.slice a ps.length c)),(18,.v (.int .i64 ps.length)),(19,.v (.int .i64 i))])
    (fun x => [packE 78 x.f1 (fX bt bs T S.E),packE 77 x.f2 (fS bs S),.box 9 b9 [.int .i64 lp'.id,.int .i64 lp'.pw,.int .i64 lp'.t] ty_parts_Part,.box 12 b12 [.int .i64 id,.int .i64 pw,.int .i64 t] ty_parts_Part]) (fun _ => True) ?_ ?_
  · rcases hch with ⟨hc,rfl,rfl,rfl⟩ | ⟨hc,rfl,rfl,rfl⟩
    · (repeat' ((conv => whnf); first | refine XC.go 78 77 c4 rfl rfl fun fp1' fp2' => ?_ | refine ⟨_,⟨rfl,trivial⟩,?_⟩ | (refine bcase_prop (fun h => ?_) (fun h => ?_) <;> try (exfalso; omega)) | (refine bcase_nprop (fun h => ?_) (fun h => ?_) <;> try (exfalso; omega)) | (refine bcase_intro (fun h => ?_) (fun h => ?_) <;> (try simp only [Bool.not_eq_true',Bool.not_eq_false',decide_eq_true_eq,decide_eq_false_iff_not,Bool.not_eq_true,Bool.not_eq_false,Decidable.not_not] at h)) | refine pay ?_ | intro _)); (all_goals (conv => whnf))
      all_goals first | (exfalso; omega) | skip
      exact cut_next ⟨0,⟨0,0,0⟩,0,0,_,_⟩ trivial (by (repeat ((conv => whnf); refine And.intro (by first | exact rfl | exact vint_eq (by omega) | exact vint_eq (by (dsimp only; omega)) | exact vsl_eq (by omega) | exact vsl_eq (by first | (dsimp only; omega) | (simp; done) | (simp; omega))) ?_)); exact trivial) (Ref.takes [78,77,9,12] rfl (.packE (.packE (Thin.refl _))))
    · (repeat' ((conv => whnf); first | refine XC.go 78 77 c4 rfl rfl fun fp1' fp2' => ?_ | refine ⟨_,⟨rfl,trivial⟩,?_⟩ | (refine bcase_prop (fun h => ?_) (fun h => ?_) <;> try (exfalso; omega)) | (refine bcase_nprop (fun h => ?_) (fun h => ?_) <;> try (exfalso; omega)) | (refine bcase_intro (fun h => ?_) (fun h => ?_) <;> (try simp only [Bool.not_eq_true',Bool.not_eq_false',decide_eq_true_eq,decide_eq_false_iff_not,Bool.not_eq_true,Bool.not_eq_false,Decidable.not_not] at h)) | refine pay ?_ | intro _)); (all_goals (conv => whnf))
      all_goals first | (exfalso; omega) | skip
      exact cut_next ⟨0,⟨0,0,0⟩,0,0,_,_⟩ trivial (by (repeat ((conv => whnf); refine And.intro (by first | exact rfl | exact vint_eq (by omega) | exact vint_eq (by (dsimp only; omega)) | exact vsl_eq (by omega) | exact vsl_eq (by first | (dsimp only; omega) | (simp; done) | (simp; omega))) ?_)); exact trivial) (Ref.takes [78,77,9,12] rfl (.packE (.packE (Thin.refl _))))
  · rintro ⟨_,_,_,_,z1,z2⟩ -
    dsimp only
    clear hch c4
    obtain ⟨q2,hq2⟩ : ∃ q2,runE T.M q (A (i + 1)) = q2 := ⟨_,rfl⟩
    rw [hq2] at cA
    generalize t * (tm S.E id).len = P at *
    (repeat' ((conv => whnf); first | rw [hP2] | refine VC_base _ (Ref.takes [12] rfl (Thin.refl _)) ?_ | (refine CallK_pack2 (key1 := 78) (key2 := 77) rfl rfl (fun w hR h0 => cF _ _ _ _ _ h0) ?_; rintro _ _ ⟨m,tl,aF,cF2,y1,y2,rfl,hF,hm,rfl⟩; refine ⟨.v _,rfl,?_⟩) | (refine CallK_pure (.v _) (fun w' hR => cA hF _ _ w' (In.ownR (key := 890) hR rfl)) ?_) | refine XC.go 78 77 c5 rfl rfl fun fp1' fp2' => ?_ | refine ⟨_,⟨rfl,trivial⟩,?_⟩ | (refine bcase_prop (fun h => ?_) (fun h => ?_) <;> try (exfalso; omega)) | (refine bcase_nprop (fun h => ?_) (fun h => ?_) <;> try (exfalso; omega)) | (refine bcase_intro (fun h => ?_) (fun h => ?_) <;> (try simp only [Bool.not_eq_true',Bool.not_eq_false',decide_eq_true_eq,decide_eq_false_iff_not,Bool.not_eq_true,Bool.not_eq_false,Decidable.not_not] at h)) | refine pay ?_ | refine And.intro (by first | exact Ref.takes [12] rfl (Thin.refl _)) ?_ | intro _)); (all_goals (conv => whnf))
    all_goals first | (exfalso; omega) | skip
    subst hq2
    exact loop_next ⟨i + 1,lp',bf',fd',_,_⟩ ⟨hlt,hI2⟩ (show ps.length - (i + 1) < ps.length - i by omega) (by (repeat ((conv => whnf); refine And.intro (by first | exact rfl | exact vint_eq (by omega) | exact vint_eq (by (dsimp only; omega)) | exact vsl_eq (by omega) | exact vsl_eq (by first | (dsimp only; omega) | (simp; done) | (simp; omega))) ?_)); exact trivial) (Ref.takes [78,77,9] rfl (.packE (.packE (Thin.refl _))))
end Go.Proofs.Ytjmlialibdobpaa
/- errors.Is of no error. -/
namespace Go.Proofs.Ytjmlialibdobpaa
open Go.EG Go.RowKit
set_option maxRecDepth 20000
theorem calls_errIs0 (n : Int) (w : World) : Calls Try.prog fn_errors_Is #[.nilIface,errV n] w fun e w' => e = .returned (.bool false) ∧ Ext w w' := by
  have h : Calls Try.prog 58 #[.nilIface,.iface 49 (.int .i64 n)] w fun e w' => e = .returned (.bool false) ∧ w' = w := by
    have hn := run_eql_iface_nil_left (P := Try.prog) w 49 (.int .i64 n) Try.underlying33
    go_enter Try.func58,Try.ntmps58
    go_wp2
    go_ret
    exact ⟨rfl,rfl⟩
  exact h.mono fun e w' ⟨h1,h2⟩ => ⟨h1,h2 ▸ Ext.refl _⟩
end Go.Proofs.Ytjmlialibdobpaa
/- The copy with hit n: the program. -/
namespace Go.Proofs.Ytjmlialibdobpaa
open Go.EG
attribute [local irreducible] CallK QCall Go.Calls
set_option linter.unusedSimpArgs false
set_option linter.unusedVariables false
set_option maxRecDepth 20000
set_option maxHeartbeats 4000000
theorem runH_rep_le (M : Mch) (H : List Int) (u : List Nat) (q : Nat) {i j : Nat} (h : i ≤ j) : runH M H q (rep i u) ≤ runH M H q (rep j u) := by
  rw [show j = i + (j - i) by omega,runH_rep_add]; omega
structure Nth (M : Mch) (H : List Int) (u : List Nat) (q n j : Nat) : Prop where
  lo : runH M H q (rep j u) ≤ n
  hi : n < runH M H q (rep (j + 1) u)
theorem Nth.uniq {M : Mch} {H : List Int} {u : List Nat} {q n i j : Nat} (h : Nth M H u q n i) (k : Nth M H u q n j) : i = j := by
  rcases Nat.lt_trichotomy i j with hl | hl | hl
  · have := runH_rep_le M H u q (show i + 1 ≤ j by omega)
    have := h.hi; have := k.lo; omega
  · exact hl
  · have := runH_rep_le M H u q (show j + 1 ≤ i by omega)
    have := k.hi; have := h.lo; omega
theorem Nth.lt {M : Mch} {H : List Int} {u : List Nat} {q n j t : Nat} (h : Nth M H u q n j) (ht : n < runH M H q (rep t u)) : j < t := by
  rcases Nat.lt_or_ge j t with hl | hl
  · exact hl
  · have := runH_rep_le M H u q hl
    have := h.lo; omega
theorem Nth.le {M : Mch} {H : List Int} {u : List Nat} {q n i j : Nat} (h : Nth M H u q n j) (hi : runH M H q (rep i u) ≤ n) : i ≤ j := by
  rcases Nat.lt_or_ge j i with hl | hl
  · have := runH_rep_le M H u q (show j + 1 ≤ i from hl)
    have := h.hi; omega
  · exact hl
theorem nth_some {M : Mch} {H : List Int} {u : List Nat} {q n : Nat} : ∀ {t : Nat},n < runH M H q (rep t u) → ∃ j,Nth M H u q n j
  | 0,h => absurd h (by show ¬ n < 0; omega)
  | t + 1,h => by
    by_cases hl : n < runH M H q (rep t u)
    · exact nth_some hl
    · exact ⟨t,by omega,h⟩
theorem nthH_rep {M : Mch} {H : List Int} {u : List Nat} {q n t j : Nat} (h : Nth M H u q n j) (ht : n < runH M H q (rep t u)) : nthH M H n q (rep t u) = j * u.length + nthH M H (n - runH M H q (rep j u)) (orb M u q j) u ∧ n - runH M H q (rep j u) < runH M H (orb M u q j) u := by
  have hj := h.lt ht
  have h1 := h.lo
  have h2 := h.hi
  rw [runH_rep] at h2
  have hlt : n - runH M H q (rep j u) < runH M H (orb M u q j) u := by omega
  refine ⟨?_,hlt⟩
  have e0 : nthH M H n q (rep j u) = 0 := nthH_zero.2 h1
  have e1 : nthH M H (n - runH M H q (rep j u)) (orb M u q j) u ≠ 0 := fun e => by have := nthH_zero.1 e; omega
  have e2 : nthH M H (n - runH M H q (rep j u)) (orb M u q j) (u ++ rep (t - j - 1) u) = nthH M H (n - runH M H q (rep j u)) (orb M u q j) u := by
    rw [nthH_append,if_neg e1]
  rw [show t = j + (1 + (t - j - 1)) by omega,rep_add,nthH_append,if_pos e0,rep_add,rep_one]
  show (if nthH M H (n - runH M H q (rep j u)) (orb M u q j) (u ++ _) = 0 then 0 else _ + nthH M H (n - runH M H q (rep j u)) (orb M u q j) (u ++ _)) = _
  rw [e2,if_neg e1,len_rep]
theorem runH_cyc {M : Mch} {H : List Int} {u : List Nat} {q p : Nat} (h : orb M u q p = q) : ∀ k,orb M u q (k * p) = q ∧ runH M H q (rep (k * p) u) = k * runH M H q (rep p u)
  | 0 => by rw [Nat.zero_mul,Nat.zero_mul]; exact ⟨rfl,rfl⟩
  | k + 1 => by
    obtain ⟨h1,h2⟩ := runH_cyc (H := H) h k
    rw [Nat.succ_mul,Nat.succ_mul,orb_add,h1,h,runH_rep_add,h1,h2]
    exact ⟨rfl,rfl⟩
def bfL (M : Mch) (H : List Int) (u : List Nat) (q i : Nat) : List Int := (List.range 257).map fun j => if j ≤ i then (runH M H q (rep j u) : Int) else 0
theorem bfL_len (M : Mch) (H : List Int) (u : List Nat) (q i : Nat) : (bfL M H u q i).length = 257 := by simp [bfL]
theorem bfL_zero (M : Mch) (H : List Int) (u : List Nat) (q : Nat) : bfL M H u q 0 = List.replicate 257 0 := by
  apply List.ext_getElem?
  intro j
  by_cases hj : j < 257
  · have e : (bfL M H u q 0)[j]? = some (if j ≤ 0 then (runH M H q (rep j u) : Int) else 0) := by simp [bfL,List.getElem?_range hj]
    rw [e,List.getElem?_replicate,if_pos hj]
    split
    · obtain rfl : j = 0 := by omega
      rfl
    · rfl
  · rw [List.getElem?_eq_none (by rw [bfL_len]; omega),List.getElem?_eq_none (by simp; omega)]
theorem bfL_get {M : Mch} {H : List Int} {u : List Nat} {q i j : Nat} (h : j ≤ i) (hj : j < 257) : (bfL M H u q i).getD j 0 = (runH M H q (rep j u) : Int) := by
  simp [bfL,List.getD_eq_getElem?_getD,List.getElem?_range hj,h]
theorem bfL_set {M : Mch} {H : List Int} {u : List Nat} {q i : Nat} (hi : i + 1 < 257) : (bfL M H u q i).set (i + 1) (runH M H q (rep (i + 1) u) : Int) = bfL M H u q (i + 1) := by
  apply List.ext_getElem?
  intro j
  by_cases hj : j < 257
  · have e1 : ∀ i,(bfL M H u q i)[j]? = some (if j ≤ i then (runH M H q (rep j u) : Int) else 0) := fun i => by simp [bfL,List.getElem?_range hj]
    rw [List.getElem?_set,bfL_len,e1,e1]
    by_cases he : i + 1 = j
    · subst he; rw [if_pos rfl,if_pos hi,if_pos (Nat.le_refl _)]
    · rw [if_neg he]
      by_cases hl : j ≤ i
      · rw [if_pos hl,if_pos (by omega)]
      · rw [if_neg hl,if_neg (by omega)]
  · rw [List.getElem?_eq_none (by rw [List.length_set,bfL_len]; omega),List.getElem?_eq_none (by rw [bfL_len]; omega)]
def HitB (T : Tb) (S : Sto) : Prop := ∀ n q,known S n → q < T.M.nx.length → runH T.M T.H q (otx T S n) ≤ LM
theorem calls_above {T : Tb} {kk : Nat} {S : Sto} (bt bs : Nat) (h : ScOk T kk S) (hB : HitB T S) {id : Int} (hk : known S id) {q : Nat} (hq : q < T.M.nx.length) (n : Nat) :
    XC fn_locate_above #[pS bt,.int .i64 id,.int .i64 q,.int .i64 n] bt bs T S (.bool (decide (n < runH T.M T.H q (otx T S id)))) := by
  intro k1 k2 fp1 fp2 w hR
  have hR : R w (fp1 ++ fp2) [packE 78 fp1 (fX bt bs T S.E),packE 77 fp2 (fS bs S)] w := (Thin.packE (Thin.packE (.nil []))).ref w hR
  refine part_call [.v (pS bt),.v (.int .i64 id),.v (.int .i64 q),.v (.int .i64 n)] ok_locate_above (by simp) hR ?_
  have c1 := calls_THits bt bs T h.ok S h.wf h.clo id q (h.all id)
  rw [show hitV T S id q = _ from if_pos ⟨hk,by omega,by omega⟩,Int.toNat_natCast] at c1
  have hb := hB id q hk hq
  have c2 := calls_errIs0 2
  unfold otx at hb ⊢
  rw [if_pos hb] at c1
  generalize runH T.M T.H q (ori T.back (tm S.E id).txt) = X at *
  by_cases hx : n < X
  · (repeat' ((conv => whnf); first | refine XC.go 78 77 c1 rfl rfl fun fp1' fp2' => ?_ | (first | refine puK c2 ?_ | refine quK c2 ?_) | refine ⟨_,⟨rfl,trivial⟩,?_⟩ | (refine bcase_prop (fun h => ?_) (fun h => ?_) <;> try (exfalso; omega)) | (refine bcase_nprop (fun h => ?_) (fun h => ?_) <;> try (exfalso; omega)) | (refine bcase_intro (fun h => ?_) (fun h => ?_) <;> (try simp only [Bool.not_eq_true',Bool.not_eq_false',decide_eq_true_eq,decide_eq_false_iff_not,Bool.not_eq_true,Bool.not_eq_false,Decidable.not_not] at h)) | refine pay ?_ | intro _)); (all_goals (conv => whnf))
    all_goals first | (exfalso; omega) | skip
    refine ⟨endXP (Ref.takes [78,77] rfl (Thin.refl _)) ?_⟩
    rw [decide_eq_true hx]
  · (repeat' ((conv => whnf); first | refine XC.go 78 77 c1 rfl rfl fun fp1' fp2' => ?_ | (first | refine puK c2 ?_ | refine quK c2 ?_) | refine ⟨_,⟨rfl,trivial⟩,?_⟩ | (refine bcase_prop (fun h => ?_) (fun h => ?_) <;> try (exfalso; omega)) | (refine bcase_nprop (fun h => ?_) (fun h => ?_) <;> try (exfalso; omega)) | (refine bcase_intro (fun h => ?_) (fun h => ?_) <;> (try simp only [Bool.not_eq_true',Bool.not_eq_false',decide_eq_true_eq,decide_eq_false_iff_not,Bool.not_eq_true,Bool.not_eq_false,Decidable.not_not] at h)) | refine pay ?_ | intro _)); (all_goals (conv => whnf))
    all_goals first | (exfalso; omega) | skip
    refine ⟨endXP (Ref.takes [78,77] rfl (Thin.refl _)) ?_⟩
    rw [decide_eq_false hx]
structure NcG where
  i : Nat
  f1 : List Nat
  f2 : List Nat
theorem calls_nthCopy {T : Tb} {kk : Nat} {S : Sto} (bt bs : Nat) (h : ScOk T kk S) (hB : HitB T S) (r : Rul) (ka : known S r.a) {q : Nat} (hq : q < T.M.nx.length) {n j : Nat} (hn : n ≤ LM) (hr0 : 0 ≤ r.t) (hrt : r.t.toNat ≤ LM) (hnt : n < runH T.M T.H q (rep r.t.toNat (otx T S r.a))) (hj : Nth T.M T.H (otx T S r.a) q n j) :
    XC fn_locate_nthCopy #[pS bt,ruV r,.int .i64 q,.int .i64 n] bt bs T S (.tuple #[.int .i64 j,.int .i64 (orb T.M (otx T S r.a) q j : Nat),.int .i64 ((n - runH T.M T.H q (rep j (otx T S r.a)) : Nat) : Int)]) := by
  intro k1 k2 fp1 fp2 w hR
  have hR : R w (fp1 ++ fp2) [packE 78 fp1 (fX bt bs T S.E),packE 77 fp2 (fS bs S)] w := (Thin.packE (Thin.packE (.nil []))).ref w hR
  refine part_call [.v (pS bt),.v (ruV r),.v (.int .i64 q),.v (.int .i64 n)] ok_locate_nthCopy (by simp) hR ?_
  have hLM : LM = 1152921504606846976 := rfl
  have hN := h.ok.m.most
  have cE := fun q hq => calls_scEnd bt bs h ka (q := q) hq
  have cAb := fun q hq n => calls_above bt bs h hB ka (q := q) hq n
  have cH : ∀ q,q < T.M.nx.length → XC fn_P_transfer_Table_Hits #[pS bt,.int .i64 r.a,.int .i64 q] bt bs T S (.tuple #[.int .i64 (runH T.M T.H q (otx T S r.a) : Nat),.nilIface]) := fun q hq => by
    have c1 := calls_THits bt bs T h.ok S h.wf h.clo r.a q (h.all r.a)
    have hb := hB r.a q ka hq
    unfold otx at hb ⊢
    rw [show hitV T S r.a q = _ from if_pos ⟨ka,by omega,by omega⟩,Int.toNat_natCast,if_pos hb] at c1
    exact c1
  have hHb := fun q hq => hB r.a q ka hq
  have hlt := orb_lt h.ok.m (h.byt ka) hq
  have hos := orb_succ T.M (otx T S r.a) q
  have hrs := runH_rep T.M T.H (otx T S r.a) q
  generalize otx T S r.a = u at *
  have hjt := hj.lt hnt
  obtain ⟨tt,htt⟩ : ∃ tt,r.t.toNat = tt := ⟨_,rfl⟩
  have htI : r.t = (tt : Int) := by omega
  rw [htt] at hnt hrt hjt
  obtain ⟨rk,rl,ra,rb,rt⟩ := r
  dsimp only at *
  subst htI
  (repeat' ((conv => whnf); first | (refine bcase_prop (fun h => ?_) (fun h => ?_) <;> try (exfalso; omega)) | (refine bcase_nprop (fun h => ?_) (fun h => ?_) <;> try (exfalso; omega)) | (refine bcase_intro (fun h => ?_) (fun h => ?_) <;> (try simp only [Bool.not_eq_true',Bool.not_eq_false',decide_eq_true_eq,decide_eq_false_iff_not,Bool.not_eq_true,Bool.not_eq_false,Decidable.not_not] at h)) | refine pay ?_ | intro _)); (all_goals (conv => whnf))
  rename_i b5 b11 b12
  refine VC_loop NcG (fun x => [(0,.v (pS bt)),(2,.v (.int .i64 (orb T.M u q x.i))),(3,.v (.int .i64 ((n - runH T.M T.H q (rep x.i u) : Nat) : Int))),(5,.ptr 5 b5 0),(11,.ptr 11 b11 0),(12,.ptr 12 b12 0),(13,.v (.int .i64 x.i))])
    (fun x => [packE 78 x.f1 (fX bt bs T S.E),packE 77 x.f2 (fS bs S),.box 5 b5 [.int .i64 rk,.int .u8 rl,.int .i64 ra,.int .i64 rb,.int .i64 tt] ty_api_Rule,.box 11 b11 (ints .i16 (seenL (orbL T.M u q x.i))) ty_256_int16,.box 12 b12 (ints .i64 (bfL T.M T.H u q x.i)) ty_257_int])
    (fun x => (orbL T.M u q x.i).Nodup ∧ runH T.M T.H q (rep x.i u) ≤ n) (fun x => 256 - x.i) ⟨0,fp1,fp2⟩ ⟨.nil,Nat.zero_le _⟩ (by (repeat ((conv => whnf); refine And.intro (by first | exact rfl | exact vint_eq (by omega) | exact vint_eq (by (dsimp only; omega)) | exact vsl_eq (by omega) | exact vsl_eq (by first | (dsimp only; omega) | (simp; done) | (simp; omega))) ?_)); exact trivial) (Ref.takes [78,77,5,11,12] rfl (.packE (.packE (.keep rfl (fun _ h => h) (.box (by rw [show orbL T.M u q 0 = [] from rfl,seenL_nil]; rfl) (.box (by rw [bfL_zero]; rfl) (.nil _))))))) ?_
  rintro ⟨i,g1,g2⟩ ⟨hnd,hlo⟩
  dsimp only at hnd hlo ⊢
  have hcap : ∀ m,(orbL T.M u q m).Nodup → m ≤ 256 := fun m hm => by
    have := nodup_ltN (n := 256) hm fun x hx => by
      obtain ⟨j,_,rfl⟩ := List.mem_map.1 hx
      have := hlt j
      omega
    rwa [orbL_len] at this
  have hi2 := hcap i hnd
  have hq2 := hlt i
  have hit : i < tt := by
    rcases Nat.lt_or_ge i tt with hl | hl
    · exact hl
    · have := runH_rep_le T.M T.H u q hl
      omega
  have hsg := seenL_get (l := orbL T.M u q i) (q := orb T.M u q i) (by omega)
  have hsl := seenL_len (orbL T.M u q i)
  have q0 : ((orb T.M u q i : Nat) : Int).toNat = orb T.M u q i := by omega
  have q3 : ((i : Nat) : Int).toNat = i := by omega
  have hnth : ∀ s : Int,(seenL (orbL T.M u q i)).getD (orb T.M u q i) 0 = s → nth (ints .i16 (seenL (orbL T.M u q i))) (0 + orb T.M u q i * 1) = some (.int .i16 s) := fun s hs => by
    rw [nth_eq,Nat.zero_add,Nat.mul_one,ints_getD (by omega),hs]
  have hbth : ∀ j,j ≤ i → nth (ints .i64 (bfL T.M T.H u q i)) (0 + j * 1) = some (.int .i64 (runH T.M T.H q (rep j u) : Nat)) := fun j hj => by
    rw [nth_eq,Nat.zero_add,Nat.mul_one,ints_getD (by rw [bfL_len]; omega),bfL_get hj (by omega)]
  have cA2 := cAb _ hq2 (n - runH T.M T.H q (rep i u))
  have hri := hrs i
  by_cases hab : n - runH T.M T.H q (rep i u) < runH T.M T.H (orb T.M u q i) u
  · rw [decide_eq_true hab] at cA2
    obtain rfl : i = j := Nth.uniq ⟨hlo,by omega⟩ hj
    (repeat' ((conv => whnf); first | refine XC.go 78 77 cA2 rfl rfl fun fp1' fp2' => ?_ | refine ⟨_,⟨rfl,trivial⟩,?_⟩ | (refine bcase_prop (fun h => ?_) (fun h => ?_) <;> try (exfalso; omega)) | (refine bcase_nprop (fun h => ?_) (fun h => ?_) <;> try (exfalso; omega)) | (refine bcase_intro (fun h => ?_) (fun h => ?_) <;> (try simp only [Bool.not_eq_true',Bool.not_eq_false',decide_eq_true_eq,decide_eq_false_iff_not,Bool.not_eq_true,Bool.not_eq_false,Decidable.not_not] at h)) | refine pay ?_ | intro _)); (all_goals (conv => whnf))
    all_goals first | (exfalso; omega) | skip
    exact ⟨endXP (Ref.takes [78,77] rfl (Thin.refl _)) rfl⟩
  rw [decide_eq_false hab] at cA2
  have hlo2 : runH T.M T.H q (rep (i + 1) u) ≤ n := by omega
  by_cases hm : orb T.M u q i ∈ orbL T.M u q i
  · rw [if_pos hm] at hsg
    have hn1 := hnth _ hsg
    obtain ⟨hix,hio⟩ := idxOf_getN hm
    rw [orbL_len] at hix
    have hio : orb T.M u q i = orb T.M u q ((orbL T.M u q i).idxOf (orb T.M u q i)) := by
      rw [orbL_get hix] at hio
      exact (Option.some.inj hio).symm
    generalize (orbL T.M u q i).idxOf (orb T.M u q i) = tl at *
    have hb1 := hbth i (Nat.le_refl _)
    have hb2 := hbth tl (by omega)
    have q4 : ((tl : Nat) : Int).toNat = tl := by omega
    obtain ⟨p,hp⟩ : ∃ p,i - tl = p := ⟨_,rfl⟩
    have hcy : orb T.M u (orb T.M u q i) p = orb T.M u q i := by
      rw [hio,← orb_add,show tl + p = i by omega,hio]
    obtain ⟨W,hW⟩ : ∃ W,runH T.M T.H (orb T.M u q i) (rep p u) = W := ⟨_,rfl⟩
    have hWi : runH T.M T.H q (rep i u) = runH T.M T.H q (rep tl u) + W := by
      rw [← hW,hio,← runH_rep_add,show tl + p = i by omega]
    have hcyc := runH_cyc (H := T.H) hcy
    rw [hW] at hcyc
    have hW0 : 0 < W := by
      rcases Nat.eq_zero_or_pos W with h0 | h0
      · exfalso
        have h1 := runH_rep_add T.M T.H u q i (tt - i)
        rw [show i + (tt - i) = tt by omega] at h1
        have h2 := runH_rep_le T.M T.H u (orb T.M u q i) (show tt - i ≤ (tt - i) * p from Nat.le_mul_of_pos_right _ (by omega))
        rw [(hcyc (tt - i)).2,h0,Nat.mul_zero] at h2
        omega
      · exact h0
    obtain ⟨n1,hn1e⟩ : ∃ n1,n - runH T.M T.H q (rep i u) = n1 := ⟨_,rfl⟩
    obtain ⟨D,hD⟩ : ∃ D,n1 / W = D := ⟨_,rfl⟩
    have hdm := Nat.div_add_mod n1 W
    have hml := Nat.mod_lt n1 hW0
    rw [hD] at hdm
    obtain ⟨i2,hi2e⟩ : ∃ i2,i + D * p = i2 := ⟨_,rfl⟩
    have hR2 : runH T.M T.H q (rep i2 u) = runH T.M T.H q (rep i u) + W * D := by
      rw [← hi2e,runH_rep_add,(hcyc D).2,Nat.mul_comm]
    have hO2 : orb T.M u q i2 = orb T.M u q i := by rw [← hi2e,orb_add,(hcyc D).1]
    have hlo3 : runH T.M T.H q (rep i2 u) ≤ n := by omega
    have hi2j := hj.le hlo3
    have hWI : ((runH T.M T.H q (rep i u) : Nat) : Int) - ((runH T.M T.H q (rep tl u) : Nat) : Int) = (W : Int) := by omega
    have hdv : ((n1 : Nat) : Int) / ((W : Nat) : Int) = (D : Int) := by rw [← hD]; exact (Int.natCast_ediv ..).symm
    have hmd : ((n1 : Nat) : Int) % ((W : Nat) : Int) = ((n1 % W : Nat) : Int) := (Int.natCast_emod ..).symm
    have hmu : ((D : Nat) : Int) * ((i : Int) - ((tl : Int) + 1 - 1)) = ((D * p : Nat) : Int) := by
      rw [show (i : Int) - ((tl : Int) + 1 - 1) = (p : Int) by omega]; exact (Int.natCast_mul ..).symm
    have q5 : ((tl : Int) + 1 - 1).toNat = tl := by omega
    rw [hn1e] at cA2 ⊢
    generalize D * p = DP at *
    (repeat' ((conv => whnf); first | rw [q0] | rw [q3] | rw [q5] | rw [hn1] | rw [hb1] | rw [hb2] | rw [hWI] | rw [hdv] | rw [hmd] | rw [hmu] | refine XC.go 78 77 cA2 rfl rfl fun fp1' fp2' => ?_ | refine ⟨_,⟨rfl,trivial⟩,?_⟩ | (refine bcase_prop (fun h => ?_) (fun h => ?_) <;> try (exfalso; omega)) | (refine bcase_nprop (fun h => ?_) (fun h => ?_) <;> try (exfalso; omega)) | (refine bcase_intro (fun h => ?_) (fun h => ?_) <;> (try simp only [Bool.not_eq_true',Bool.not_eq_false',decide_eq_true_eq,decide_eq_false_iff_not,Bool.not_eq_true,Bool.not_eq_false,Decidable.not_not] at h)) | refine pay ?_ | intro _)); (all_goals (conv => whnf))
    all_goals first | (exfalso; omega) | skip
    refine VC_loop NcG (fun x => [(0,.v (pS bt)),(2,.v (.int .i64 (orb T.M u q x.i))),(3,.v (.int .i64 ((n - runH T.M T.H q (rep x.i u) : Nat) : Int))),(5,.ptr 5 b5 0),(13,.v (.int .i64 x.i))])
      (fun x => [packE 78 x.f1 (fX bt bs T S.E),packE 77 x.f2 (fS bs S),.box 5 b5 [.int .i64 rk,.int .u8 rl,.int .i64 ra,.int .i64 rb,.int .i64 tt] ty_api_Rule])
      (fun x => runH T.M T.H q (rep x.i u) ≤ n) (fun x => j + 1 - x.i) ⟨i2,_,_⟩ hlo3 (by dsimp only; rw [hO2]; (repeat ((conv => whnf); refine And.intro (by first | exact rfl | exact vint_eq (by omega) | exact vint_eq (by (dsimp only; omega)) | exact vsl_eq (by omega) | exact vsl_eq (by first | (dsimp only; omega) | (simp; done) | (simp; omega))) ?_)); exact trivial) (Ref.takes [78,77,5] rfl (.packE (.packE (Thin.refl _)))) ?_
    clear hlo3 hi2j hR2 hO2 hi2e
    rintro ⟨e,y1,y2⟩ hle
    dsimp only at hle ⊢
    have hej := hj.le hle
    have hre := hrs e
    have cA3 := cAb _ (hlt e) (n - runH T.M T.H q (rep e u))
    by_cases hab3 : n - runH T.M T.H q (rep e u) < runH T.M T.H (orb T.M u q e) u
    · rw [decide_eq_true hab3] at cA3
      obtain rfl : e = j := Nth.uniq ⟨hle,by omega⟩ hj
      (repeat' ((conv => whnf); first | refine XC.go 78 77 cA3 rfl rfl fun fp1' fp2' => ?_ | refine ⟨_,⟨rfl,trivial⟩,?_⟩ | (refine bcase_prop (fun h => ?_) (fun h => ?_) <;> try (exfalso; omega)) | (refine bcase_nprop (fun h => ?_) (fun h => ?_) <;> try (exfalso; omega)) | (refine bcase_intro (fun h => ?_) (fun h => ?_) <;> (try simp only [Bool.not_eq_true',Bool.not_eq_false',decide_eq_true_eq,decide_eq_false_iff_not,Bool.not_eq_true,Bool.not_eq_false,Decidable.not_not] at h)) | refine pay ?_ | intro _)); (all_goals (conv => whnf))
      all_goals first | (exfalso; omega) | skip
      exact ⟨endXP (Ref.takes [78,77] rfl (Thin.refl _)) rfl⟩
    · rw [decide_eq_false hab3] at cA3
      have cH3 := cH _ (hlt e)
      have cE3 := cE _ (hlt e)
      rw [← hos e] at cE3
      have hlen := Nat.lt_of_lt_of_le hjt hrt
      (repeat' ((conv => whnf); first | refine XC.go 78 77 cA3 rfl rfl fun fp1' fp2' => ?_ | refine XC.go 78 77 cH3 rfl rfl fun fp1' fp2' => ?_ | refine XC.go 78 77 cE3 rfl rfl fun fp1' fp2' => ?_ | refine ⟨_,⟨rfl,trivial⟩,?_⟩ | (refine bcase_prop (fun h => ?_) (fun h => ?_) <;> try (exfalso; omega)) | (refine bcase_nprop (fun h => ?_) (fun h => ?_) <;> try (exfalso; omega)) | (refine bcase_intro (fun h => ?_) (fun h => ?_) <;> (try simp only [Bool.not_eq_true',Bool.not_eq_false',decide_eq_true_eq,decide_eq_false_iff_not,Bool.not_eq_true,Bool.not_eq_false,Decidable.not_not] at h)) | refine pay ?_ | intro _)); (all_goals (conv => whnf))
      all_goals first | (exfalso; omega) | skip
      have hle4 : runH T.M T.H q (rep (e + 1) u) ≤ n := by omega
      have := hj.le hle4
      exact loop_next ⟨e + 1,_,_⟩ hle4 (show j + 1 - (e + 1) < j + 1 - e by omega) (by (repeat ((conv => whnf); refine And.intro (by first | exact rfl | exact vint_eq (by omega) | exact vint_eq (by (dsimp only; omega)) | exact vsl_eq (by omega) | exact vsl_eq (by first | (dsimp only; omega) | (simp; done) | (simp; omega))) ?_)); exact trivial) (Ref.takes [78,77,5] rfl (.packE (.packE (Thin.refl _))))
  · rw [if_neg hm] at hsg
    have hn1 := hnth _ hsg
    have cE2 := cE _ hq2
    rw [← hos i] at cE2
    have cH2 := cH _ hq2
    have hb1 := hbth i (Nat.le_refl _)
    have hset : (seenL (orbL T.M u q i)).set (orb T.M u q i) ((i : Int) + 1) = seenL (orbL T.M u q (i + 1)) := by
      have := seenL_add hm
      rw [orbL_len] at this
      rw [orbL_succ,← this]
    have hnd2 : (orbL T.M u q (i + 1)).Nodup := by
      rw [orbL_succ,List.nodup_append]
      exact ⟨hnd,by simp,fun x hx y hy => by rw [List.mem_singleton] at hy; subst hy; exact fun e => hm (e ▸ hx)⟩
    have hi3 := hcap _ hnd2
    have hbs : ((runH T.M T.H q (rep i u) : Nat) : Int) + ((runH T.M T.H (orb T.M u q i) u : Nat) : Int) = ((runH T.M T.H q (rep (i + 1) u) : Nat) : Int) := by omega
    have hbset := bfL_set (M := T.M) (H := T.H) (u := u) (q := q) (i := i) (by omega)
    have hbl := bfL_len T.M T.H u q i
    have q5 : ((i : Int) + 1).toNat = i + 1 := by omega
    (repeat' ((conv => whnf); first | rw [q0] | rw [q3] | rw [q5] | rw [hn1] | rw [hb1] | rw [hset] | rw [hbs] | rw [hbset] | refine XC.go 78 77 cA2 rfl rfl fun fp1' fp2' => ?_ | refine XC.go 78 77 cH2 rfl rfl fun fp1' fp2' => ?_ | refine XC.go 78 77 cE2 rfl rfl fun fp1' fp2' => ?_ | refine spliceI (q := orb T.M u q i) (by omega) (by omega) ?_ | refine ⟨⟨rfl,by rw [ints_length]; omega⟩,spliceI (q := i + 1) (by omega) (by omega) ?_⟩ | refine ⟨_,⟨rfl,trivial⟩,?_⟩ | (refine bcase_prop (fun h => ?_) (fun h => ?_) <;> try (exfalso; omega)) | (refine bcase_nprop (fun h => ?_) (fun h => ?_) <;> try (exfalso; omega)) | (refine bcase_intro (fun h => ?_) (fun h => ?_) <;> (try simp only [Bool.not_eq_true',Bool.not_eq_false',decide_eq_true_eq,decide_eq_false_iff_not,Bool.not_eq_true,Bool.not_eq_false,Decidable.not_not] at h)) | refine pay ?_ | refine And.intro (by first | exact ⟨rfl,by rw [ints_length]; omega⟩) ?_ | intro _)); (all_goals (conv => whnf))
    all_goals first | (exfalso; omega) | skip
    exact loop_next ⟨i + 1,_,_⟩ ⟨hnd2,hlo2⟩ (show 256 - (i + 1) < 256 - i by omega) (by (repeat ((conv => whnf); refine And.intro (by first | exact rfl | exact vint_eq (by omega) | exact vint_eq (by (dsimp only; omega)) | exact vsl_eq (by omega) | exact vsl_eq (by first | (dsimp only; omega) | (simp; done) | (simp; omega))) ?_)); exact trivial) (Ref.takes [78,77,5,11,12] rfl (.packE (.packE (Thin.refl _))))
end Go.Proofs.Ytjmlialibdobpaa
/- Counting and finding hits: the program. -/
namespace Go.Proofs.Ytjmlialibdobpaa
open Go.EG
attribute [local irreducible] CallK QCall Go.Calls
set_option linter.unusedSimpArgs false
set_option linter.unusedVariables false
set_option linter.unusedSectionVars false
set_option maxRecDepth 20000
set_option maxHeartbeats 4000000
theorem In.beside2 {w0 w : World} {fp0 : List Nat} {key key1 key2 : Nat} {fp1 fp2 : List Nat} {α β : Type} {fA : α → List Ent} {fB : β → List Ent} {Lr : List Ent} {a : Option Addr} {n c T sz : Nat} {xs : List Value} (hR : R w0 fp0 (packE key1 fp1 fA :: packE key2 fp2 fB :: Lr) w) (h : ownAt key Lr = some ⟨a,n,c,T,sz,xs⟩) : In w (fp1 ++ fp2) a xs := by
  have := In.besideL (L0 := [packE key1 fp1 fA,packE key2 fp2 fB]) hR h
  simpa [packE,Ent.fp,fps] using this
structure NlG where
  id : Int
  q : Nat
  n : Nat
  rd : Nat
  f1 : List Nat
  f2 : List Nat
section
variable {T : Tb} {kk : Nat} {S : Sto} (bt bs : Nat) (h : ScOk T kk S) (hb : T.back = false)
include h hb
theorem calls_lcheck {id : Int} (hk : known S id) : XC fn_locate_check #[pS bt,.int .i64 id] bt bs T S .nilIface := by
  intro k1 k2 fp1 fp2 w hR
  have hR : R w (fp1 ++ fp2) [packE 78 fp1 (fX bt bs T S.E),packE 77 fp2 (fS bs S)] w := (Thin.packE (Thin.packE (.nil []))).ref w hR
  refine part_call [.v (pS bt),.v (.int .i64 id)] ok_locate_check (by simp) hR ?_
  have c1 := calls_TStore2 bt bs T S.E
  have cB := calls_TBack2 bt bs T S.E
  rw [hb] at cB
  have cL := calls_sLen bs S
  have k1' := hk.1
  have k2' := hk.2
  (repeat' ((conv => whnf); first | (refine CallK_pack (key := 78) rfl (fun w hR h0 => c1 _ _ _ h0) ?_; rintro _ _ ⟨rfl,rfl⟩; refine ⟨.v _,rfl,?_⟩) | (refine CallK_pack (key := 78) rfl (fun w hR h0 => cB _ _ _ h0) ?_; rintro _ _ ⟨rfl,rfl⟩; refine ⟨.v _,rfl,?_⟩) | refine SC.go 77 cL rfl fun fp' => ?_ | refine ⟨_,⟨rfl,trivial⟩,?_⟩ | (refine bcase_prop (fun h => ?_) (fun h => ?_) <;> try (exfalso; omega)) | (refine bcase_nprop (fun h => ?_) (fun h => ?_) <;> try (exfalso; omega)) | (refine bcase_intro (fun h => ?_) (fun h => ?_) <;> (try simp only [Bool.not_eq_true',Bool.not_eq_false',decide_eq_true_eq,decide_eq_false_iff_not,Bool.not_eq_true,Bool.not_eq_false,Decidable.not_not] at h)) | refine pay ?_ | intro _)); (all_goals (conv => whnf))
  all_goals first | (exfalso; omega) | skip
  exact ⟨endXP (Ref.takes [78,77] rfl (Thin.refl _)) rfl⟩
theorem calls_nth (hB : HitB T S) {id : Int} (h1 : 1 ≤ id) (h2 : id ≤ S.E.length) {q : Nat} (hq : q < T.M.nx.length) {n : Nat} (hn : n < runH T.M T.H q (otx T S id)) :
    XC fn_locate_nth #[pS bt,.int .i64 id,.int .i64 q,.int .i64 n] bt bs T S (.int .i64 (nthH T.M T.H n q (otx T S id) : Nat)) := by
  intro k1 k2 fp1 fp2 w hR
  have hR : R w (fp1 ++ fp2) [packE 78 fp1 (fX bt bs T S.E),packE 77 fp2 (fS bs S)] w := (Thin.packE (Thin.packE (.nil []))).ref w hR
  refine part_call [.v (pS bt),.v (.int .i64 id),.v (.int .i64 q),.v (.int .i64 n)] ok_locate_nth (by simp) hR ?_
  have hLM : LM = 1152921504606846976 := rfl
  have hle0 := nthH_le (M := T.M) (H := T.H) n q (otx T S id)
  rw [otx_len] at hle0
  have hle1 := h.wf.le h2
  have hnL := hB id q ⟨by omega,h2⟩ hq
  obtain ⟨F,hF⟩ : ∃ F,nthH T.M T.H n q (otx T S id) = F := ⟨_,rfl⟩
  rw [hF] at hle0 ⊢
  have hFle : F ≤ LM := by omega
  have c1 := calls_TStore2 bt bs T S.E
  (repeat' ((conv => whnf); first | (refine bcase_prop (fun h => ?_) (fun h => ?_) <;> try (exfalso; omega)) | (refine bcase_nprop (fun h => ?_) (fun h => ?_) <;> try (exfalso; omega)) | (refine bcase_intro (fun h => ?_) (fun h => ?_) <;> (try simp only [Bool.not_eq_true',Bool.not_eq_false',decide_eq_true_eq,decide_eq_false_iff_not,Bool.not_eq_true,Bool.not_eq_false,Decidable.not_not] at h)) | refine pay ?_ | intro _)); (all_goals (conv => whnf))
  refine VC_loop NlG (fun x => [(0,.v (pS bt)),(1,.v (.int .i64 x.id)),(2,.v (.int .i64 x.q)),(3,.v (.int .i64 x.n)),(9,.v (.int .i64 x.rd))])
    (fun x => [packE 78 x.f1 (fX bt bs T S.E),packE 77 x.f2 (fS bs S)])
    (fun x => (1 ≤ x.id ∧ x.id ≤ S.E.length) ∧ x.q < T.M.nx.length ∧ x.n < runH T.M T.H x.q (otx T S x.id) ∧ x.rd + nthH T.M T.H x.n x.q (otx T S x.id) = F) (fun x => x.id.toNat) ⟨id,q,n,0,fp1,fp2⟩ ⟨⟨h1,h2⟩,hq,hn,by rw [Nat.zero_add]; exact hF⟩ (by (repeat ((conv => whnf); refine And.intro (by first | exact rfl | exact vint_eq (by omega) | exact vint_eq (by (dsimp only; omega)) | exact vsl_eq (by omega) | exact vsl_eq (by first | (dsimp only; omega) | (simp; done) | (simp; omega))) ?_)); exact trivial) (Ref.takes [78,77] rfl (.packE (.packE (.nil _)))) ?_
  clear hn hF h1 h2 hq hle0 hle1 hnL
  rintro ⟨id,q,n,rd,g1,g2⟩ ⟨⟨h1,h2⟩,hq,hn,hF⟩
  dsimp only at h1 h2 hq hn hF ⊢
  have hnL := hB id q ⟨by omega,h2⟩ hq
  have c2 := calls_Rule bs S id h.wf.small
  rw [ruleV_ok h1 h2] at c2
  have hv := otx_view h.wf T h1 h2
  rw [hb] at hv
  simp only [Bool.false_eq_true,reduceIte] at hv
  generalize (atE S.E id).r = r at *
  rcases hv with ⟨hk,hl⟩ | ⟨hk,he,ha,hb'⟩ | ⟨hk,he,ha,ht,hlm,hl1⟩
  · have hf1 : nthH T.M T.H n q (otx T S id) = 1 := by
      have := nthH_le (M := T.M) (H := T.H) n q (otx T S id)
      have h0 : nthH T.M T.H n q (otx T S id) ≠ 0 := fun e => by have := nthH_zero.1 e; omega
      omega
    rw [hf1] at hF
    (repeat' ((conv => whnf); first | (refine CallK_pack (key := 78) rfl (fun w hR h0 => c1 _ _ _ h0) ?_; rintro _ _ ⟨rfl,rfl⟩; refine ⟨.v _,rfl,?_⟩) | refine SC.go 77 c2 rfl fun fp' => ?_ | refine ⟨_,⟨rfl,trivial⟩,?_⟩ | (refine bcase_prop (fun h => ?_) (fun h => ?_) <;> try (exfalso; omega)) | (refine bcase_nprop (fun h => ?_) (fun h => ?_) <;> try (exfalso; omega)) | (refine bcase_intro (fun h => ?_) (fun h => ?_) <;> (try simp only [Bool.not_eq_true',Bool.not_eq_false',decide_eq_true_eq,decide_eq_false_iff_not,Bool.not_eq_true,Bool.not_eq_false,Decidable.not_not] at h)) | refine pay ?_ | intro _)); (all_goals (conv => whnf))
    all_goals first | (exfalso; omega) | skip
    refine ⟨endXP (Ref.takes [78,77] rfl (Thin.refl _)) ?_⟩
    congr 1; omega
  · have ka : known S r.a := ⟨by omega,by omega⟩
    have kb : known S r.b := ⟨by omega,by omega⟩
    rw [he] at hn hF hnL
    have cA := calls_above bt bs h hB ka hq n
    by_cases hh : n < runH T.M T.H q (otx T S r.a)
    · rw [decide_eq_true hh] at cA
      have hne : nthH T.M T.H n q (otx T S r.a) ≠ 0 := fun e => by have := nthH_zero.1 e; omega
      rw [nthH_append,if_neg hne] at hF
      (repeat' ((conv => whnf); first | (refine CallK_pack (key := 78) rfl (fun w hR h0 => c1 _ _ _ h0) ?_; rintro _ _ ⟨rfl,rfl⟩; refine ⟨.v _,rfl,?_⟩) | refine SC.go 77 c2 rfl fun fp' => ?_ | refine XC.go 78 77 cA rfl rfl fun fp1' fp2' => ?_ | refine ⟨_,⟨rfl,trivial⟩,?_⟩ | (refine bcase_prop (fun h => ?_) (fun h => ?_) <;> try (exfalso; omega)) | (refine bcase_nprop (fun h => ?_) (fun h => ?_) <;> try (exfalso; omega)) | (refine bcase_intro (fun h => ?_) (fun h => ?_) <;> (try simp only [Bool.not_eq_true',Bool.not_eq_false',decide_eq_true_eq,decide_eq_false_iff_not,Bool.not_eq_true,Bool.not_eq_false,Decidable.not_not] at h)) | refine pay ?_ | intro _)); (all_goals (conv => whnf))
      all_goals first | (exfalso; omega) | skip
      exact loop_next ⟨r.a,q,n,rd,_,_⟩ ⟨⟨ha.1,ka.2⟩,hq,hh,hF⟩ (show r.a.toNat < id.toNat by omega) (by (repeat ((conv => whnf); refine And.intro (by first | exact rfl | exact vint_eq (by omega) | exact vint_eq (by (dsimp only; omega)) | exact vsl_eq (by omega) | exact vsl_eq (by first | (dsimp only; omega) | (simp; done) | (simp; omega))) ?_)); exact trivial) (Ref.takes [78,77] rfl (.packE (.packE (.nil _))))
    · rw [decide_eq_false hh] at cA
      rw [runH_append] at hn hnL
      have c7 := calls_scSize bt bs h ka
      have c8 := calls_scEnd bt bs h ka hq
      have hlt := h.lt ka hq
      have cH := calls_THits bt bs T h.ok S h.wf h.clo r.a q (h.all r.a)
      have hbd := hB r.a q ka hq
      have hcH : XC fn_P_transfer_Table_Hits #[pS bt,.int .i64 r.a,.int .i64 q] bt bs T S (.tuple #[.int .i64 (runH T.M T.H q (otx T S r.a) : Nat),.nilIface]) := by
        unfold otx at hbd ⊢
        rw [show hitV T S r.a q = _ from if_pos ⟨ka,by omega,by omega⟩,Int.toNat_natCast,if_pos hbd] at cH
        exact cH
      have h0 : nthH T.M T.H n q (otx T S r.a) = 0 := nthH_zero.2 (by omega)
      have hn2 : n - runH T.M T.H q (otx T S r.a) < runH T.M T.H (runE T.M q (otx T S r.a)) (otx T S r.b) := by omega
      have hne : nthH T.M T.H (n - runH T.M T.H q (otx T S r.a)) (runE T.M q (otx T S r.a)) (otx T S r.b) ≠ 0 := fun e => by have := nthH_zero.1 e; omega
      rw [nthH_append,if_pos h0,if_neg hne,otx_len] at hF
      generalize runE T.M q (otx T S r.a) = q' at *
      (repeat' ((conv => whnf); first | (refine CallK_pack (key := 78) rfl (fun w hR h0 => c1 _ _ _ h0) ?_; rintro _ _ ⟨rfl,rfl⟩; refine ⟨.v _,rfl,?_⟩) | refine SC.go 77 c2 rfl fun fp' => ?_ | refine XC.go 78 77 cA rfl rfl fun fp1' fp2' => ?_ | refine XC.go 78 77 hcH rfl rfl fun fp1' fp2' => ?_ | refine XC.go 78 77 c7 rfl rfl fun fp1' fp2' => ?_ | refine XC.go 78 77 c8 rfl rfl fun fp1' fp2' => ?_ | refine ⟨_,⟨rfl,trivial⟩,?_⟩ | (refine bcase_prop (fun h => ?_) (fun h => ?_) <;> try (exfalso; omega)) | (refine bcase_nprop (fun h => ?_) (fun h => ?_) <;> try (exfalso; omega)) | (refine bcase_intro (fun h => ?_) (fun h => ?_) <;> (try simp only [Bool.not_eq_true',Bool.not_eq_false',decide_eq_true_eq,decide_eq_false_iff_not,Bool.not_eq_true,Bool.not_eq_false,Decidable.not_not] at h)) | refine pay ?_ | intro _)); (all_goals (conv => whnf))
      all_goals first | (exfalso; omega) | skip
      exact loop_next ⟨r.b,q',n - runH T.M T.H q (otx T S r.a),rd + (tm S.E r.a).len,_,_⟩ ⟨⟨hb'.1,kb.2⟩,hlt,hn2,by rw [← hF,Nat.add_assoc]⟩ (show r.b.toNat < id.toNat by omega) (by (repeat ((conv => whnf); refine And.intro (by first | exact rfl | exact vint_eq (by omega) | exact vint_eq (by (dsimp only; omega)) | exact vsl_eq (by omega) | exact vsl_eq (by first | (dsimp only; omega) | (simp; done) | (simp; omega))) ?_)); exact trivial) (Ref.takes [78,77] rfl (.packE (.packE (.nil _))))
  · have ka : known S r.a := ⟨by omega,by omega⟩
    rw [he] at hn hF hnL
    obtain ⟨j,hj⟩ := nth_some hn
    have c4 := calls_nthCopy bt bs h hB r ka hq (j := j) (n := n) (by omega) (by omega) (by
      have : r.t.toNat * 1 ≤ LM := Nat.le_trans (Nat.mul_le_mul_left _ hl1) hlm
      omega) hn hj
    obtain ⟨e1,e2⟩ := nthH_rep hj hn
    have hlt := hj.lt hn
    have c5 := calls_scSize bt bs h ka
    have hql := orb_lt h.ok.m (h.byt ka) hq j
    rw [e1,otx_len] at hF
    have hP : ((j : Nat) : Int) * ((tm S.E r.a).len : Nat) = ((j * (tm S.E r.a).len : Nat) : Int) := (Int.natCast_mul ..).symm
    have hPb : j * (tm S.E r.a).len ≤ LM := Nat.le_trans (Nat.mul_le_mul_right _ (by omega)) hlm
    generalize j * (tm S.E r.a).len = P at *
    generalize orb T.M (otx T S r.a) q j = q' at *
    generalize n - runH T.M T.H q (rep j (otx T S r.a)) = n' at *
    (repeat' ((conv => whnf); first | rw [hP] | (refine CallK_pack (key := 78) rfl (fun w hR h0 => c1 _ _ _ h0) ?_; rintro _ _ ⟨rfl,rfl⟩; refine ⟨.v _,rfl,?_⟩) | refine SC.go 77 c2 rfl fun fp' => ?_ | refine XC.go 78 77 c4 rfl rfl fun fp1' fp2' => ?_ | refine XC.go 78 77 c5 rfl rfl fun fp1' fp2' => ?_ | refine ⟨_,⟨rfl,trivial⟩,?_⟩ | (refine bcase_prop (fun h => ?_) (fun h => ?_) <;> try (exfalso; omega)) | (refine bcase_nprop (fun h => ?_) (fun h => ?_) <;> try (exfalso; omega)) | (refine bcase_intro (fun h => ?_) (fun h => ?_) <;> (try simp only [Bool.not_eq_true',Bool.not_eq_false',decide_eq_true_eq,decide_eq_false_iff_not,Bool.not_eq_true,Bool.not_eq_false,Decidable.not_not] at h)) | refine pay ?_ | intro _)); (all_goals (conv => whnf))
    all_goals first | (exfalso; omega) | skip
    exact loop_next ⟨r.a,q',n',rd + P,_,_⟩ ⟨⟨ha.1,ka.2⟩,hql,e2,by rw [← hF,Nat.add_assoc]⟩ (show r.a.toNat < id.toNat by omega) (by (repeat ((conv => whnf); refine And.intro (by first | exact rfl | exact vint_eq (by omega) | exact vint_eq (by (dsimp only; omega)) | exact vsl_eq (by omega) | exact vsl_eq (by first | (dsimp only; omega) | (simp; done) | (simp; omega))) ?_)); exact trivial) (Ref.takes [78,77] rfl (.packE (.packE (.nil _))))
end
end Go.Proofs.Ytjmlialibdobpaa
/- Count,Nth,Next,Prev: the program. -/
namespace Go.Proofs.Ytjmlialibdobpaa
open Go.EG
attribute [local irreducible] CallK QCall Go.Calls
set_option linter.unusedSimpArgs false
set_option linter.unusedVariables false
set_option linter.unusedSectionVars false
set_option maxRecDepth 20000
set_option maxHeartbeats 4000000
def st0 (T : Tb) : Nat := T.M.start.toNat
section
variable {T : Tb} {kk : Nat} {S : Sto} (bt bs : Nat) (h : ScOk T kk S) (hb : T.back = false)
include h hb
theorem otx_fwd (n : Int) : otx T S n = (tm S.E n).txt := by unfold otx; rw [hb]; rfl
theorem calls_LCnt {id : Int} (hk : known S id) {i m : Nat} (hi : i + m ≤ (tm S.E id).len) (hL : runH T.M T.H (runE T.M (st0 T) ((tm S.E id).txt.take i)) (((tm S.E id).txt.drop i).take m) ≤ LM) :
    XC fn_locate_Count #[pS bt,.int .i64 id,.int .i64 i,.int .i64 m] bt bs T S (.tuple #[.int .i64 (runH T.M T.H (runE T.M (st0 T) ((tm S.E id).txt.take i)) (((tm S.E id).txt.drop i).take m) : Nat),.nilIface]) := by
  intro k1 k2 fp1 fp2 w hR
  have hR : R w (fp1 ++ fp2) [packE 78 fp1 (fX bt bs T S.E),packE 77 fp2 (fS bs S)] w := (Thin.packE (Thin.packE (.nil []))).ref w hR
  refine part_call [.v (pS bt),.v (.int .i64 id),.v (.int .i64 i),.v (.int .i64 m)] ok_locate_Count (by simp) hR ?_
  have hLM : LM = 1152921504606846976 := rfl
  have hle := h.wf.le hk.2
  have hms := h.ok.m.start
  have hs0 : T.M.start = ((st0 T : Nat) : Int) := by unfold st0; omega
  have hsN : st0 T < T.M.nx.length := by unfold st0; omega
  have cC := calls_lcheck bt bs h hb hk
  have cS := calls_scSize bt bs h hk
  have cR := calls_lRange i m (tm S.E id).txt.length hle
  rw [show rangeRes (i : Int) (m : Int) (tm S.E id).txt.length = .nilIface from if_pos ⟨by omega,by omega,by unfold Tm.len at hi; omega,by unfold Tm.len at hi; omega⟩] at cR
  have cP := fun fp1 fp2 w hR => calls_scParts bt bs h hk (i := 0) (m := i) (by omega) fp1 fp2 w hR
  rw [hb,show ori false (((tm S.E id).txt.drop 0).take i) = (tm S.E id).txt.take i from rfl] at cP
  have cM := fun fp (w : World) hR => calls_TMachine bt bs T h.ok S.E 78 (fp := fp) (w := w) hR
  have hst : ∀ y : MA,y.m = T.M → y.start = ((st0 T : Nat) : Int) := fun y hy => by
    have := congrArg Mch.start hy
    rw [← hs0]; exact this
  have cT := fun {ps} (hP : Prs T S ((tm S.E id).txt.take i) ps) a c fp1 fp2 w hR hin => calls_Through bt bs h hP a c hsN fp1 fp2 w hR hin
  have hq1 : runE T.M (st0 T) ((tm S.E id).txt.take i) < T.M.nx.length := runE_lt h.ok.m (fun b hb' => h.wf.byt _ _ (Nat.le_refl _) hk.2 b (List.mem_of_mem_take hb')) hsN
  have cQ := calls_TPart bt bs T h.ok S h.wf h.clo id i m (runE T.M (st0 T) ((tm S.E id).txt.take i) : Nat) (h.all id)
  rw [show prtV T S id i m (runE T.M (st0 T) ((tm S.E id).txt.take i) : Nat) = _ from if_pos ⟨hk,by omega,by omega⟩,if_pos ⟨by omega,by omega,by unfold Tm.len at hi; omega,by unfold Tm.len at hi; omega⟩,hb,Int.toNat_natCast,Int.toNat_natCast,Int.toNat_natCast] at cQ
  rw [show ori false (((tm S.E id).txt.drop i).take m) = ((tm S.E id).txt.drop i).take m from rfl,if_pos hL] at cQ
  generalize runH T.M T.H (runE T.M (st0 T) ((tm S.E id).txt.take i)) (((tm S.E id).txt.drop i).take m) = X at *
  generalize runE T.M (runE T.M (st0 T) ((tm S.E id).txt.take i)) (((tm S.E id).txt.drop i).take m) = Y at *
  generalize runE T.M (st0 T) ((tm S.E id).txt.take i) = q1 at *
  (repeat' ((conv => whnf); first | refine XC.go 78 77 cC rfl rfl fun fp1' fp2' => ?_ | refine XC.go 78 77 cS rfl rfl fun fp1' fp2' => ?_ | (first | refine puK cR ?_ | refine quK cR ?_) | (refine CallK_pack2 (key1 := 78) (key2 := 77) rfl rfl (fun w hR h0 => cP _ _ _ h0) ?_; rintro _ _ ⟨ps,aP,cP2,y1,y2,rfl,hP,rfl⟩; refine ⟨.v _,rfl,?_⟩) | (refine CallK_pack (key := 78) rfl (fun w hR h0 => cM _ w h0) ?_; rintro _ _ ⟨⟨ys,yc,yca,ycc,yn,yna,ync,ya,yaa,yac⟩,F,rfl,hF,hy,rfl⟩; obtain rfl := hst _ hy; refine ⟨.v _,rfl,?_⟩) | (refine CallK_pack2 (key1 := 78) (key2 := 77) rfl rfl (fun w hR h0 => cT hP _ _ _ _ _ h0 (In.beside2 (key := 880) hR rfl)) ?_; rintro _ _ ⟨rfl,z1,z2,rfl⟩; refine ⟨.v _,rfl,?_⟩) | refine XC.go 78 77 cQ rfl rfl fun fp1' fp2' => ?_ | refine ⟨_,⟨rfl,trivial⟩,?_⟩ | (refine bcase_prop (fun h => ?_) (fun h => ?_) <;> try (exfalso; omega)) | (refine bcase_nprop (fun h => ?_) (fun h => ?_) <;> try (exfalso; omega)) | (refine bcase_intro (fun h => ?_) (fun h => ?_) <;> (try simp only [Bool.not_eq_true',Bool.not_eq_false',decide_eq_true_eq,decide_eq_false_iff_not,Bool.not_eq_true,Bool.not_eq_false,Decidable.not_not] at h)) | refine pay ?_ | intro _)); (all_goals (conv => whnf))
  all_goals first | (exfalso; omega) | skip
  exact ⟨endXP (Ref.takes [78,77] rfl (Thin.refl _)) rfl⟩
theorem calls_LNth (hB : HitB T S) {id : Int} (h1 : 1 ≤ id) (h2 : id ≤ S.E.length) (n : Int) :
    XC fn_locate_Nth #[pS bt,.int .i64 id,.int .i64 n] bt bs T S (if 0 ≤ n ∧ n ≤ LM then (if n.toNat < runH T.M T.H (st0 T) (tm S.E id).txt then .tuple #[.int .i64 (nthH T.M T.H n.toNat (st0 T) (tm S.E id).txt : Nat),.nilIface] else .tuple #[.int .i64 0,errV 5]) else .tuple #[.int .i64 0,errV 1]) := by
  intro k1 k2 fp1 fp2 w hR
  have hR : R w (fp1 ++ fp2) [packE 78 fp1 (fX bt bs T S.E),packE 77 fp2 (fS bs S)] w := (Thin.packE (Thin.packE (.nil []))).ref w hR
  refine part_call [.v (pS bt),.v (.int .i64 id),.v (.int .i64 n)] ok_locate_Nth (by simp) hR ?_
  have hLM : LM = 1152921504606846976 := rfl
  have hms := h.ok.m.start
  have hs0 : T.M.start = ((st0 T : Nat) : Int) := by unfold st0; omega
  have hsN : st0 T < T.M.nx.length := by unfold st0; omega
  have cM := fun fp (w : World) hR => calls_TMachine bt bs T h.ok S.E 78 (fp := fp) (w := w) hR
  have hst : ∀ y : MA,y.m = T.M → y.start = ((st0 T : Nat) : Int) := fun y hy => by
    have := congrArg Mch.start hy
    rw [← hs0]; exact this
  have hk : known S id := ⟨by omega,h2⟩
  have cC := calls_lcheck bt bs h hb hk
  have cV := calls_lValid n
  by_cases hn : 0 ≤ n ∧ n ≤ 1152921504606846976
  case neg =>
    rw [if_neg (by rw [hLM]; exact hn)]
    rw [decide_eq_false hn] at cV
    (repeat' ((conv => whnf); first | refine XC.go 78 77 cC rfl rfl fun fp1' fp2' => ?_ | (first | refine puK cV ?_ | refine quK cV ?_) | refine ⟨_,⟨rfl,trivial⟩,?_⟩ | (refine bcase_prop (fun h => ?_) (fun h => ?_) <;> try (exfalso; omega)) | (refine bcase_nprop (fun h => ?_) (fun h => ?_) <;> try (exfalso; omega)) | (refine bcase_intro (fun h => ?_) (fun h => ?_) <;> (try simp only [Bool.not_eq_true',Bool.not_eq_false',decide_eq_true_eq,decide_eq_false_iff_not,Bool.not_eq_true,Bool.not_eq_false,Decidable.not_not] at h)) | refine pay ?_ | intro _)); (all_goals (conv => whnf))
    all_goals first | (exfalso; omega) | skip
    exact ⟨endXP (Ref.takes [78,77] rfl (Thin.refl _)) rfl⟩
  rw [if_pos (by rw [hLM]; exact hn)]
  rw [decide_eq_true hn] at cV
  obtain ⟨m,rfl⟩ : ∃ m : Nat,n = m := ⟨n.toNat,by omega⟩
  rw [Int.toNat_natCast]
  have cA := calls_above bt bs h hB hk hsN m
  rw [otx_fwd h hb] at cA
  by_cases hh : m < runH T.M T.H (st0 T) (tm S.E id).txt
  · rw [if_pos hh]
    rw [decide_eq_true hh] at cA
    have cN := calls_nth bt bs h hb hB h1 h2 hsN (n := m) (by rw [otx_fwd h hb]; exact hh)
    rw [otx_fwd h hb] at cN
    (repeat' ((conv => whnf); first | refine XC.go 78 77 cC rfl rfl fun fp1' fp2' => ?_ | (first | refine puK cV ?_ | refine quK cV ?_) | (refine CallK_pack (key := 78) rfl (fun w hR h0 => cM _ w h0) ?_; rintro _ _ ⟨⟨ys,yc,yca,ycc,yn,yna,ync,ya,yaa,yac⟩,F,rfl,hF,hy,rfl⟩; obtain rfl := hst _ hy; refine ⟨.v _,rfl,?_⟩) | refine XC.go 78 77 cA rfl rfl fun fp1' fp2' => ?_ | refine XC.go 78 77 cN rfl rfl fun fp1' fp2' => ?_ | refine ⟨_,⟨rfl,trivial⟩,?_⟩ | (refine bcase_prop (fun h => ?_) (fun h => ?_) <;> try (exfalso; omega)) | (refine bcase_nprop (fun h => ?_) (fun h => ?_) <;> try (exfalso; omega)) | (refine bcase_intro (fun h => ?_) (fun h => ?_) <;> (try simp only [Bool.not_eq_true',Bool.not_eq_false',decide_eq_true_eq,decide_eq_false_iff_not,Bool.not_eq_true,Bool.not_eq_false,Decidable.not_not] at h)) | refine pay ?_ | intro _)); (all_goals (conv => whnf))
    all_goals first | (exfalso; omega) | skip
    exact ⟨endXP (Ref.takes [78,77] rfl (Thin.refl _)) rfl⟩
  · rw [if_neg hh]
    rw [decide_eq_false hh] at cA
    (repeat' ((conv => whnf); first | refine XC.go 78 77 cC rfl rfl fun fp1' fp2' => ?_ | (first | refine puK cV ?_ | refine quK cV ?_) | (refine CallK_pack (key := 78) rfl (fun w hR h0 => cM _ w h0) ?_; rintro _ _ ⟨⟨ys,yc,yca,ycc,yn,yna,ync,ya,yaa,yac⟩,F,rfl,hF,hy,rfl⟩; obtain rfl := hst _ hy; refine ⟨.v _,rfl,?_⟩) | refine XC.go 78 77 cA rfl rfl fun fp1' fp2' => ?_ | refine ⟨_,⟨rfl,trivial⟩,?_⟩ | (refine bcase_prop (fun h => ?_) (fun h => ?_) <;> try (exfalso; omega)) | (refine bcase_nprop (fun h => ?_) (fun h => ?_) <;> try (exfalso; omega)) | (refine bcase_intro (fun h => ?_) (fun h => ?_) <;> (try simp only [Bool.not_eq_true',Bool.not_eq_false',decide_eq_true_eq,decide_eq_false_iff_not,Bool.not_eq_true,Bool.not_eq_false,Decidable.not_not] at h)) | refine pay ?_ | intro _)); (all_goals (conv => whnf))
    all_goals first | (exfalso; omega) | skip
    exact ⟨endXP (Ref.takes [78,77] rfl (Thin.refl _)) rfl⟩
theorem calls_LNext {id : Int} (hk : known S id) {i : Nat} (hi : i ≤ (tm S.E id).len) :
    XC fn_locate_Next #[pS bt,.int .i64 id,.int .i64 i] bt bs T S (if fstH T.M T.H (runE T.M (st0 T) ((tm S.E id).txt.take i)) ((tm S.E id).txt.drop i) = 0 then .tuple #[.int .i64 0,errV 5] else .tuple #[.int .i64 ((i : Int) + (fstH T.M T.H (runE T.M (st0 T) ((tm S.E id).txt.take i)) ((tm S.E id).txt.drop i) : Nat)),.nilIface]) := by
  intro k1 k2 fp1 fp2 w hR
  have hR : R w (fp1 ++ fp2) [packE 78 fp1 (fX bt bs T S.E),packE 77 fp2 (fS bs S)] w := (Thin.packE (Thin.packE (.nil []))).ref w hR
  refine part_call [.v (pS bt),.v (.int .i64 id),.v (.int .i64 i)] ok_locate_Next (by simp) hR ?_
  have hLM : LM = 1152921504606846976 := rfl
  have hms := h.ok.m.start
  have hs0 : T.M.start = ((st0 T : Nat) : Int) := by unfold st0; omega
  have hsN : st0 T < T.M.nx.length := by unfold st0; omega
  have cM := fun fp (w : World) hR => calls_TMachine bt bs T h.ok S.E 78 (fp := fp) (w := w) hR
  have hst : ∀ y : MA,y.m = T.M → y.start = ((st0 T : Nat) : Int) := fun y hy => by
    have := congrArg Mch.start hy
    rw [← hs0]; exact this
  have hle := h.wf.le hk.2
  have cC := calls_lcheck bt bs h hb hk
  have cS := calls_scSize bt bs h hk
  have cP := fun fp1 fp2 w hR => calls_scParts bt bs h hk (i := 0) (m := i) (by omega) fp1 fp2 w hR
  rw [hb,show ori false (((tm S.E id).txt.drop 0).take i) = (tm S.E id).txt.take i from rfl] at cP
  have cP3 := fun fp1 fp2 w hR => calls_scParts bt bs h hk (i := i) (m := (tm S.E id).len - i) (by omega) fp1 fp2 w hR
  have e3 : ((tm S.E id).txt.drop i).take ((tm S.E id).len - i) = (tm S.E id).txt.drop i := List.take_of_length_le (by rw [List.length_drop]; exact Nat.le_refl _)
  rw [hb,e3,show ori false ((tm S.E id).txt.drop i) = (tm S.E id).txt.drop i from rfl,show (((tm S.E id).len - i : Nat) : Int) = ((tm S.E id).len : Int) - (i : Int) by omega] at cP3
  have cT := fun {ps} (hP : Prs T S ((tm S.E id).txt.take i) ps) a c fp1 fp2 w hR hin => calls_Through bt bs h hP a c hsN fp1 fp2 w hR hin
  have hq1 : runE T.M (st0 T) ((tm S.E id).txt.take i) < T.M.nx.length := runE_lt h.ok.m (fun b hb' => h.wf.byt _ _ (Nat.le_refl _) hk.2 b (List.mem_of_mem_take hb')) hsN
  have hdl : ((tm S.E id).txt.drop i).length = (tm S.E id).len - i := List.length_drop
  have cF := fun {ps} (hP : Prs T S ((tm S.E id).txt.drop i) ps) a c fp1 fp2 w hR hin => calls_scFirst bt bs h hP (by omega) a c hq1 fp1 fp2 w hR hin
  have hfl := fstH_le (M := T.M) (H := T.H) (runE T.M (st0 T) ((tm S.E id).txt.take i)) ((tm S.E id).txt.drop i)
  generalize fstH T.M T.H (runE T.M (st0 T) ((tm S.E id).txt.take i)) ((tm S.E id).txt.drop i) = X at *
  generalize runE T.M (st0 T) ((tm S.E id).txt.take i) = q1 at *
  by_cases hx : X = 0
  · subst hx
    rw [if_pos rfl]
    (repeat' ((conv => whnf); first | refine XC.go 78 77 cC rfl rfl fun fp1' fp2' => ?_ | refine XC.go 78 77 cS rfl rfl fun fp1' fp2' => ?_ | (refine CallK_pack2 (key1 := 78) (key2 := 77) rfl rfl (fun w hR h0 => cP _ _ _ h0) ?_; rintro _ _ ⟨ps,aP,cP2,y1,y2,rfl,hP,rfl⟩; refine ⟨.v _,rfl,?_⟩) | (refine CallK_pack (key := 78) rfl (fun w hR h0 => cM _ w h0) ?_; rintro _ _ ⟨⟨ys,yc,yca,ycc,yn,yna,ync,ya,yaa,yac⟩,F,rfl,hF,hy,rfl⟩; obtain rfl := hst _ hy; refine ⟨.v _,rfl,?_⟩) | (refine CallK_pack2 (key1 := 78) (key2 := 77) rfl rfl (fun w hR h0 => cT hP _ _ _ _ _ h0 (In.beside2 (key := 880) hR rfl)) ?_; rintro _ _ ⟨rfl,z1,z2,rfl⟩; refine ⟨.v _,rfl,?_⟩) | (refine CallK_pack2 (key1 := 78) (key2 := 77) rfl rfl (fun w hR h0 => cP3 _ _ _ h0) ?_; rintro _ _ ⟨ps,aP,cP2,y1,y2,rfl,hP,rfl⟩; refine ⟨.v _,rfl,?_⟩) | (refine CallK_pack2 (key1 := 78) (key2 := 77) rfl rfl (fun w hR h0 => cF hP _ _ _ _ _ h0 (In.beside2 (key := 880) hR rfl)) ?_; rintro _ _ ⟨rfl,z1,z2,rfl⟩; refine ⟨.v _,rfl,?_⟩) | refine ⟨_,⟨rfl,trivial⟩,?_⟩ | (refine bcase_prop (fun h => ?_) (fun h => ?_) <;> try (exfalso; omega)) | (refine bcase_nprop (fun h => ?_) (fun h => ?_) <;> try (exfalso; omega)) | (refine bcase_intro (fun h => ?_) (fun h => ?_) <;> (try simp only [Bool.not_eq_true',Bool.not_eq_false',decide_eq_true_eq,decide_eq_false_iff_not,Bool.not_eq_true,Bool.not_eq_false,Decidable.not_not] at h)) | refine pay ?_ | intro _)); (all_goals (conv => whnf))
    all_goals first | (exfalso; omega) | skip
    exact ⟨endXP (Ref.takes [78,77] rfl (Thin.refl _)) rfl⟩
  · rw [if_neg hx]
    (repeat' ((conv => whnf); first | refine XC.go 78 77 cC rfl rfl fun fp1' fp2' => ?_ | refine XC.go 78 77 cS rfl rfl fun fp1' fp2' => ?_ | (refine CallK_pack2 (key1 := 78) (key2 := 77) rfl rfl (fun w hR h0 => cP _ _ _ h0) ?_; rintro _ _ ⟨ps,aP,cP2,y1,y2,rfl,hP,rfl⟩; refine ⟨.v _,rfl,?_⟩) | (refine CallK_pack (key := 78) rfl (fun w hR h0 => cM _ w h0) ?_; rintro _ _ ⟨⟨ys,yc,yca,ycc,yn,yna,ync,ya,yaa,yac⟩,F,rfl,hF,hy,rfl⟩; obtain rfl := hst _ hy; refine ⟨.v _,rfl,?_⟩) | (refine CallK_pack2 (key1 := 78) (key2 := 77) rfl rfl (fun w hR h0 => cT hP _ _ _ _ _ h0 (In.beside2 (key := 880) hR rfl)) ?_; rintro _ _ ⟨rfl,z1,z2,rfl⟩; refine ⟨.v _,rfl,?_⟩) | (refine CallK_pack2 (key1 := 78) (key2 := 77) rfl rfl (fun w hR h0 => cP3 _ _ _ h0) ?_; rintro _ _ ⟨ps,aP,cP2,y1,y2,rfl,hP,rfl⟩; refine ⟨.v _,rfl,?_⟩) | (refine CallK_pack2 (key1 := 78) (key2 := 77) rfl rfl (fun w hR h0 => cF hP _ _ _ _ _ h0 (In.beside2 (key := 880) hR rfl)) ?_; rintro _ _ ⟨rfl,z1,z2,rfl⟩; refine ⟨.v _,rfl,?_⟩) | refine ⟨_,⟨rfl,trivial⟩,?_⟩ | (refine bcase_prop (fun h => ?_) (fun h => ?_) <;> try (exfalso; omega)) | (refine bcase_nprop (fun h => ?_) (fun h => ?_) <;> try (exfalso; omega)) | (refine bcase_intro (fun h => ?_) (fun h => ?_) <;> (try simp only [Bool.not_eq_true',Bool.not_eq_false',decide_eq_true_eq,decide_eq_false_iff_not,Bool.not_eq_true,Bool.not_eq_false,Decidable.not_not] at h)) | refine pay ?_ | intro _)); (all_goals (conv => whnf))
    all_goals first | (exfalso; omega) | skip
    exact ⟨endXP (Ref.takes [78,77] rfl (Thin.refl _)) rfl⟩
theorem calls_LPrev {id : Int} (hk : known S id) {i : Nat} (hi : i ≤ (tm S.E id).len) :
    XC fn_locate_Prev #[pS bt,.int .i64 id,.int .i64 i] bt bs T S (if lstH T.M T.H (st0 T) ((tm S.E id).txt.take i) = 0 then .tuple #[.int .i64 0,errV 5] else .tuple #[.int .i64 (lstH T.M T.H (st0 T) ((tm S.E id).txt.take i) : Nat),.nilIface]) := by
  intro k1 k2 fp1 fp2 w hR
  have hR : R w (fp1 ++ fp2) [packE 78 fp1 (fX bt bs T S.E),packE 77 fp2 (fS bs S)] w := (Thin.packE (Thin.packE (.nil []))).ref w hR
  refine part_call [.v (pS bt),.v (.int .i64 id),.v (.int .i64 i)] ok_locate_Prev (by simp) hR ?_
  have hLM : LM = 1152921504606846976 := rfl
  have hms := h.ok.m.start
  have hs0 : T.M.start = ((st0 T : Nat) : Int) := by unfold st0; omega
  have hsN : st0 T < T.M.nx.length := by unfold st0; omega
  have cM := fun fp (w : World) hR => calls_TMachine bt bs T h.ok S.E 78 (fp := fp) (w := w) hR
  have hst : ∀ y : MA,y.m = T.M → y.start = ((st0 T : Nat) : Int) := fun y hy => by
    have := congrArg Mch.start hy
    rw [← hs0]; exact this
  have hle := h.wf.le hk.2
  have cC := calls_lcheck bt bs h hb hk
  have cS := calls_scSize bt bs h hk
  have cP := fun fp1 fp2 w hR => calls_scParts bt bs h hk (i := 0) (m := i) (by omega) fp1 fp2 w hR
  rw [hb,show ori false (((tm S.E id).txt.drop 0).take i) = (tm S.E id).txt.take i from rfl] at cP
  have htl : ((tm S.E id).txt.take i).length ≤ (tm S.E id).len := by rw [List.length_take]; exact Nat.min_le_right _ _
  have cF := fun {ps} (hP : Prs T S ((tm S.E id).txt.take i) ps) a c fp1 fp2 w hR hin => calls_scLast bt bs h hP (by omega) a c hsN fp1 fp2 w hR hin
  have hfl := lstH_le (M := T.M) (H := T.H) (st0 T) ((tm S.E id).txt.take i)
  generalize lstH T.M T.H (st0 T) ((tm S.E id).txt.take i) = X at *
  by_cases hx : X = 0
  · subst hx
    rw [if_pos rfl]
    (repeat' ((conv => whnf); first | refine XC.go 78 77 cC rfl rfl fun fp1' fp2' => ?_ | refine XC.go 78 77 cS rfl rfl fun fp1' fp2' => ?_ | (refine CallK_pack2 (key1 := 78) (key2 := 77) rfl rfl (fun w hR h0 => cP _ _ _ h0) ?_; rintro _ _ ⟨ps,aP,cP2,y1,y2,rfl,hP,rfl⟩; refine ⟨.v _,rfl,?_⟩) | (refine CallK_pack (key := 78) rfl (fun w hR h0 => cM _ w h0) ?_; rintro _ _ ⟨⟨ys,yc,yca,ycc,yn,yna,ync,ya,yaa,yac⟩,F,rfl,hF,hy,rfl⟩; obtain rfl := hst _ hy; refine ⟨.v _,rfl,?_⟩) | (refine CallK_pack2 (key1 := 78) (key2 := 77) rfl rfl (fun w hR h0 => cF hP _ _ _ _ _ h0 (In.beside2 (key := 880) hR rfl)) ?_; rintro _ _ ⟨rfl,z1,z2,rfl⟩; refine ⟨.v _,rfl,?_⟩) | refine ⟨_,⟨rfl,trivial⟩,?_⟩ | (refine bcase_prop (fun h => ?_) (fun h => ?_) <;> try (exfalso; omega)) | (refine bcase_nprop (fun h => ?_) (fun h => ?_) <;> try (exfalso; omega)) | (refine bcase_intro (fun h => ?_) (fun h => ?_) <;> (try simp only [Bool.not_eq_true',Bool.not_eq_false',decide_eq_true_eq,decide_eq_false_iff_not,Bool.not_eq_true,Bool.not_eq_false,Decidable.not_not] at h)) | refine pay ?_ | intro _)); (all_goals (conv => whnf))
    all_goals first | (exfalso; omega) | skip
    exact ⟨endXP (Ref.takes [78,77] rfl (Thin.refl _)) rfl⟩
  · rw [if_neg hx]
    (repeat' ((conv => whnf); first | refine XC.go 78 77 cC rfl rfl fun fp1' fp2' => ?_ | refine XC.go 78 77 cS rfl rfl fun fp1' fp2' => ?_ | (refine CallK_pack2 (key1 := 78) (key2 := 77) rfl rfl (fun w hR h0 => cP _ _ _ h0) ?_; rintro _ _ ⟨ps,aP,cP2,y1,y2,rfl,hP,rfl⟩; refine ⟨.v _,rfl,?_⟩) | (refine CallK_pack (key := 78) rfl (fun w hR h0 => cM _ w h0) ?_; rintro _ _ ⟨⟨ys,yc,yca,ycc,yn,yna,ync,ya,yaa,yac⟩,F,rfl,hF,hy,rfl⟩; obtain rfl := hst _ hy; refine ⟨.v _,rfl,?_⟩) | (refine CallK_pack2 (key1 := 78) (key2 := 77) rfl rfl (fun w hR h0 => cF hP _ _ _ _ _ h0 (In.beside2 (key := 880) hR rfl)) ?_; rintro _ _ ⟨rfl,z1,z2,rfl⟩; refine ⟨.v _,rfl,?_⟩) | refine ⟨_,⟨rfl,trivial⟩,?_⟩ | (refine bcase_prop (fun h => ?_) (fun h => ?_) <;> try (exfalso; omega)) | (refine bcase_nprop (fun h => ?_) (fun h => ?_) <;> try (exfalso; omega)) | (refine bcase_intro (fun h => ?_) (fun h => ?_) <;> (try simp only [Bool.not_eq_true',Bool.not_eq_false',decide_eq_true_eq,decide_eq_false_iff_not,Bool.not_eq_true,Bool.not_eq_false,Decidable.not_not] at h)) | refine pay ?_ | intro _)); (all_goals (conv => whnf))
    all_goals first | (exfalso; omega) | skip
    exact ⟨endXP (Ref.takes [78,77] rfl (Thin.refl _)) rfl⟩
end
end Go.Proofs.Ytjmlialibdobpaa
/- A balanced rule of a text: the program. -/
namespace Go.Proofs.Ytjmlialibdobpaa
open Go.EG
attribute [local irreducible] CallK QCall Go.Calls
set_option linter.unusedSimpArgs false
set_option linter.unusedVariables false
set_option maxRecDepth 20000
set_option maxHeartbeats 4000000
def Top (S : Sto) (B : Nat) : Prop := ∀ n,known S n → (tm S.E n).len ≤ B
theorem put_top {S : Sto} {B : Nat} {r : Rul} (h : Top S B) (hr : (mkT S.E r).len ≤ B) : Top (stPut S r).1 B := by
  unfold stPut
  split
  · split
    · exact h
    · intro n hn
      by_cases hl : n ≤ S.E.length
      · show (tm (S.E ++ [mkE S.E r]) n).len ≤ B
        rw [tm_append hl]; exact h n ⟨hn.1,hl⟩
      · have he : n = ((S.E.length : Nat) : Int) + 1 := by
          have := hn.2
          simp [addS] at this
          omega
        subst he
        show (tm (S.E ++ [mkE S.E r]) _).len ≤ B
        rw [tm,atE_succ,getD_snoc rfl]; exact hr
  · exact h
theorem pair_top {S : Sto} {B : Nat} {i j : Int} (h : Top S B) (hr : (tm S.E i).len + (tm S.E j).len ≤ B) : Top (stPair S i j).1 B := by
  have hb : (mkT S.E (pairR i j)).len ≤ B := by
    show (Tm.pr (tm S.E i) (tm S.E j)).len ≤ B
    unfold Tm.len at *
    rw [Tm.txt,List.length_append]; exact hr
  unfold stPair
  repeat' split
  all_goals first | exact h | exact put_top h hb
theorem pow_top {S : Sto} {B : Nat} {i k : Int} (h : Top S B) (hr : (tm S.E i).len * k.toNat ≤ B) : Top (stPower S i k).1 B := by
  have hb : (mkT S.E (powR i k)).len ≤ B := by
    show (Tm.pw (tm S.E i) k.toNat).len ≤ B
    unfold Tm.len at *
    rw [Tm.txt,len_rep,Nat.mul_comm]; exact hr
  unfold stPower
  repeat' split
  all_goals first | exact h | exact put_top h hb
theorem put_ok {S : Sto} (h : WF S) {r : Rul} (hf : Fit S r) (hroom : S.E.length < S.most) :
    ∃ S' x,stPut S r = (S',x,0) ∧ WF S' ∧ Grow S S' ∧ 1 ≤ x ∧ known S' x ∧ tm S'.E x = mkT S.E r ∧ S'.E.length ≤ S.E.length + 1 := by
  obtain ⟨s1,s2,s3,s4,s5⟩ := stPut_spec h hf
  have hz : (stPut S r).2.2 = 0 := by
    cases hh : (stPut S r).2.2 with
    | zero => rfl
    | succ n => have := (s4 (by rw [hh]; simp)).2.1; omega
  obtain ⟨t1,t2,t3,_⟩ := s3 hz
  exact ⟨(stPut S r).1,(stPut S r).2.1,by rw [← hz],s1,s2,t1,t2,t3,s5⟩
theorem letT {S : Sto} (h : WF S) {l : Nat} (hl : l < 256) (hroom : S.E.length < S.most) :
    ∃ S' x,stPut S (letR l) = (S',x,0) ∧ WF S' ∧ Grow S S' ∧ 1 ≤ x ∧ known S' x ∧ (tm S'.E x).txt = [l] ∧ S'.E.length ≤ S.E.length + 1 := by
  obtain ⟨S',x,h1,h2,h3,h4,h5,h6,h7⟩ := put_ok h (fit_let S hl) hroom
  exact ⟨S',x,h1,h2,h3,h4,h5,by rw [h6]; rfl,h7⟩
theorem pairT {S : Sto} (h : WF S) {i j : Int} (h1 : 1 ≤ i) (h2 : i ≤ S.E.length) (h3 : 1 ≤ j) (h4 : j ≤ S.E.length) (hl : (tm S.E i).len + (tm S.E j).len ≤ LM) (hroom : S.E.length < S.most) :
    ∃ S' x,stPair S i j = (S',x,0) ∧ WF S' ∧ Grow S S' ∧ 1 ≤ x ∧ known S' x ∧ (tm S'.E x).txt = (tm S.E i).txt ++ (tm S.E j).txt ∧ S'.E.length ≤ S.E.length + 1 := by
  obtain ⟨S',x,e1,e2,e3,e4,e5,e6,e7⟩ := put_ok h (fit_pair h1 h2 h3 h4 hl) hroom
  refine ⟨S',x,?_,e2,e3,e4,e5,by rw [e6]; rfl,e7⟩
  unfold stPair
  rw [if_neg (by rintro (hh | hh); exact hh ⟨by omega,h2⟩; exact hh ⟨by omega,h4⟩),if_neg (by omega),if_neg (by omega),if_neg (by omega)]
  exact e1
theorem In.offB {w0 : World} {fp0 : List Nat} {a : Option Addr} {xs : List Value} (h : In w0 fp0 a xs) {c i : Nat} (n : Nat) (hc : xs.length ≤ c) : In w0 fp0 (offA a c i 1) ((xs.drop i).take n) := by
  by_cases hi : i < xs.length
  · rcases h with rfl | ⟨b,off,rfl,h1,h2,h3⟩
    · simp at hi
    · refine .inr ⟨b,off + i,?_,h1,h2,fun j v hv => ?_⟩
      · unfold offA
        rw [if_neg (by omega),Nat.mul_one]
        simp [Addr.add]
        try omega
      · rw [Nat.add_assoc]
        refine h3 _ v ?_
        rw [List.getElem?_take] at hv
        split at hv
        · simpa using hv
        · cases hv
  · exact .inl (by rw [List.drop_eq_nil_of_le (by omega)]; simp)
def byL (t : List Nat) : List Value := ints .u8 (t.map Int.ofNat)
theorem byL_len (t : List Nat) : (byL t).length = t.length := by simp [byL,ints]
theorem byL_sub (t : List Nat) (i n : Nat) : ((byL t).drop i).take n = byL ((t.drop i).take n) := by
  unfold byL ints
  rw [← List.map_drop,← List.map_drop,← List.map_take,← List.map_take]
def btQ (key b : Nat) (S : Sto) (t : List Nat) (v : Value) (L1 : List Ent) : Prop :=
  ∃ S' x fp',v = .tuple #[.int .i64 x,.nilIface] ∧ WF S' ∧ Grow S S' ∧ 1 ≤ x ∧ known S' x ∧ (tm S'.E x).txt = t ∧ (S'.E.length + 1 ≤ S.E.length + 2 * t.length ∧ ∀ B,Top S B → t.length ≤ B → Top S' B) ∧ L1 = [packE key fp' (fS b S')]
theorem calls_btext (b : Nat) : ∀ (m : Nat) (t : List Nat),t.length ≤ m → 0 < t.length → t.length ≤ LM → (∀ x ∈ t,x < 256) → ∀ (S : Sto),WF S → S.E.length + 2 * t.length ≤ S.most → ∀ (a : Option Addr) (c : Nat),t.length ≤ c → c ≤ 9223372036854775807 → ∀ (key : Nat) (fp : List Nat) (w : World),StR w key fp b S → In w fp a (byL t) →
    Calls Try.prog fn_balance_text #[pS b,.slice a t.length c] w fun e w' => ∃ v L1,e = .returned v ∧ R w fp L1 w' ∧ btQ key b S t v L1
  | 0,t,hm,h0,_,_,_,_,_,_,_,_,_,_,_,_,_,_ => absurd h0 (by omega)
  | m + 1,t,hm,h0,hLt,ht,S,hw,hroom,a,c,hc,hc2,key,fp,w,hR,hin => by
    refine part_call [.v (pS b),.v (.slice a t.length c)] ok_balance_text (by simp) (hR.key 77) ?_
    have hLM : LM = 1152921504606846976 := rfl
    by_cases h1 : t.length = 1
    · obtain ⟨l,rfl⟩ := List.length_eq_one_iff.1 h1
      have hl : l < 256 := ht l (by simp)
      obtain ⟨S',x,e1,e2,e3,e4,e5,e6,e7⟩ := letT hw hl (by rw [h1] at hroom; omega)
      have c1 := calls_Letter b S l hl hw.small
      rw [e1] at c1
      have rd := fun {L : List Ent} => rdI (L := L) (k := .u8) (zs := [(l : Int)]) hin (i := 0) (by simp)
      have nr : a ≠ none := hin.ne' (k := 0) (by simp [byL,ints])
      have z0 : ([(l : Int)] : List Int).getD 0 0 = (l : Int) := rfl
      rw [z0] at rd
      (repeat' ((conv => whnf); first | refine ⟨_,rd,?_⟩ | refine SC.go 77 c1 rfl fun fp' => ?_ | refine ⟨_,⟨rfl,trivial⟩,?_⟩ | (refine bcase_prop (fun h => ?_) (fun h => ?_) <;> try (exfalso; omega)) | (refine bcase_nprop (fun h => ?_) (fun h => ?_) <;> try (exfalso; omega)) | (refine bcase_intro (fun h => ?_) (fun h => ?_) <;> (try simp only [Bool.not_eq_true',Bool.not_eq_false',decide_eq_true_eq,decide_eq_false_iff_not,Bool.not_eq_true,Bool.not_eq_false,Decidable.not_not] at h)) | refine pay ?_ | intro _)); (all_goals (conv => whnf))
      all_goals first | (exfalso; omega) | skip
      exact ⟨⟨_,Thin.ref (.packE (.nil _)),S',x,_,rfl,e2,e3,e4,e5,e6,⟨by rw [h1]; omega,fun B hB hb => by rw [show S' = (stPut S (letR l)).1 by rw [e1]]; exact put_top hB hb⟩,rfl⟩⟩
    · obtain ⟨hf,hhf⟩ : ∃ hf,t.length / 2 = hf := ⟨_,rfl⟩
      have tl1 : (t.take hf).length = hf := by rw [List.length_take]; omega
      have tl2 : (t.drop hf).length = t.length - hf := List.length_drop
      have in1 : In w fp a (byL (t.take hf)) := by
        have := In.offB hin (c := c) (i := 0) hf (by rw [byL_len]; exact hc)
        rw [byL_sub,List.drop_zero,offA_zero] at this
        exact this
      have in2 : In w fp (offA a c hf 1) (byL (t.drop hf)) := by
        have := In.offB hin (c := c) (i := hf) (t.length - hf) (by rw [byL_len]; exact hc)
        rw [byL_sub,List.take_of_length_le (by rw [tl2]; exact Nat.le_refl _)] at this
        exact this
      have ih1 := calls_btext b m (t.take hf) (by omega) (by omega) (by omega) (fun x hx => ht x (List.mem_of_mem_take hx)) S hw (by omega) a c (by omega) hc2
      have ih2 := fun S' hw' hr' => calls_btext b m (t.drop hf) (by omega) (by omega) (by omega) (fun x hx => ht x (List.mem_of_mem_drop hx)) S' hw' hr' (offA a c hf 1) (c - hf) (by omega) (by omega)
      rw [tl1] at ih1
      rw [tl2] at ih2
      have q1 : ((t.length : Int) / 2) = (hf : Int) := by omega
      have q2 : ((hf : Nat) : Int).toNat = hf := by omega
      have hsp : t = t.take hf ++ t.drop hf := (List.take_append_drop hf t).symm
      have hz : offA a c (Int.toNat 0) 1 = a := offA_zero a c 1
      (repeat' ((conv => whnf); first | rw [q1] | rw [q2] | rw [hz] | (refine CallK_pack (key := 77) rfl (fun w' hR' h0 => ih1 _ _ w' h0 (in1.cast hR' (fun b hb => List.mem_append_left _ hb))) ?_; rintro _ _ ⟨S1,x1,f1,rfl,w1,g1,p1,k1,t1,⟨l1,b1⟩,rfl⟩; refine ⟨.v _,rfl,?_⟩) | refine ⟨_,⟨rfl,trivial⟩,?_⟩ | (refine bcase_prop (fun h => ?_) (fun h => ?_) <;> try (exfalso; omega)) | (refine bcase_nprop (fun h => ?_) (fun h => ?_) <;> try (exfalso; omega)) | (refine bcase_intro (fun h => ?_) (fun h => ?_) <;> (try simp only [Bool.not_eq_true',Bool.not_eq_false',decide_eq_true_eq,decide_eq_false_iff_not,Bool.not_eq_true,Bool.not_eq_false,Decidable.not_not] at h)) | refine pay ?_ | intro _)); (all_goals (conv => whnf))
      all_goals first | (exfalso; omega) | skip
      have gm1 := g1.most
      have ih2 := ih2 S1 w1 (by rw [gm1]; omega)
      (repeat' ((conv => whnf); first | rw [q1] | rw [q2] | (refine CallK_pack (key := 77) rfl (fun w' hR' h0 => ih2 _ _ w' h0 (in2.cast hR' (fun b hb => List.mem_append_left _ hb))) ?_; rintro _ _ ⟨S2,x2,f2,rfl,w2,g2,p2,k2,t2,⟨l2,b2⟩,rfl⟩; refine ⟨.v _,rfl,?_⟩) | refine ⟨_,⟨rfl,trivial⟩,?_⟩ | (refine bcase_prop (fun h => ?_) (fun h => ?_) <;> try (exfalso; omega)) | (refine bcase_nprop (fun h => ?_) (fun h => ?_) <;> try (exfalso; omega)) | (refine bcase_intro (fun h => ?_) (fun h => ?_) <;> (try simp only [Bool.not_eq_true',Bool.not_eq_false',decide_eq_true_eq,decide_eq_false_iff_not,Bool.not_eq_true,Bool.not_eq_false,Decidable.not_not] at h)) | refine pay ?_ | intro _)); (all_goals (conv => whnf))
      all_goals first | (exfalso; omega) | skip
      have gm2 := g2.most
      have t1' : (tm S2.E x1).txt = t.take hf := by rw [g2.tm k1.2,t1]
      have k1' := g2.known k1
      obtain ⟨S',x,e1,e2,e3,e4,e5,e6,e7⟩ := pairT w2 p1 k1'.2 p2 k2.2 (by unfold Tm.len; rw [t1',t2,tl1,tl2]; omega) (by rw [gm2,gm1]; omega)
      have hb3 : ∀ B,Top S B → t.length ≤ B → Top S' B := fun B hB hb => by
        rw [show S' = (stPair S2 x1 x2).1 by rw [e1]]
        exact pair_top (b2 B (b1 B hB (by omega)) (by omega)) (by unfold Tm.len; rw [t1',t2,tl1,tl2]; omega)
      have c3 := calls_Pair b S2 w2 x1 x2
      rw [e1] at c3
      (repeat' ((conv => whnf); first | refine SC.go 77 c3 rfl fun fp' => ?_ | refine ⟨_,⟨rfl,trivial⟩,?_⟩ | (refine bcase_prop (fun h => ?_) (fun h => ?_) <;> try (exfalso; omega)) | (refine bcase_nprop (fun h => ?_) (fun h => ?_) <;> try (exfalso; omega)) | (refine bcase_intro (fun h => ?_) (fun h => ?_) <;> (try simp only [Bool.not_eq_true',Bool.not_eq_false',decide_eq_true_eq,decide_eq_false_iff_not,Bool.not_eq_true,Bool.not_eq_false,Decidable.not_not] at h)) | refine pay ?_ | intro _)); (all_goals (conv => whnf))
      all_goals first | (exfalso; omega) | skip
      exact ⟨⟨_,Thin.ref (.packE (.nil _)),S',x,_,rfl,e2,(g1.trans g2).trans e3,e4,e5,by rw [e6,t1',t2,← hsp],⟨by omega,hb3⟩,rfl⟩⟩
theorem calls_BText (b : Nat) (t : List Nat) (h0 : 0 < t.length) (hl : t.length ≤ 65536) (ht : ∀ x ∈ t,x < 256) (S : Sto) (hw : WF S) (hroom : S.E.length + 2 * t.length ≤ S.most) (a : Option Addr) (c : Nat) (hc : t.length ≤ c) (hc2 : c ≤ 9223372036854775807) (key : Nat) (fp : List Nat) (w : World) (hR : StR w key fp b S) (hin : In w fp a (byL t)) :
    Calls Try.prog fn_balance_Text #[pS b,.slice a t.length c] w fun e w' => ∃ v L1,e = .returned v ∧ R w fp L1 w' ∧ btQ key b S t v L1 := by
  refine part_call [.v (pS b),.v (.slice a t.length c)] ok_balance_Text (by simp) (hR.key 77) ?_
  have hLM : LM = 1152921504606846976 := rfl
  have ih1 := calls_btext b t.length t (Nat.le_refl _) h0 (by omega) ht S hw hroom a c hc hc2
  (repeat' ((conv => whnf); first | (refine CallK_pack (key := 77) rfl (fun w' hR' h0 => ih1 _ _ w' h0 (hin.cast hR' (fun b hb => List.mem_append_left _ hb))) ?_; rintro _ _ ⟨S1,x1,f1,rfl,w1,g1,p1,k1,t1,l1,rfl⟩; refine ⟨.v _,rfl,?_⟩) | refine ⟨_,⟨rfl,trivial⟩,?_⟩ | (refine bcase_prop (fun h => ?_) (fun h => ?_) <;> try (exfalso; omega)) | (refine bcase_nprop (fun h => ?_) (fun h => ?_) <;> try (exfalso; omega)) | (refine bcase_intro (fun h => ?_) (fun h => ?_) <;> (try simp only [Bool.not_eq_true',Bool.not_eq_false',decide_eq_true_eq,decide_eq_false_iff_not,Bool.not_eq_true,Bool.not_eq_false,Decidable.not_not] at h)) | refine pay ?_ | intro _)); (all_goals (conv => whnf))
  all_goals first | (exfalso; omega) | skip
  exact ⟨⟨_,Thin.ref (.packE (.nil _)),S1,x1,_,rfl,w1,g1,p1,k1,t1,l1,rfl⟩⟩
end Go.Proofs.Ytjmlialibdobpaa
/- The machine of patterns. Plain Lean: no program in sight. -/
namespace Go.Proofs.Ytjmlialibdobpaa
open Go.EG
set_option linter.unusedSimpArgs false
set_option linter.unusedVariables false
structure Tri where
  ch : List ((Nat × Nat) × Nat)
  en : List Nat
  us : List Bool
def cl : List ((Nat × Nat) × Nat) → Nat → Nat → Option Nat
  | [],_,_ => none
  | (k,c) :: t,n,b => if k = (n,b) then some c else cl t n b
def addB (t : Tri) (n b : Nat) : Option (Tri × Nat) :=
  match cl t.ch n b with
  | some c => some (⟨t.ch,t.en,t.us.set b true⟩,c)
  | none => if t.en.length = 256 then none else some (⟨t.ch ++ [((n,b),t.en.length)],t.en ++ [0],t.us.set b true⟩,t.en.length)
def addBs : List Nat → Tri → Nat → Option (Tri × Nat)
  | [],t,n => some (t,n)
  | b :: p,t,n => match addB t n b with
    | some (t',n') => addBs p t' n'
    | none => none
def addP (t : Tri) (p : List Nat) : Option Tri :=
  match addBs p t 0 with
  | some (t',n) => some ⟨t'.ch,t'.en.set n (t'.en.getD n 0 + 1),t'.us⟩
  | none => none
def addAll : List (List Nat) → Tri → Option Tri
  | [],t => some t
  | p :: ps,t => match addP t p with
    | some t' => addAll ps t'
    | none => none
def tri0 : Tri := ⟨[],[0],List.replicate 256 false⟩
structure TI (t : Tri) (mx : Nat) : Prop where
  us : t.us.length = 256
  en : t.en.length = t.ch.length + 1
  cap : t.en.length ≤ 256
  num : t.ch.map (·.2) = (List.range t.ch.length).map (· + 1)
  mx : ∀ x ∈ t.en,x ≤ mx
  usd : ∀ b,t.us.getD b false = true → ∃ x ∈ t.ch,x.1.2 = b
theorem cl_mem : ∀ {l : List ((Nat × Nat) × Nat)} {n b c : Nat},cl l n b = some c → ((n,b),c) ∈ l
  | (k,d) :: t,n,b,c,h => by
    rw [cl] at h
    split at h
    · rename_i hk
      cases h; subst hk; exact List.mem_cons_self
    · exact List.mem_cons_of_mem _ (cl_mem h)
theorem getD_set {l : List Bool} {b x : Nat} (h : (l.set b true).getD x false = true) : x = b ∨ l.getD x false = true := by
  rw [List.getD_eq_getElem?_getD,List.getElem?_set] at h
  by_cases he : b = x
  · exact .inl he.symm
  · rw [if_neg he] at h; exact .inr (by rw [List.getD_eq_getElem?_getD]; exact h)
theorem TI.start : TI tri0 0 := ⟨List.length_replicate,rfl,by decide,rfl,by decide,fun b hb => by
  have e : (List.replicate 256 false).getD b false = true := hb
  rw [List.getD_eq_getElem?_getD,List.getElem?_replicate] at e
  split at e <;> cases e⟩
theorem TI.mono {t : Tri} {m m' : Nat} (h : TI t m) (hm : m ≤ m') : TI t m' := ⟨h.us,h.en,h.cap,h.num,fun x hx => Nat.le_trans (h.mx x hx) hm,h.usd⟩
theorem TI.idx {t : Tri} {m : Nat} (h : TI t m) {x : (Nat × Nat) × Nat} (hx : x ∈ t.ch) : 1 ≤ x.2 ∧ x.2 < t.en.length := by
  have : x.2 ∈ t.ch.map (·.2) := List.mem_map_of_mem hx
  rw [h.num] at this
  obtain ⟨j,hj,he⟩ := List.mem_map.1 this
  have := List.mem_range.1 hj
  have := h.en
  omega
theorem nodup_map_inj {α β : Type} {f : α → β} : ∀ {l : List α},(l.map f).Nodup → ∀ {x y : α},x ∈ l → y ∈ l → f x = f y → x = y
  | a :: l,hn,x,y,hx,hy,he => by
    rw [List.map_cons,List.nodup_cons] at hn
    rcases List.mem_cons.1 hx with hx | hx
    · rcases List.mem_cons.1 hy with hy | hy
      · rw [hx,hy]
      · exact absurd (show f a ∈ l.map f by rw [← hx,he]; exact List.mem_map_of_mem hy) hn.1
    · rcases List.mem_cons.1 hy with hy | hy
      · exact absurd (show f a ∈ l.map f by rw [← hy,← he]; exact List.mem_map_of_mem hx) hn.1
      · exact nodup_map_inj hn.2 hx hy he
theorem TI.inj {t : Tri} {m : Nat} (h : TI t m) {n b n' b' c : Nat} (h1 : cl t.ch n b = some c) (h2 : cl t.ch n' b' = some c) : n = n' ∧ b = b' := by
  have hnd : (t.ch.map (·.2)).Nodup := by
    rw [h.num]
    exact List.Pairwise.map (· + 1) (fun a b hab he => hab (Nat.succ.inj he)) List.nodup_range
  have := nodup_map_inj hnd (cl_mem h1) (cl_mem h2) rfl
  cases this; exact ⟨rfl,rfl⟩
theorem addB_ok {t : Tri} {m n b : Nat} (h : TI t m) {t' : Tri} {n' : Nat} (ha : addB t n b = some (t',n')) : TI t' m ∧ n' < t'.en.length := by
  unfold addB at ha
  split at ha
  · rename_i c hc
    cases ha
    have := (h.idx (cl_mem hc)).2
    exact ⟨⟨by simpa using h.us,h.en,h.cap,h.num,h.mx,fun x hx => by
      rcases getD_set hx with rfl | hx
      · exact ⟨_,cl_mem hc,rfl⟩
      · exact h.usd x hx⟩,this⟩
  · split at ha
    · cases ha
    · rename_i hl
      cases ha
      have hen := h.en
      have hc := h.cap
      refine ⟨⟨by simpa using h.us,by simp [hen],by simp; omega,?_,fun x hx => ?_,fun x hx => ?_⟩,by simp⟩
      · rw [List.map_append,h.num,List.length_append,List.length_singleton,List.range_succ,List.map_append,hen]; rfl
      · rcases List.mem_append.1 hx with hx | hx
        · exact h.mx x hx
        · rw [List.mem_singleton] at hx; omega
      · rcases getD_set hx with rfl | hx
        · exact ⟨_,List.mem_append_right _ (List.mem_singleton.2 rfl),rfl⟩
        · obtain ⟨y,hy,e⟩ := h.usd x hx
          exact ⟨y,List.mem_append_left _ hy,e⟩
theorem addBs_ok : ∀ {p : List Nat} {t : Tri} {m n : Nat},TI t m → n < t.en.length → ∀ {t' : Tri} {n' : Nat},addBs p t n = some (t',n') → TI t' m ∧ n' < t'.en.length
  | [],t,m,n,h,hn,t',n',ha => by cases ha; exact ⟨h,hn⟩
  | b :: p,t,m,n,h,hn,t',n',ha => by
    rw [addBs] at ha
    split at ha
    · rename_i t1 n1 h1
      obtain ⟨i1,i2⟩ := addB_ok h h1
      exact addBs_ok i1 i2 ha
    · cases ha
theorem addP_ok {t : Tri} {m : Nat} {p : List Nat} (h : TI t m) {t' : Tri} (ha : addP t p = some t') : TI t' (m + 1) := by
  unfold addP at ha
  split at ha
  · rename_i t1 n h1
    cases ha
    obtain ⟨i1,i2⟩ := addBs_ok h (by rw [h.en]; omega) h1
    refine ⟨i1.us,by simpa using i1.en,by simpa using i1.cap,i1.num,fun x hx => ?_,i1.usd⟩
    rcases List.mem_or_eq_of_mem_set hx with hx | hx
    · have := i1.mx x hx; omega
    · have : t1.en.getD n 0 ∈ t1.en := memG i2
      have := i1.mx _ this
      omega
  · cases ha
theorem addAll_ok : ∀ {ps : List (List Nat)} {t : Tri} {m : Nat},TI t m → ∀ {t' : Tri},addAll ps t = some t' → TI t' (m + ps.length)
  | [],t,m,h,t',ha => by cases ha; exact h
  | p :: ps,t,m,h,t',ha => by
    rw [addAll] at ha
    split at ha
    · rename_i t1 h1
      have := addAll_ok (addP_ok h h1) ha
      rw [List.length_cons,show m + (ps.length + 1) = m + 1 + ps.length by omega]
      exact this
    · cases ha
def letsOf (us : List Bool) : List Nat := (List.range 256).filter fun b => us.getD b false
def clsN (us : List Bool) (n : Nat) : List Int := (List.range 256).map fun b => if b < n ∧ us.getD b false = true then ((((List.range (b + 1)).filter fun x => us.getD x false).length : Nat) : Int) else 0
structure Bst where
  nd : List Nat
  fa : List Nat
  hi : List Nat
  nx : List (List Nat)
def inB (t : Tri) (n : Nat) : List Nat → Nat → List Nat → List Nat → List Nat → List Nat × List Nat × List Nat
  | [],_,nd,fa,row => (nd,fa,row)
  | b :: ls,k,nd,fa,row => match cl t.ch n b with
    | some c => inB t n ls (k + 1) (nd ++ [c]) (fa ++ [row.getD (k + 1) 0]) (row.set (k + 1) nd.length)
    | none => inB t n ls (k + 1) nd fa row
def row0 (ls : List Nat) (s : Bst) (i : Nat) : List Nat := if i = 0 then List.replicate (ls.length + 1) 0 else s.nx.getD (s.fa.getD i 0) []
def cntB (t : Tri) (s : Bst) (i : Nat) : Nat := t.en.getD (s.nd.getD i 0) 0 + (if i = 0 then 0 else s.hi.getD (s.fa.getD i 0) 0)
def stepB (t : Tri) (ls : List Nat) (s : Bst) (i : Nat) : Bst :=
  ⟨(inB t (s.nd.getD i 0) ls 0 s.nd s.fa (row0 ls s i)).1,(inB t (s.nd.getD i 0) ls 0 s.nd s.fa (row0 ls s i)).2.1,s.hi ++ [cntB t s i],s.nx ++ [(inB t (s.nd.getD i 0) ls 0 s.nd s.fa (row0 ls s i)).2.2]⟩
def runB (t : Tri) (ls : List Nat) : Nat → Bst → Nat → Bst
  | 0,s,_ => s
  | f + 1,s,i => if i < s.nd.length then runB t ls f (stepB t ls s i) (i + 1) else s
def bst0 : Bst := ⟨[0],[0],[],[]⟩
def litT (t : Tri) : Bst := runB t (letsOf t.us) 257 bst0 0
def machT (t : Tri) : Mch := ⟨0,clsN t.us 256,(litT t).nx.map fun r => r.map Int.ofNat,(litT t).hi.map fun n => decide (0 < n)⟩
def hitsT (t : Tri) : List Int := (litT t).hi.map Int.ofNat
theorem lets_nodup (us : List Bool) : (letsOf us).Nodup := List.Pairwise.filter _ List.nodup_range
structure RI (t : Tri) (i : Nat) (done : List Nat) (nd fa row : List Nat) (w : Nat) : Prop where
  nod : nd.Nodup
  cap : ∀ n ∈ nd,n < t.en.length
  fal : fa.length = nd.length
  fi : ∀ j,0 < j → j < nd.length → fa.getD j 0 < j
  from_ : ∀ j,0 < j → j < nd.length → ∃ j' b,(j' < i ∨ (j' = i ∧ b ∈ done)) ∧ j' < nd.length ∧ cl t.ch (nd.getD j' 0) b = some (nd.getD j 0)
  z : nd.getD 0 0 = 0
  ne : i < nd.length
  rl : row.length = w
  rv : ∀ x ∈ row,x < nd.length
theorem getD_app {l : List Nat} {x j : Nat} (h : j < l.length) : (l ++ [x]).getD j 0 = l.getD j 0 := by
  rw [List.getD_eq_getElem?_getD,List.getElem?_append_left h,← List.getD_eq_getElem?_getD]
theorem getD_last (l : List Nat) (x : Nat) : (l ++ [x]).getD l.length 0 = x := by
  rw [List.getD_eq_getElem?_getD,List.getElem?_append_right (Nat.le_refl _),Nat.sub_self]; rfl
theorem getD_inj {l : List Nat} (h : l.Nodup) {i j : Nat} (hi : i < l.length) (hj : j < l.length) (e : l.getD i 0 = l.getD j 0) : i = j := by
  rw [List.getD_eq_getElem?_getD,List.getD_eq_getElem?_getD,List.getElem?_eq_getElem hi,List.getElem?_eq_getElem hj] at e
  have e : l[i] = l[j] := e
  rcases Nat.lt_trichotomy i j with hl | hl | hl
  · exact absurd e (List.pairwise_iff_getElem.1 h i j hi hj hl)
  · exact hl
  · exact absurd e.symm (List.pairwise_iff_getElem.1 h j i hj hi hl)
theorem inB_ok {t : Tri} {m : Nat} (h : TI t m) {i w n : Nat} : ∀ {ls done : List Nat} {k : Nat} {nd fa row : List Nat},RI t i done nd fa row w → nd.getD i 0 = n → (done ++ ls).Nodup → k + ls.length < w → 
    ∃ done',RI t i done' (inB t n ls k nd fa row).1 (inB t n ls k nd fa row).2.1 (inB t n ls k nd fa row).2.2 w ∧ nd.length ≤ (inB t n ls k nd fa row).1.length
  | [],done,k,nd,fa,row,hI,hn,hd,hk => ⟨done,hI,Nat.le_refl _⟩
  | b :: ls,done,k,nd,fa,row,hI,hn,hd,hk => by
    have hd2 : ((done ++ [b]) ++ ls).Nodup := by rw [List.append_assoc]; exact hd
    have hbd : b ∉ done := fun hb => by
      rw [List.nodup_append] at hd
      exact hd.2.2 b hb b (by simp) rfl
    rw [List.length_cons] at hk
    rw [inB]
    cases hc : cl t.ch n b with
    | none =>
      dsimp only
      refine inB_ok h (done := done ++ [b]) ⟨hI.nod,hI.cap,hI.fal,hI.fi,fun j h0 hj => ?_,hI.z,hI.ne,hI.rl,hI.rv⟩ hn hd2 (by omega)
      obtain ⟨j',b',h1,h2,h3⟩ := hI.from_ j h0 hj
      exact ⟨j',b',h1.imp_right fun h => ⟨h.1,List.mem_append_left _ h.2⟩,h2,h3⟩
    | some c =>
      dsimp only
      have hcm := h.idx (cl_mem hc)
      have hcn : c ∉ nd := fun hm => by
        obtain ⟨j,hj,he⟩ := List.getElem_of_mem hm
        have he' : nd.getD j 0 = c := by rw [List.getD_eq_getElem?_getD,List.getElem?_eq_getElem hj]; exact he
        by_cases h0 : j = 0
        · subst h0; have := hI.z; dsimp only at hcm; omega
        · obtain ⟨j',b',h1,h2,h3⟩ := hI.from_ j (by omega) hj
          rw [he'] at h3
          obtain ⟨e1,e2⟩ := h.inj hc h3
          have : j' = i := getD_inj hI.nod h2 hI.ne (by rw [hn]; exact e1.symm)
          rcases h1 with h1 | h1
          · omega
          · exact hbd (e2 ▸ h1.2)
      have hrow : row.getD (k + 1) 0 < nd.length := hI.rv _ (memG (by have := hI.rl; omega))
      have hl : (nd ++ [c]).length = nd.length + 1 := by simp
      have hne := hI.ne
      have hfal := hI.fal
      have key : RI t i (done ++ [b]) (nd ++ [c]) (fa ++ [row.getD (k + 1) 0]) (row.set (k + 1) nd.length) w := by
        refine ⟨?_,?_,by simp [hfal],?_,?_,?_,by omega,by rw [List.length_set]; exact hI.rl,?_⟩
        · rw [List.nodup_append]
          exact ⟨hI.nod,by simp,fun a ha b hb => by rw [List.mem_singleton] at hb; subst hb; exact fun e => hcn (e ▸ ha)⟩
        · intro x hx
          rcases List.mem_append.1 hx with hx | hx
          · exact hI.cap x hx
          · rw [List.mem_singleton] at hx; subst hx; exact hcm.2
        · intro j h0 hj
          rw [hl] at hj
          by_cases hj2 : j < nd.length
          · rw [getD_app (by omega)]; exact hI.fi j h0 hj2
          · obtain rfl : j = nd.length := by omega
            rw [← hfal,getD_last,hfal]; exact hrow
        · intro j h0 hj
          rw [hl] at hj
          by_cases hj2 : j < nd.length
          · obtain ⟨j',b',h1,h2,h3⟩ := hI.from_ j h0 hj2
            exact ⟨j',b',h1.imp_right fun h => ⟨h.1,List.mem_append_left _ h.2⟩,by omega,by rw [getD_app h2,getD_app hj2]; exact h3⟩
          · obtain rfl : j = nd.length := by omega
            exact ⟨i,b,.inr ⟨rfl,by simp⟩,by omega,by rw [getD_app hne,getD_last,hn]; exact hc⟩
        · rw [getD_app (by omega)]; exact hI.z
        · intro x hx
          rw [hl]
          rcases List.mem_or_eq_of_mem_set hx with hx | hx
          · have := hI.rv x hx; omega
          · omega
      obtain ⟨done',q1,q2⟩ := inB_ok h (k := k + 1) (n := n) (ls := ls) key (by rw [getD_app hne]; exact hn) hd2 (by omega)
      exact ⟨done',q1,by omega⟩
theorem nodup_ltM : ∀ {n : Nat} {L : List Nat},L.Nodup → (∀ x ∈ L,x < n) → L.length ≤ n
  | 0,[],_,_ => Nat.le_refl _
  | 0,x :: t,_,h => absurd (h x (by simp)) (by omega)
  | n + 1,L,hn,h => by
    have h1 : (L.erase n).length ≤ n := nodup_ltM (hn.erase _) fun x hx => by
      have h2 := h x (List.mem_of_mem_erase hx)
      have h3 : x ≠ n := fun he => by
        subst he
        exact absurd hx (List.Nodup.not_mem_erase hn)
      omega
    by_cases hm : n ∈ L
    · rw [List.length_erase_of_mem hm] at h1
      omega
    · rw [List.erase_of_not_mem hm] at h1
      omega
structure BI (t : Tri) (mx : Nat) (ls : List Nat) (s : Bst) (i : Nat) : Prop where
  nod : s.nd.Nodup
  cap : ∀ n ∈ s.nd,n < t.en.length
  fal : s.fa.length = s.nd.length
  fi : ∀ j,0 < j → j < s.nd.length → s.fa.getD j 0 < j
  from_ : ∀ j,0 < j → j < s.nd.length → ∃ j' b,j' < i ∧ j' < s.nd.length ∧ cl t.ch (s.nd.getD j' 0) b = some (s.nd.getD j 0)
  z : s.nd.getD 0 0 = 0
  le : i ≤ s.nd.length
  pos : 0 < s.nd.length
  hil : s.hi.length = i
  nxl : s.nx.length = i
  row : ∀ r ∈ s.nx,r.length = ls.length + 1 ∧ ∀ x ∈ r,x < s.nd.length
  hib : ∀ j,j < i → s.hi.getD j 0 ≤ mx * (j + 1)
theorem BI.start (t : Tri) (mx : Nat) (ls : List Nat) (h : TI t mx) : BI t mx ls bst0 0 :=
  ⟨by simp [bst0],fun n hn => by simp [bst0] at hn; subst hn; rw [h.en]; omega,rfl,fun j h0 hj => by simp [bst0] at hj; omega,fun j h0 hj => by simp [bst0] at hj; omega,rfl,Nat.zero_le _,by decide,rfl,rfl,fun r hr => by simp [bst0] at hr,fun j hj => absurd hj (Nat.not_lt_zero j)⟩
theorem row0_ok {t : Tri} {mx : Nat} {ls : List Nat} {s : Bst} {i : Nat} (h : BI t mx ls s i) (hi : i < s.nd.length) : (row0 ls s i).length = ls.length + 1 ∧ ∀ x ∈ row0 ls s i,x < s.nd.length := by
  unfold row0
  by_cases h0 : i = 0
  · rw [if_pos h0]
    exact ⟨by simp,fun x hx => by have := List.eq_of_mem_replicate hx; have := h.pos; omega⟩
  · rw [if_neg h0]
    have hf := h.fi i (by omega) hi
    exact h.row _ (memG (by rw [h.nxl]; exact hf))
theorem cntB_le {t : Tri} {mx : Nat} {ls : List Nat} {s : Bst} {i : Nat} (hT : TI t mx) (h : BI t mx ls s i) (hi : i < s.nd.length) : cntB t s i ≤ mx * (i + 1) := by
  unfold cntB
  have h1 : t.en.getD (s.nd.getD i 0) 0 ≤ mx := hT.mx _ (memG (h.cap _ (memG hi)))
  by_cases h0 : i = 0
  · subst h0; rw [if_pos rfl]; omega
  · rw [if_neg h0]
    have hf := h.fi i (by omega) hi
    have h2 := h.hib _ hf
    have h3 : mx * (s.fa.getD i 0 + 1) ≤ mx * i := Nat.mul_le_mul_left _ hf
    rw [Nat.mul_succ]; omega
theorem stepB_ok {t : Tri} {mx : Nat} {ls : List Nat} {s : Bst} {i : Nat} (hT : TI t mx) (hls : ls.Nodup) (h : BI t mx ls s i) (hi : i < s.nd.length) : BI t mx ls (stepB t ls s i) (i + 1) := by
  obtain ⟨r1,r2⟩ := row0_ok h hi
  obtain ⟨done',q,ql⟩ := inB_ok hT (i := i) (w := ls.length + 1) (n := s.nd.getD i 0) (ls := ls) (done := []) (k := 0) (nd := s.nd) (fa := s.fa) (row := row0 ls s i)
    ⟨h.nod,h.cap,h.fal,h.fi,fun j h0 hj => by
      obtain ⟨j',b,a1,a2,a3⟩ := h.from_ j h0 hj
      exact ⟨j',b,.inl a1,a2,a3⟩,h.z,hi,r1,r2⟩ rfl hls (by omega)
  have hc := cntB_le hT h hi
  refine ⟨q.nod,q.cap,q.fal,q.fi,fun j h0 hj => ?_,q.z,q.ne,?_,by simp [stepB,h.hil],by simp [stepB,h.nxl],fun r hr => ?_,fun j hj => ?_⟩
  · obtain ⟨j',b,a1,a2,a3⟩ := q.from_ j h0 hj
    exact ⟨j',b,by omega,a2,a3⟩
  · have := q.ne; show 0 < (inB t (s.nd.getD i 0) ls 0 s.nd s.fa (row0 ls s i)).1.length; omega
  · rcases List.mem_append.1 hr with hr | hr
    · obtain ⟨a1,a2⟩ := h.row r hr
      exact ⟨a1,fun x hx => Nat.lt_of_lt_of_le (a2 x hx) ql⟩
    · rw [List.mem_singleton] at hr
      subst hr
      exact ⟨q.rl,q.rv⟩
  · show (s.hi ++ [cntB t s i]).getD j 0 ≤ _
    by_cases hj2 : j < i
    · rw [getD_app (by rw [h.hil]; exact hj2)]; exact h.hib j hj2
    · obtain rfl : j = i := by omega
      rw [show j = s.hi.length from h.hil.symm,getD_last,h.hil]; exact hc
theorem runB_ok {t : Tri} {mx : Nat} {ls : List Nat} (hT : TI t mx) (hls : ls.Nodup) : ∀ {f : Nat} {s : Bst} {i : Nat},BI t mx ls s i → 257 ≤ f + i → BI t mx ls (runB t ls f s i) (runB t ls f s i).nd.length
  | 0,s,i,h,hf => by
    have := nodup_ltM h.nod h.cap
    have := hT.cap
    have := h.le
    omega
  | f + 1,s,i,h,hf => by
    rw [runB]
    split
    · rename_i hi
      exact runB_ok hT hls (stepB_ok hT hls h hi) (by omega)
    · rename_i hi
      have := h.le
      have e : i = s.nd.length := by omega
      rw [← e] at *
      exact h
theorem litT_ok {t : Tri} {mx : Nat} (hT : TI t mx) : BI t mx (letsOf t.us) (litT t) (litT t).nd.length := runB_ok hT (lets_nodup _) (BI.start t mx _ hT) (by omega)
theorem clsN_len (us : List Bool) (n : Nat) : (clsN us n).length = 256 := by simp [clsN]
theorem filter_le {p : Nat → Bool} : ∀ {n m : Nat},n ≤ m → ((List.range n).filter p).length ≤ ((List.range m).filter p).length := by
  intro n m h
  rw [show m = n + (m - n) by omega,List.range_add,List.filter_append,List.length_append]
  omega
theorem nodup_subN : ∀ {l L : List Nat},l.Nodup → (∀ x ∈ l,x ∈ L) → l.length ≤ L.length
  | [],L,_,_ => Nat.zero_le _
  | x :: l,L,hn,h => by
    obtain ⟨h1,h2⟩ := List.nodup_cons.1 hn
    have hx := h x List.mem_cons_self
    have ih := nodup_subN (l := l) (L := L.erase x) h2 (fun y hy => by
      have hne : y ≠ x := fun he => h1 (he ▸ hy)
      exact (List.mem_erase_of_ne hne).2 (h y (List.mem_cons_of_mem _ hy)))
    rw [List.length_erase_of_mem hx] at ih
    have : 0 < L.length := List.length_pos_of_mem hx
    rw [List.length_cons]; omega
theorem lets_le {t : Tri} {mx : Nat} (hT : TI t mx) : (letsOf t.us).length ≤ 255 := by
  have h1 := nodup_subN (l := letsOf t.us) (L := t.ch.map (·.1.2)) (lets_nodup _) fun x hx => by
    obtain ⟨y,hy,e⟩ := hT.usd x (by
      have := (List.mem_filter.1 hx).2
      simpa using this)
    exact List.mem_map.2 ⟨y,hy,e⟩
  rw [List.length_map] at h1
  have := hT.en
  have := hT.cap
  omega
theorem machT_ok {t : Tri} {mx : Nat} (hT : TI t mx) : MOk (machT t) ((letsOf t.us).length + 1) := by
  have h := litT_ok hT
  have hcap := nodup_ltM h.nod h.cap
  have hc2 := hT.cap
  have hl := lets_le hT
  have hnx : (machT t).nx.length = (litT t).nd.length := by show ((litT t).nx.map _).length = _; rw [List.length_map,h.nxl]
  have hpos := h.pos
  refine ⟨clsN_len _ _,by omega,by omega,?_,⟨Int.le_refl _,by show (0 : Int) < _; omega⟩,⟨by omega,by omega⟩,fun r hr => ?_,fun c hc => ?_⟩
  · show ((litT t).hi.map _).length = _
    rw [List.length_map,h.hil,hnx]
  · obtain ⟨r',hr',rfl⟩ := List.mem_map.1 hr
    obtain ⟨a1,a2⟩ := h.row r' hr'
    refine ⟨by rw [List.length_map]; exact a1,fun q hq => ?_⟩
    obtain ⟨x,hx,rfl⟩ := List.mem_map.1 hq
    have := a2 x hx
    rw [hnx]
    exact ⟨Int.natCast_nonneg _,Int.ofNat_lt.2 this⟩
  · obtain ⟨b,hb,rfl⟩ := List.mem_map.1 hc
    have hb2 := List.mem_range.1 hb
    split
    · have := filter_le (p := fun x => t.us.getD x false) (show b + 1 ≤ 256 by omega)
      have e : (letsOf t.us).length = ((List.range 256).filter fun x => t.us.getD x false).length := rfl
      omega
    · omega
theorem hitsT_ok {t : Tri} {mx : Nat} (hT : TI t mx) (hm : mx ≤ 4096) : (hitsT t).length = (machT t).nx.length ∧ ∀ x ∈ hitsT t,0 ≤ x ∧ x ≤ 1048576 := by
  have h := litT_ok hT
  have hcap := nodup_ltM h.nod h.cap
  have hc2 := hT.cap
  refine ⟨?_,fun x hx => ?_⟩
  · show ((litT t).hi.map _).length = ((litT t).nx.map _).length
    rw [List.length_map,List.length_map,h.hil,h.nxl]
  · obtain ⟨n,hn,rfl⟩ := List.mem_map.1 hx
    obtain ⟨j,hj,he⟩ := List.getElem_of_mem hn
    rw [h.hil] at hj
    have := h.hib j hj
    have e : (litT t).hi.getD j 0 = n := by
      rw [List.getD_eq_getElem?_getD,List.getElem?_eq_getElem (by rw [h.hil]; exact hj)]; exact he
    rw [e] at this
    have h2 : mx * (j + 1) ≤ 4096 * 256 := Nat.mul_le_mul hm (by omega)
    exact ⟨Int.natCast_nonneg _,by show (n : Int) ≤ _; omega⟩
end Go.Proofs.Ytjmlialibdobpaa
/- Prefixes are added: the program. -/
namespace Go.Proofs.Ytjmlialibdobpaa
open Go.EG
attribute [local irreducible] CallK QCall Go.Calls
set_option linter.unusedSimpArgs false
set_option linter.unusedVariables false
set_option maxRecDepth 20000
set_option maxHeartbeats 4000000
abbrev chK (n b : Nat) : Value := .agg #[.int .i64 (n : Int),.int .u8 (b : Int)]
theorem keyOk_ch (n b : Nat) : keyOk (.agg [.int .i64,.int .u8]) (chK n b) := ⟨_,rfl,⟨rfl,rfl⟩,⟨rfl,rfl⟩,trivial⟩
def chm (ch : List ((Nat × Nat) × Nat)) : List (Value × Value) := ch.map fun x => (chK x.1.1 x.1.2,.int .i64 (x.2 : Int))
theorem chK_eq {n b n' b' : Nat} : keyEq (chK n b) (chK n' b') = true ↔ (n,b) = (n',b') := by
  simp [keyEq,eqCells,chK]
  omega
theorem chm_get : ∀ {ch : List ((Nat × Nat) × Nat)} {n b : Nat},mget (chm ch) (chK n b) = (cl ch n b).map fun c => .int .i64 (c : Int)
  | [],n,b => rfl
  | (k,c) :: t,n,b => by
    have ih := chm_get (ch := t) (n := n) (b := b)
    simp only [chm,List.map_cons,mget,cl] at ih ⊢
    by_cases he : (n,b) = k
    · subst he
      rw [if_pos (chK_eq.2 rfl),if_pos rfl]; rfl
    · rw [if_neg (fun h => he (chK_eq.1 h)),if_neg (fun h => he h.symm)]
      exact ih
theorem chm_set : ∀ {ch : List ((Nat × Nat) × Nat)} {n b c : Nat},cl ch n b = none → mset (chm ch) (chK n b) (.int .i64 (c : Int)) = chm (ch ++ [((n,b),c)])
  | [],n,b,c,_ => rfl
  | (k,d) :: t,n,b,c,h => by
    rw [cl] at h
    by_cases he : k = (n,b)
    · rw [if_pos he] at h; cases h
    · rw [if_neg he] at h
      have ih := chm_set (c := c) h
      simp only [chm,List.map_cons,mset,List.cons_append] at ih ⊢
      rw [if_neg (fun h => he (chK_eq.1 h).symm),ih]
def enL (en : List Nat) : List Value := ints .i64 (en.map Int.ofNat)
theorem enL_len (en : List Nat) : (enL en).length = en.length := by simp [enL,ints]
def usL (us : List Bool) : List Value := us.map Value.bool
abbrev triC (t : Tri) (mb : Nat) (a : Option Addr) (c : Nat) : List Value := .map (some mb) :: .slice a t.en.length c :: usL t.us
abbrev triL (bt mb : Nat) (t : Tri) (a : Option Addr) (c : Nat) : List Ent :=
  [.box 3200 bt (triC t mb a c) ty_literal_trie,.mapE 3201 mb (.agg [.int .i64,.int .u8]) (chm t.ch),.own 3202 a t.en.length c ty_int 1 (enL t.en)]
theorem spliceB {us : List Bool} {x y : Value} {off b : Nat} {K : List Value → Prop} (h : off = 2 + b) (hb : b < us.length) (hk : K (x :: y :: usL (us.set b true))) : spliceK off (x :: y :: usL us) [.bool true] K := by
  subst h
  have hl : b < (us.map Value.bool).length := by simpa using hb
  refine spliceK_in (by simp [usL]; omega) ?_
  have e : splice (x :: y :: usL us) (2 + b) [.bool true] = x :: y :: usL (us.set b true) := by
    unfold splice usL
    rw [List.map_set,List.set_eq_take_append_cons_drop,if_pos hl,show 2 + b = b + 1 + 1 by omega]
    simp
  rw [e]; exact hk
theorem spliceZ {cs : List Value} {K : List Value → Prop} (h : K cs) : spliceK 0 cs [] K := by cases cs <;> exact h
def adQ (bt mb : Nat) (r : Option Tri) (v : Value) (L1 : List Ent) : Prop :=
  match r with
  | some t => ∃ a c,v = .bool true ∧ L1 = triL bt mb t a c
  | none => v = .bool false ∧ L1 = []
structure AdG where
  i : Nat
  t : Tri
  n : Nat
  a : Option Addr
  c : Nat
theorem calls_tadd {mx : Nat} (bt mb : Nat) (t : Tri) (hT : TI t mx) (hm4 : mx ≤ 4096) (a : Option Addr) (c : Nat) (p : List Nat) (hp : ∀ x ∈ p,x < 256) (hpl : p.length ≤ 9223372036854775807) (pa : Option Addr) (pc : Nat) (fp : List Nat) (w : World) (hR : R w fp (triL bt mb t a c) w) (hin : In w fp pa (byL p)) :
    Calls Try.prog fn_P_literal_trie_add #[pS bt,.slice pa p.length pc] w fun e w' => ∃ v L1,e = .returned v ∧ R w fp L1 w' ∧ adQ bt mb (addP t p) v L1 := by
  refine part_call [.ptr 3200 bt 0,.v (.slice pa p.length pc)] ok_P_literal_trie_add (by simp) hR ?_
  (repeat' ((conv => whnf); first | (refine bcase_prop (fun h => ?_) (fun h => ?_) <;> try (exfalso; omega)) | (refine bcase_nprop (fun h => ?_) (fun h => ?_) <;> try (exfalso; omega)) | (refine bcase_intro (fun h => ?_) (fun h => ?_) <;> (try simp only [Bool.not_eq_true',Bool.not_eq_false',decide_eq_true_eq,decide_eq_false_iff_not,Bool.not_eq_true,Bool.not_eq_false,Decidable.not_not] at h)) | refine pay ?_ | intro _)); (all_goals (conv => whnf))
  refine VC_loop AdG (fun x => [(0,.ptr 3200 bt 0),(5,.v (.int .i64 x.n)),(10,.v (.slice pa p.length pc)),(11,.v (.int .i64 p.length)),(12,.v (.int .i64 x.i))])
    (fun x => triL bt mb x.t x.a x.c) (fun x => x.i ≤ p.length ∧ TI x.t mx ∧ x.n < x.t.en.length ∧ addBs (p.drop x.i) x.t x.n = addBs p t 0) (fun x => p.length - x.i) ⟨0,t,0,a,c⟩ ⟨Nat.zero_le _,hT,by dsimp only; rw [hT.en]; omega,rfl⟩ (by (repeat ((conv => whnf); refine And.intro (by first | exact rfl | exact vint_eq (by omega) | exact vint_eq (by (dsimp only; omega)) | exact vsl_eq (by omega) | exact vsl_eq (by first | (dsimp only; omega) | (simp; done) | (simp; omega))) ?_)); exact trivial) (Ref.takes [3200,3201,3202] rfl (Thin.refl _)) ?_
  rintro ⟨i,t',n,a',c'⟩ ⟨hi,hI,hn,he⟩
  dsimp only at hi hI hn he ⊢
  have hcap := hI.cap
  have hus := hI.us
  by_cases hlt : i < p.length
  · obtain ⟨b,hb⟩ : ∃ b,p[i]? = some b := ⟨_,List.getElem?_eq_getElem hlt⟩
    have hb2 : b < 256 := hp b (List.mem_of_getElem? hb)
    have hbd : (p.map Int.ofNat).getD i 0 = (b : Int) := by rw [List.getD_eq_getElem?_getD,List.getElem?_map,hb]; rfl
    have rd := fun {L : List Ent} => rdI (L := L) (k := .u8) (zs := p.map Int.ofNat) hin (i := i) (by simpa using hlt)
    rw [hbd] at rd
    have nr : pa ≠ none := hin.ne' (k := i) (by rw [byL_len]; exact hlt)
    have q0 : ((i : Nat) : Int).toNat = i := by omega
    have q1 : ((b : Nat) : Int).toNat = b := by omega
    have hdr : p.drop i = b :: p.drop (i + 1) := by
      obtain ⟨h1,h2⟩ := List.getElem?_eq_some_iff.1 hb
      rw [← h2]; exact (List.getElem_cons_drop h1).symm
    rw [hdr,addBs] at he
    have hg := chm_get (ch := t'.ch) (n := n) (b := b)
    have hkk := keyOk_ch n b
    cases hc : cl t'.ch n b with
    | some d =>
      rw [hc,Option.map_some] at hg
      have hab : addB t' n b = some (⟨t'.ch,t'.en,t'.us.set b true⟩,d) := by unfold addB; rw [hc]
      rw [hab] at he
      obtain ⟨i1,i2⟩ := addB_ok hI hab
      (repeat' ((conv => whnf); first | rw [q0] | rw [q1] | refine ⟨_,rd,?_⟩ | refine lk_some hg ?_ | refine ⟨⟨rfl,by simp [usL]; omega⟩,spliceB (b := b) (by omega) (by omega) ?_⟩ | refine ⟨.mp 3201 _,⟨rfl,rfl⟩,?_⟩ | refine ⟨_,⟨rfl,trivial⟩,?_⟩ | (refine bcase_prop (fun h => ?_) (fun h => ?_) <;> try (exfalso; omega)) | (refine bcase_nprop (fun h => ?_) (fun h => ?_) <;> try (exfalso; omega)) | (refine bcase_intro (fun h => ?_) (fun h => ?_) <;> (try simp only [Bool.not_eq_true',Bool.not_eq_false',decide_eq_true_eq,decide_eq_false_iff_not,Bool.not_eq_true,Bool.not_eq_false,Decidable.not_not] at h)) | refine pay ?_ | refine And.intro (by first | exact ⟨rfl,rfl,hkk⟩) ?_ | intro _)); (all_goals (conv => whnf))
      all_goals first | (exfalso; omega) | skip
      exact loop_next ⟨i + 1,⟨t'.ch,t'.en,t'.us.set b true⟩,d,a',c'⟩ ⟨hlt,i1,i2,he⟩ (show p.length - (i + 1) < p.length - i by omega) (by (repeat ((conv => whnf); refine And.intro (by first | exact rfl | exact vint_eq (by omega) | exact vint_eq (by (dsimp only; omega)) | exact vsl_eq (by omega) | exact vsl_eq (by first | (dsimp only; omega) | (simp; done) | (simp; omega))) ?_)); exact trivial) (Ref.takes [3200,3201,3202] rfl (Thin.refl _))
    | none =>
      rw [hc,Option.map_none] at hg
      by_cases hfull : t'.en.length = 256
      · have hab : addB t' n b = none := by unfold addB; rw [hc]; exact if_pos hfull
        rw [hab] at he
        have hnone : addP t p = none := by unfold addP; rw [← he]
        rw [hnone]
        (repeat' ((conv => whnf); first | rw [q0] | rw [q1] | refine ⟨_,rd,?_⟩ | refine lk_none hg ?_ | refine ⟨⟨rfl,by simp [usL]; omega⟩,spliceB (b := b) (by omega) (by omega) ?_⟩ | refine ⟨.mp 3201 _,⟨rfl,rfl⟩,?_⟩ | refine ⟨_,⟨rfl,trivial⟩,?_⟩ | (refine bcase_prop (fun h => ?_) (fun h => ?_) <;> try (exfalso; omega)) | (refine bcase_nprop (fun h => ?_) (fun h => ?_) <;> try (exfalso; omega)) | (refine bcase_intro (fun h => ?_) (fun h => ?_) <;> (try simp only [Bool.not_eq_true',Bool.not_eq_false',decide_eq_true_eq,decide_eq_false_iff_not,Bool.not_eq_true,Bool.not_eq_false,Decidable.not_not] at h)) | refine pay ?_ | refine And.intro (by first | exact ⟨rfl,rfl,hkk⟩) ?_ | intro _)); (all_goals (conv => whnf))
        all_goals first | (exfalso; omega) | skip
        exact ⟨⟨[],Ref.takes [] rfl (.nil _),rfl,rfl⟩⟩
      · have hab : addB t' n b = some (⟨t'.ch ++ [((n,b),t'.en.length)],t'.en ++ [0],t'.us.set b true⟩,t'.en.length) := by unfold addB; rw [hc]; exact if_neg hfull
        rw [hab] at he
        obtain ⟨i1,i2⟩ := addB_ok hI hab
        have hset := chm_set (c := t'.en.length) hc
        have hen : enL t'.en ++ [.int .i64 0] = enL (t'.en ++ [0]) := by
          unfold enL; rw [List.map_append]; exact ints_snoc
        have hel : (t'.en ++ [0]).length = t'.en.length + 1 := by simp
        (repeat' ((conv => whnf); first | rw [q0] | rw [q1] | rw [hset] | rw [hen] | refine ⟨_,rd,?_⟩ | refine lk_none hg ?_ | refine spliceZ ?_ | refine ⟨⟨rfl,by simp [usL]; omega⟩,spliceB (b := b) (by omega) (by omega) ?_⟩ | refine ⟨.mp 3201 _,⟨rfl,rfl⟩,?_⟩ | refine ⟨.sl 3202 _ _ _,⟨rfl,rfl,rfl,rfl⟩,?_⟩ | refine ⟨_,⟨rfl,trivial⟩,?_⟩ | (refine bcase_prop (fun h => ?_) (fun h => ?_) <;> try (exfalso; omega)) | (refine bcase_nprop (fun h => ?_) (fun h => ?_) <;> try (exfalso; omega)) | (refine bcase_intro (fun h => ?_) (fun h => ?_) <;> (try simp only [Bool.not_eq_true',Bool.not_eq_false',decide_eq_true_eq,decide_eq_false_iff_not,Bool.not_eq_true,Bool.not_eq_false,Decidable.not_not] at h)) | refine pay ?_ | refine And.intro (by first | exact ⟨rfl,rfl,hkk⟩ | exact ⟨by unfold maxLen; omega,by omega⟩) ?_ | intro _)); (all_goals (conv => whnf))
        all_goals first | (exfalso; omega) | skip
        rename_i a2 c2
        refine loop_next ⟨i + 1,⟨t'.ch ++ [((n,b),t'.en.length)],t'.en ++ [0],t'.us.set b true⟩,t'.en.length,a2,c2⟩ ⟨hlt,i1,i2,he⟩ (show p.length - (i + 1) < p.length - i by omega) (by (repeat ((conv => whnf); refine And.intro (by first | exact rfl | exact vint_eq (by omega) | exact vint_eq (by (dsimp only; omega)) | exact vsl_eq (by omega) | exact vsl_eq (by first | (dsimp only; omega) | (simp; done) | (simp; omega))) ?_)); exact trivial) ?_
        dsimp only [triL,triC]
        rw [hel]
        exact Ref.takes [3200,3201,3202] rfl (Thin.refl _)
  · obtain rfl : i = p.length := by omega
    rw [List.drop_length,addBs] at he
    have hadd : addP t p = some ⟨t'.ch,t'.en.set n (t'.en.getD n 0 + 1),t'.us⟩ := by unfold addP; rw [← he]
    rw [hadd]
    have q2 : ((n : Nat) : Int).toNat = n := by omega
    have hi1 : Go.EG.intOf (atL (enL t'.en) n) = ((t'.en.getD n 0 : Nat) : Int) := by
      unfold enL
      rw [intOf_ints (by simpa using hn),List.getD_eq_getElem?_getD,List.getElem?_map,List.getD_eq_getElem?_getD,List.getElem?_eq_getElem hn]; rfl
    have k1' : isK (.int .i64) (enL t'.en) n := isK_ints (by simpa using hn)
    have hsp : splice (enL t'.en) n [.int .i64 (((t'.en.getD n 0 : Nat) : Int) + 1)] = enL (t'.en.set n (t'.en.getD n 0 + 1)) := by
      unfold enL
      rw [splice_set (by simpa using hn),List.map_set]; rfl
    have hnl := enL_len t'.en
    have hmx := hI.mx _ (memG (d := 0) hn)
    have hsl : (t'.en.set n (t'.en.getD n 0 + 1)).length = t'.en.length := List.length_set
    (repeat' ((conv => whnf); first | rw [q2] | rw [Nat.mul_one] | rw [hi1] | rw [hsp] | refine ⟨.sl 3202 _ _ _,⟨rfl,rfl,rfl,rfl⟩,?_⟩ | refine ⟨_,⟨rfl,trivial⟩,?_⟩ | (refine bcase_prop (fun h => ?_) (fun h => ?_) <;> try (exfalso; omega)) | (refine bcase_nprop (fun h => ?_) (fun h => ?_) <;> try (exfalso; omega)) | (refine bcase_intro (fun h => ?_) (fun h => ?_) <;> (try simp only [Bool.not_eq_true',Bool.not_eq_false',decide_eq_true_eq,decide_eq_false_iff_not,Bool.not_eq_true,Bool.not_eq_false,Decidable.not_not] at h)) | refine pay ?_ | refine And.intro (by first | exact k1' | exact ⟨rfl,by omega⟩) ?_ | intro _)); (all_goals (conv => whnf))
    all_goals first | (exfalso; omega) | skip
    refine ⟨⟨_,?_,a',c',rfl,rfl⟩⟩
    dsimp only [triL,triC]
    rw [hsl]
    exact Ref.takes [3200,3201,3202] rfl (Thin.refl _)
end Go.Proofs.Ytjmlialibdobpaa
/- The machine of prefixes: the program. -/
namespace Go.Proofs.Ytjmlialibdobpaa
open Go.EG
attribute [local irreducible] CallK QCall Go.Calls
set_option linter.unusedSimpArgs false
set_option linter.unusedVariables false
set_option maxRecDepth 20000
set_option maxHeartbeats 4000000
theorem takeK_all : ∀ {n : Nat} {cs : List Value} {K : List Value → Prop},cs.length = n → K cs → takeK n cs K
  | 0,[],K,_,hk => hk
  | 0,_ :: _,K,h,_ => by simp at h
  | n + 1,[],K,h,_ => by simp at h
  | n + 1,c :: cs,K,h,hk => takeK_all (n := n) (K := fun l => K (c :: l)) (by simpa using h) hk
theorem FIn.rds {w0 : World} {fp0 : List Nat} {L Lr : List Ent} {key : Nat} {F : List Frz} {a : Option Addr} {xs : List Value} {n : Nat} (hm : pickE key L = some (frE key F,Lr)) (h : FIn F a xs) (hn : n = xs.length) : RdS w0 fp0 L a n xs := by
  refine ⟨hn,?_⟩
  by_cases hx : xs = []
  · exact .inl hx
  · refine .inr fun w hR => ?_
    rcases FIn.in_ hR ((pickE_perm hm).mem_iff.2 List.mem_cons_self) h with h1 | ⟨b,off,h1,_,_,h3⟩
    · exact absurd h1 hx
    · exact ⟨b,off,h1,h3⟩
def letsN (us : List Bool) (n : Nat) : List Nat := (List.range n).filter fun b => us.getD b false
theorem letsN_all (us : List Bool) : letsN us 256 = letsOf us := rfl
theorem letsN_succ (us : List Bool) (n : Nat) : letsN us (n + 1) = if us.getD n false = true then letsN us n ++ [n] else letsN us n := by
  unfold letsN
  rw [List.range_succ,List.filter_append]
  have e : List.filter (fun b => us.getD b false) [n] = if us.getD n false = true then [n] else [] := by
    simp only [List.filter]; cases us.getD n false <;> rfl
  rw [e]
  split
  · rfl
  · exact List.append_nil _
theorem clsN_zero (us : List Bool) : clsN us 0 = List.replicate 256 0 := by
  apply List.ext_getElem?
  intro j
  by_cases hj : j < 256
  · have e : (clsN us 0)[j]? = some (if j < 0 ∧ us.getD j false = true then ((((List.range (j + 1)).filter fun x => us.getD x false).length : Nat) : Int) else 0) := by simp [clsN,List.getElem?_range hj]
    rw [e,List.getElem?_replicate,if_pos hj,if_neg (by omega)]
  · rw [List.getElem?_eq_none (by rw [clsN_len]; omega),List.getElem?_eq_none (by simp; omega)]
theorem clsN_get {us : List Bool} {n j : Nat} (hj : j < 256) : (clsN us n)[j]? = some (if j < n ∧ us.getD j false = true then (((letsN us (j + 1)).length : Nat) : Int) else 0) := by
  simp [clsN,letsN,List.getElem?_range hj]
theorem clsN_succ {us : List Bool} {n : Nat} (hn : n < 256) : clsN us (n + 1) = if us.getD n false = true then (clsN us n).set n (((letsN us n).length : Int) + 1) else clsN us n := by
  apply List.ext_getElem?
  intro j
  by_cases hj : j < 256
  · rw [clsN_get hj]
    by_cases hu : us.getD n false = true
    · rw [if_pos hu,List.getElem?_set,clsN_len]
      by_cases he : n = j
      · subst he
        rw [if_pos rfl,if_pos hn,if_pos ⟨by omega,hu⟩,letsN_succ,if_pos hu,List.length_append]; rfl
      · rw [if_neg he,clsN_get hj]
        congr 1
        by_cases hl : j < n
        · by_cases hv : us.getD j false = true
          · rw [if_pos ⟨by omega,hv⟩,if_pos ⟨hl,hv⟩]
          · rw [if_neg (fun h => hv h.2),if_neg (fun h => hv h.2)]
        · rw [if_neg (by omega),if_neg (fun h => hl h.1)]
    · rw [if_neg hu,clsN_get hj]
      congr 1
      by_cases hl : j < n
      · by_cases hv : us.getD j false = true
        · rw [if_pos ⟨by omega,hv⟩,if_pos ⟨hl,hv⟩]
        · rw [if_neg (fun h => hv h.2),if_neg (fun h => hv h.2)]
      · by_cases he : j = n
        · subst he; rw [if_neg (fun h => hu h.2),if_neg (fun h => hu h.2)]
        · rw [if_neg (by omega),if_neg (by omega)]
  · have e : (if us.getD n false = true then (clsN us n).set n (((letsN us n).length : Int) + 1) else clsN us n).length = 256 := by split <;> simp [clsN_len]
    rw [List.getElem?_eq_none (by rw [clsN_len]; omega),List.getElem?_eq_none (by omega)]
theorem letsN_le (us : List Bool) (n : Nat) : (letsN us n).length ≤ n := by
  have := List.length_filter_le (fun b => us.getD b false) (List.range n)
  rwa [List.length_range] at this
theorem letsN_lt {us : List Bool} {n b : Nat} (h : b ∈ letsN us n) : b < n := List.mem_range.1 (List.mem_filter.1 h).1
structure UsG where
  i : Nat
  a : Option Addr
  c : Nat
theorem oneAllI {k : IntKind} : ∀ zs : List Int,oneAll (ints k zs)
  | [] => trivial
  | _ :: l => ⟨trivial,oneAllI l⟩
structure MlG where
  i : Nat
  s : Bst
  nr : List RA
  F : List Frz
  na : Option Addr
  nc : Nat
  fa : Option Addr
  fc : Nat
  ha : Option Addr
  hc : Nat
  xa : Option Addr
  xc : Nat
  ca : Option Addr
  cc : Nat
structure LeG where
  k : Nat
  nd : List Nat
  fa : List Nat
  row : List Nat
  na : Option Addr
  nc : Nat
  fb : Option Addr
  fc : Nat
theorem enL_snoc {l : List Nat} {x : Nat} : enL l ++ [.int .i64 (x : Int)] = enL (l ++ [x]) := by
  unfold enL; rw [List.map_append]; exact ints_snoc
theorem enL_at {l : List Nat} {j : Nat} (h : j < l.length) : Go.EG.intOf (atL (enL l) j) = ((l.getD j 0 : Nat) : Int) := by
  unfold enL
  rw [intOf_ints (by simpa using h),List.getD_eq_getElem?_getD,List.getElem?_map,List.getD_eq_getElem?_getD,List.getElem?_eq_getElem h]; rfl
theorem byL_at {l : List Nat} {j b : Nat} (h : l[j]? = some b) : Go.EG.intOf (atL (byL l) j) = (b : Int) := by
  have hl := (List.getElem?_eq_some_iff.1 h).1
  unfold byL
  rw [intOf_ints (by simpa using hl),List.getD_eq_getElem?_getD,List.getElem?_map,h]; rfl
theorem enL_splice {l : List Nat} {q v : Nat} (h : q < l.length) : splice (enL l) q [.int .i64 (v : Int)] = enL (l.set q v) := by
  unfold enL
  rw [splice_set (by simpa using h),List.map_set]; rfl
def maQ (bt mb : Nat) (t : Tri) (v : Value) (L1 : List Ent) : Prop :=
  ∃ y F aH cH,v = .tuple #[MA.v y,.slice aH (hitsT t).length cH] ∧ y.m = machT t ∧ MFz F y ∧ L1 = [frE 79 F,.own 53 aH (hitsT t).length cH ty_int 1 (ints .i64 (hitsT t))]
theorem calls_tmach {mx : Nat} (bt mb : Nat) (t : Tri) (hT : TI t mx) (hm4 : mx ≤ 4096) (a : Option Addr) (c : Nat) (fp : List Nat) (w : World) (hR : R w fp (triL bt mb t a c) w) :
    Calls Try.prog fn_P_literal_trie_machine #[pS bt] w fun e w' => ∃ v L1,e = .returned v ∧ R w fp L1 w' ∧ maQ bt mb t v L1 := by
  refine part_call [.ptr 3200 bt 0] ok_P_literal_trie_machine (by simp) hR ?_
  have hus := hT.us
  have hul : (usL t.us).length = 256 := by simp [usL,hus]
  have z1 : (List.replicate 256 [Value.int .i64 0]).flatten = ints .i64 (clsN t.us 0) := by
    rw [clsN_zero,← flat_zeros]
  (repeat' ((conv => whnf); first | refine takeK_all hul ?_ | refine ⟨_,⟨rfl,trivial⟩,?_⟩ | (refine bcase_prop (fun h => ?_) (fun h => ?_) <;> try (exfalso; omega)) | (refine bcase_nprop (fun h => ?_) (fun h => ?_) <;> try (exfalso; omega)) | (refine bcase_intro (fun h => ?_) (fun h => ?_) <;> (try simp only [Bool.not_eq_true',Bool.not_eq_false',decide_eq_true_eq,decide_eq_false_iff_not,Bool.not_eq_true,Bool.not_eq_false,Decidable.not_not] at h)) | refine pay ?_ | refine And.intro (by first | exact ⟨rfl,by rw [List.length_cons,List.length_cons,hul]⟩) ?_ | intro _)); (all_goals (conv => whnf))
  all_goals first | (exfalso; omega) | skip
  rename_i b2 b20 b4
  refine VC_loop UsG (fun x => [(0,.ptr 3200 bt 0),(2,.ptr 2 b2 0),(3,.v (.slice none 0 0)),(4,.ptr 4 b4 0),(5,.sl 35 x.a (letsN t.us x.i).length x.c),(25,.v (.agg (usL t.us).toArray)),(26,.v (.int .i64 x.i))])
    (fun x => [.box 3200 bt (triC t mb a c) ty_literal_trie,.mapE 3201 mb (.agg [.int .i64,.int .u8]) (chm t.ch),.own 3202 a t.en.length c ty_int 1 (enL t.en),.box 2 b2 [.int .i64 0,.slice none 0 0,.slice none 0 0,.slice none 0 0] ty_api_Machine,.box 4 b4 [.int .i64 0,.slice (some ⟨b20,0,none⟩) 256 256,.slice none 0 0,.slice none 0 0] ty_api_Machine,.own 20 (some ⟨b20,0,none⟩) 256 256 ty_int 1 (ints .i64 (clsN t.us x.i)),.own 35 x.a (letsN t.us x.i).length x.c ty_uint8 1 (byL (letsN t.us x.i))])
    (fun x => x.i ≤ 256) (fun x => 256 - x.i) ⟨0,none,0⟩ (Nat.zero_le _) (by (repeat ((conv => whnf); refine And.intro (by first | exact rfl | exact vint_eq (by omega) | exact vint_eq (by (dsimp only; omega)) | exact vsl_eq (by omega) | exact vsl_eq (by first | (dsimp only; omega) | (simp; done) | (simp; omega))) ?_)); exact trivial) ((Ref.ownNil 35 ty_uint8 1).trans (Ref.takes [3200,3201,3202,2,4,20,35] rfl (.keep rfl (fun _ h => h) (.keep rfl (fun _ h => h) (.keep rfl (fun _ h => h) (.keep rfl (fun _ h => h) (.keep rfl (fun _ h => h) (.own rfl z1 (Thin.refl _))))))))) ?_
  rintro ⟨i,la,lc⟩ hi
  dsimp only at hi ⊢
  have hll := letsN_le t.us i
  have hcl := clsN_len t.us i
  by_cases hlt : i < 256
  · have hid : (usL t.us).toArray.toList[((i : Nat) : Int).toNat]? = some (.bool (t.us.getD i false)) := by
      rw [Int.toNat_natCast]
      show (t.us.map Value.bool)[i]? = _
      rw [List.getElem?_map,List.getD_eq_getElem?_getD,List.getElem?_eq_getElem (by omega)]; rfl
    have q0 : ((i : Nat) : Int).toNat = i := by omega
    have q1 : ((i : Nat) : Int) % 256 = (i : Int) := Int.emod_eq_of_lt (by omega) (by omega)
    have hls := letsN_succ t.us i
    have hcs := clsN_succ (us := t.us) hlt
    cases hu : t.us.getD i false
    · rw [hu] at hid
      rw [if_neg (by rw [hu]; decide)] at hls hcs
      (repeat' ((conv => whnf); first | rw [q0] | rw [q1] | refine ⟨_,hid,?_⟩ | refine ⟨.sl 35 _ _ _,⟨rfl,rfl,rfl,rfl⟩,?_⟩ | refine ⟨_,⟨rfl,trivial⟩,?_⟩ | (refine bcase_prop (fun h => ?_) (fun h => ?_) <;> try (exfalso; omega)) | (refine bcase_nprop (fun h => ?_) (fun h => ?_) <;> try (exfalso; omega)) | (refine bcase_intro (fun h => ?_) (fun h => ?_) <;> (try simp only [Bool.not_eq_true',Bool.not_eq_false',decide_eq_true_eq,decide_eq_false_iff_not,Bool.not_eq_true,Bool.not_eq_false,Decidable.not_not] at h)) | refine pay ?_ | intro _)); (all_goals (conv => whnf))
      all_goals first | (exfalso; omega) | skip
      refine loop_next ⟨i + 1,la,lc⟩ hlt (show 256 - (i + 1) < 256 - i by omega) (by dsimp only; rw [hls]; (repeat ((conv => whnf); refine And.intro (by first | exact rfl | exact vint_eq (by omega) | exact vint_eq (by (dsimp only; omega)) | exact vsl_eq (by omega) | exact vsl_eq (by first | (dsimp only; omega) | (simp; done) | (simp; omega))) ?_)); exact trivial) ?_
      dsimp only
      rw [hls,hcs]
      exact Ref.takes [3200,3201,3202,2,4,20,35] rfl (Thin.refl _)
    · rw [hu] at hid
      rw [if_pos hu] at hls hcs
      have hb1 : byL (letsN t.us i) ++ [.int .u8 (i : Int)] = byL (letsN t.us i ++ [i]) := by
        unfold byL; rw [List.map_append]; exact ints_snoc
      have hsp : splice (ints .i64 (clsN t.us i)) i [.int .i64 (((letsN t.us i).length + 1 : Nat) : Int)] = ints .i64 (clsN t.us (i + 1)) := by
        rw [splice_set (by omega),hcs,Int.natCast_succ]
      (repeat' ((conv => whnf); first | rw [q0] | rw [q1] | rw [hb1] | rw [hsp] | refine ⟨_,hid,?_⟩ | refine ⟨.sl 35 _ _ _,⟨rfl,rfl,rfl,rfl⟩,?_⟩ | refine ⟨.sl 20 _ _ _,⟨rfl,rfl,rfl,rfl⟩,?_⟩ | refine ⟨_,⟨rfl,trivial⟩,?_⟩ | (refine bcase_prop (fun h => ?_) (fun h => ?_) <;> try (exfalso; omega)) | (refine bcase_nprop (fun h => ?_) (fun h => ?_) <;> try (exfalso; omega)) | (refine bcase_intro (fun h => ?_) (fun h => ?_) <;> (try simp only [Bool.not_eq_true',Bool.not_eq_false',decide_eq_true_eq,decide_eq_false_iff_not,Bool.not_eq_true,Bool.not_eq_false,Decidable.not_not] at h)) | refine pay ?_ | refine And.intro (by first | exact ⟨by unfold maxLen; omega,by omega⟩ | exact ⟨rfl,by rw [ints_length]; omega⟩) ?_ | intro _)); (all_goals (conv => whnf))
      all_goals first | (exfalso; omega) | skip
      rename_i a2 c2
      have hll2 : (letsN t.us i ++ [i]).length = (letsN t.us i).length + 1 := by simp
      refine loop_next ⟨i + 1,a2,c2⟩ hlt (show 256 - (i + 1) < 256 - i by omega) (by dsimp only; rw [hls,hll2]; (repeat ((conv => whnf); refine And.intro (by first | exact rfl | exact vint_eq (by omega) | exact vint_eq (by (dsimp only; omega)) | exact vsl_eq (by omega) | exact vsl_eq (by first | (dsimp only; omega) | (simp; done) | (simp; omega))) ?_)); exact trivial) ?_
      dsimp only
      rw [hls,hll2]
      exact Ref.takes [3200,3201,3202,2,4,20,35] rfl (Thin.refl _)
  obtain rfl : i = 256 := by omega
  rw [letsN_all] at hll ⊢
  obtain ⟨ls,hls⟩ : ∃ ls,letsOf t.us = ls := ⟨_,rfl⟩
  have hlsn := lets_nodup t.us
  have hl255 := lets_le hT
  have hlit : runB t (letsOf t.us) (257 - 0) bst0 0 = litT t := rfl
  have hBI0 := BI.start t mx (letsOf t.us) hT
  have hfinal := litT_ok hT
  have hen := hT.en
  have hcap := hT.cap
  have hlst : ∀ b ∈ letsOf t.us,b < 256 := fun b hb => letsN_lt hb
  rw [hls] at *
  (repeat' ((conv => whnf); first | refine ⟨.sl 3202 _ _ _,⟨rfl,rfl,rfl,rfl⟩,?_⟩ | refine ⟨_,⟨rfl,trivial⟩,?_⟩ | (refine bcase_prop (fun h => ?_) (fun h => ?_) <;> try (exfalso; omega)) | (refine bcase_nprop (fun h => ?_) (fun h => ?_) <;> try (exfalso; omega)) | (refine bcase_intro (fun h => ?_) (fun h => ?_) <;> (try simp only [Bool.not_eq_true',Bool.not_eq_false',decide_eq_true_eq,decide_eq_false_iff_not,Bool.not_eq_true,Bool.not_eq_false,Decidable.not_not] at h)) | refine pay ?_ | intro _)); (all_goals (conv => whnf))
  all_goals first | (exfalso; omega) | skip
  rename_i b49 b51 b53
  refine VC_loop MlG (fun x => [(0,.ptr 3200 bt 0),(2,.ptr 2 b2 0),(4,.ptr 4 b4 0),(5,.sl 35 la ls.length lc),(9,.sl 49 x.na x.s.nd.length x.nc),(10,.sl 51 x.fa x.s.nd.length x.fc),(11,.sl 53 x.ha x.i x.hc),(12,.v (.int .i64 x.i))])
    (fun x => [.box 3200 bt (triC t mb a c) ty_literal_trie,.mapE 3201 mb (.agg [.int .i64,.int .u8]) (chm t.ch),.own 3202 a t.en.length c ty_int 1 (enL t.en),.box 2 b2 [.int .i64 0,.slice none 0 0,.slice none 0 0,.slice none 0 0] ty_api_Machine,.box 4 b4 [.int .i64 0,.slice (some ⟨b20,0,none⟩) 256 256,.slice x.xa x.i x.xc,.slice x.ca x.i x.cc] ty_api_Machine,.own 20 (some ⟨b20,0,none⟩) 256 256 ty_int 1 (ints .i64 (clsN t.us 256)),.own 35 la ls.length lc ty_uint8 1 (byL ls),.own 49 x.na x.s.nd.length x.nc ty_int 1 (enL x.s.nd),.own 51 x.fa x.s.nd.length x.fc ty_int 1 (enL x.s.fa),.own 53 x.ha x.i x.hc ty_int 1 (enL x.s.hi),.own 123 x.xa x.i x.xc ty_Sl_int 1 (x.nr.map RA.v),.own 152 x.ca x.i x.cc ty_bool 1 (x.s.hi.map fun n => .bool (decide (0 < n))),frE 79 x.F])
    (fun x => BI t mx ls x.s x.i ∧ runB t ls (257 - x.i) x.s x.i = litT t ∧ x.nr.map RA.xs = x.s.nx.map (fun r => r.map Int.ofNat) ∧ ∀ r ∈ x.nr,FIn x.F r.a (ints .i64 r.xs)) (fun x => 257 - x.i) ⟨0,bst0,[],[],_,_,_,_,_,_,none,0,none,0⟩ ⟨hBI0,hlit,rfl,fun r hr => by simp at hr⟩ (by (repeat ((conv => whnf); refine And.intro (by first | exact rfl | exact vint_eq (by omega) | exact vint_eq (by (dsimp only; omega)) | exact vsl_eq (by omega) | exact vsl_eq (by first | (dsimp only; omega) | (simp; done) | (simp; omega))) ?_)); exact trivial)
    (((Ref.ownNil 123 ty_Sl_int 1).trans ((Ref.ownNil 152 ty_bool 1).trans (Ref.freezeNew 79))).trans (Ref.takes [3200,3201,3202,2,4,20,35,49,51,53,123,152,79] rfl (Thin.refl _))) ?_
  rintro ⟨i,s,nr,F,na,nc,fa,fc,ha,hc,xa,xc,ca,cc⟩ ⟨hI,hrun,hnr,hfr⟩
  dsimp only at hI hrun hnr hfr ⊢
  have hndl := nodup_ltM hI.nod hI.cap
  have hile := hI.le
  have hrl : nr.length = i := by
    have := congrArg List.length hnr
    rw [List.length_map,List.length_map,hI.nxl] at this
    exact this
  have q0 : ((i : Nat) : Int).toNat = i := by omega
  by_cases hlt : i < s.nd.length
  case neg =>
    have hie : i = s.nd.length := by omega
    have hsl : s = litT t := by
      rw [← hrun]
      cases 257 - i with
      | zero => rfl
      | succ f => rw [runB,if_neg hlt]
    have hhl := hI.hil
    (repeat' ((conv => whnf); first | rw [q0] | refine ⟨_,⟨rfl,trivial⟩,?_⟩ | (refine bcase_prop (fun h => ?_) (fun h => ?_) <;> try (exfalso; omega)) | (refine bcase_nprop (fun h => ?_) (fun h => ?_) <;> try (exfalso; omega)) | (refine bcase_intro (fun h => ?_) (fun h => ?_) <;> (try simp only [Bool.not_eq_true',Bool.not_eq_false',decide_eq_true_eq,decide_eq_false_iff_not,Bool.not_eq_true,Bool.not_eq_false,Decidable.not_not] at h)) | refine pay ?_ | intro _)); (all_goals (conv => whnf))
    all_goals first | (exfalso; omega) | skip
    have hht : hitsT t = s.hi.map Int.ofNat := by unfold hitsT; rw [← hsl]
    have hhn : (hitsT t).length = i := by rw [hht,List.length_map,hhl]
    refine ⟨⟨_,(Ref.takes [20,79,123,152,53] rfl (Thin.refl _)).trans (Ref.freezeRow.trans ((Ref.takes [123,79,152,53] rfl (Thin.refl _)).trans (Ref.freezeRow.trans ((Ref.takes [152,79,53] rfl (Thin.refl _)).trans Ref.freezeRow)))),
      ⟨0,clsN t.us 256,some ⟨b20,0,none⟩,256,nr,xa,xc,s.hi.map fun n => decide (0 < n),ca,cc⟩,⟨ca,i,cc,s.hi.map fun n => .bool (decide (0 < n))⟩ :: ⟨xa,i,xc,nr.map RA.v⟩ :: ⟨some ⟨b20,0,none⟩,256,256,ints .i64 (clsN t.us 256)⟩ :: F,ha,hc,?_,?_,⟨FIn.head.tail.tail,FIn.head.tail,?_,fun r hr => (hfr r hr).tail.tail.tail⟩,?_⟩⟩
    · rw [hhn]
      unfold MA.v MA.cells
      dsimp only
      rw [hcl,hrl,List.length_map,hhl]; rfl
    · unfold MA.m machT
      dsimp only
      rw [hnr,← hsl]
    · rw [List.map_map]; exact FIn.head
    · rw [hhn,hht]; rfl
  have hn1 : Go.EG.intOf (atL (enL s.nd) i) = ((s.nd.getD i 0 : Nat) : Int) := by
    unfold enL
    rw [intOf_ints (by simpa using hlt),List.getD_eq_getElem?_getD,List.getElem?_map,List.getD_eq_getElem?_getD,List.getElem?_eq_getElem hlt]; rfl
  have kn1 : isK (.int .i64) (enL s.nd) i := isK_ints (by simpa using hlt)
  have hndn := hI.cap _ (memG (d := 0) hlt)
  have hz67 : (List.replicate (ls.length + 1) [Value.int .i64 0]).flatten = enL (List.replicate (ls.length + 1) 0) := by
    rw [flat_zeros]; unfold enL; rw [List.map_replicate]; rfl
  obtain ⟨r0l,r0v⟩ := row0_ok hI hlt
  have q1 : ((ls.length : Int) + 1).toNat = ls.length + 1 := by omega
  (repeat' ((conv => whnf); first | rw [q0] | rw [q1] | rw [Nat.mul_one] | rw [hn1] | refine ⟨.sl 49 _ _ _,⟨rfl,rfl,rfl,rfl⟩,?_⟩ | refine ⟨_,⟨rfl,trivial⟩,?_⟩ | (refine bcase_prop (fun h => ?_) (fun h => ?_) <;> try (exfalso; omega)) | (refine bcase_nprop (fun h => ?_) (fun h => ?_) <;> try (exfalso; omega)) | (refine bcase_intro (fun h => ?_) (fun h => ?_) <;> (try simp only [Bool.not_eq_true',Bool.not_eq_false',decide_eq_true_eq,decide_eq_false_iff_not,Bool.not_eq_true,Bool.not_eq_false,Decidable.not_not] at h)) | refine pay ?_ | refine And.intro (by first | exact kn1) ?_ | intro _)); (all_goals (conv => whnf))
  all_goals first | (exfalso; omega) | skip
  rename_i b67
  obtain ⟨row,hrow⟩ : ∃ row,row0 ls s i = row := ⟨_,rfl⟩
  rw [hrow] at r0l r0v
  refine VC_cut Unit (fun _ => [(0,.ptr 3200 bt 0),(2,.ptr 2 b2 0),(4,.ptr 4 b4 0),(5,.sl 35 la ls.length lc),(9,.sl 49 na s.nd.length nc),(10,.sl 51 fa s.nd.length fc),(11,.sl 53 ha i hc),(12,.v (.int .i64 i)),(13,.v (.int .i64 (s.nd.getD i 0 : Nat))),(14,.sl 67 (some ⟨b67,0,none⟩) (ls.length + 1) (ls.length + 1))])
    (fun _ => [.box 3200 bt (triC t mb a c) ty_literal_trie,.mapE 3201 mb (.agg [.int .i64,.int .u8]) (chm t.ch),.own 3202 a t.en.length c ty_int 1 (enL t.en),.box 2 b2 [.int .i64 0,.slice none 0 0,.slice none 0 0,.slice none 0 0] ty_api_Machine,.box 4 b4 [.int .i64 0,.slice (some ⟨b20,0,none⟩) 256 256,.slice xa i xc,.slice ca i cc] ty_api_Machine,.own 20 (some ⟨b20,0,none⟩) 256 256 ty_int 1 (ints .i64 (clsN t.us 256)),.own 35 la ls.length lc ty_uint8 1 (byL ls),.own 49 na s.nd.length nc ty_int 1 (enL s.nd),.own 51 fa s.nd.length fc ty_int 1 (enL s.fa),.own 53 ha i hc ty_int 1 (enL s.hi),.own 123 xa i xc ty_Sl_int 1 (nr.map RA.v),.own 152 ca i cc ty_bool 1 (s.hi.map fun n => .bool (decide (0 < n))),frE 79 F,.own 67 (some ⟨b67,0,none⟩) (ls.length + 1) (ls.length + 1) ty_int 1 (enL row)])
    (fun _ => True) ?_ ?_
  · by_cases h0 : i = 0
    · have hr0 : row = List.replicate (ls.length + 1) 0 := by rw [← hrow]; exact if_pos h0
      (repeat' ((conv => whnf); first | refine ⟨_,⟨rfl,trivial⟩,?_⟩ | (refine bcase_prop (fun h => ?_) (fun h => ?_) <;> try (exfalso; omega)) | (refine bcase_nprop (fun h => ?_) (fun h => ?_) <;> try (exfalso; omega)) | (refine bcase_intro (fun h => ?_) (fun h => ?_) <;> (try simp only [Bool.not_eq_true',Bool.not_eq_false',decide_eq_true_eq,decide_eq_false_iff_not,Bool.not_eq_true,Bool.not_eq_false,Decidable.not_not] at h)) | refine pay ?_ | intro _)); (all_goals (conv => whnf))
      all_goals first | (exfalso; omega) | skip
      exact cut_next () trivial (by (repeat ((conv => whnf); refine And.intro (by first | exact rfl | exact vint_eq (by omega) | exact vint_eq (by (dsimp only; omega)) | exact vsl_eq (by omega) | exact vsl_eq (by first | (dsimp only; omega) | (simp; done) | (simp; omega))) ?_)); exact trivial) (Ref.takes [3200,3201,3202,2,4,20,35,49,51,53,123,152,79,67] rfl (.keep rfl (fun _ h => h) (.keep rfl (fun _ h => h) (.keep rfl (fun _ h => h) (.keep rfl (fun _ h => h) (.keep rfl (fun _ h => h) (.keep rfl (fun _ h => h) (.keep rfl (fun _ h => h) (.keep rfl (fun _ h => h) (.keep rfl (fun _ h => h) (.keep rfl (fun _ h => h) (.keep rfl (fun _ h => h) (.keep rfl (fun _ h => h) (.keep rfl (fun _ h => h) (.own (by omega) (by rw [hr0]; exact hz67) (.nil _))))))))))))))))
    · have hfi := hI.fi i (by omega) hlt
      have hfl := hI.fal
      have hr0 : row = s.nx.getD (s.fa.getD i 0) [] := by rw [← hrow]; exact if_neg h0
      have hn2 : Go.EG.intOf (atL (enL s.fa) i) = ((s.fa.getD i 0 : Nat) : Int) := by
        unfold enL
        rw [intOf_ints (by simp; omega),List.getD_eq_getElem?_getD,List.getElem?_map,List.getD_eq_getElem?_getD,List.getElem?_eq_getElem (by omega)]; rfl
      have kn2 : isK (.int .i64) (enL s.fa) i := isK_ints (by simp; omega)
      obtain ⟨f,hf⟩ : ∃ f,s.fa.getD i 0 = f := ⟨_,rfl⟩
      rw [hf] at hfi hr0 hn2
      have q2 : ((f : Nat) : Int).toNat = f := by omega
      obtain ⟨ra,hra⟩ : ∃ ra,nr[f]? = some ra := ⟨_,List.getElem?_eq_getElem (by omega)⟩
      have hrx : ra.xs = row.map Int.ofNat := by
        have e1 : (nr.map RA.xs)[f]? = some ra.xs := by rw [List.getElem?_map,hra]; rfl
        rw [hnr,List.getElem?_map] at e1
        rw [hr0,List.getD_eq_getElem?_getD]
        cases hx : s.nx[f]? with
        | none => rw [hx] at e1; cases e1
        | some z => rw [hx] at e1; exact (Option.some.inj e1).symm
      have hfn := hfr ra (List.mem_of_getElem? hra)
      have hat : atL (nr.map RA.v) f = RA.v ra := by
        unfold atL; rw [List.getElem?_map,hra]; rfl
      have kn3 : isK .slc (nr.map RA.v) f := by unfold isK; rw [hat,List.getElem?_map,hra]; rfl
      have hrxl : ra.xs.length = ls.length + 1 := by rw [hrx,List.length_map]; exact r0l
      have hspl : splice (List.replicate (ls.length + 1) [Value.int .i64 0]).flatten 0 (ints .i64 ra.xs) = enL row := by
        rw [hz67]
        unfold splice
        rw [List.take_zero,List.nil_append,List.drop_of_length_le (by rw [enL_len,ints_length,List.length_replicate]; omega),List.append_nil,hrx]; rfl
      have hone := oneAllI (k := .i64) ra.xs
      have hsle : slNOf ra.v ≤ ls.length + 1 := by show ra.xs.length ≤ _; omega
      have hspo : 0 < slNOf ra.v := by show 0 < ra.xs.length; omega
      (repeat' ((conv => whnf); first | rw [q0] | rw [q2] | rw [Nat.mul_one] | rw [hn2] | rw [hat] | rw [hspl] | refine ⟨_,FIn.rds (key := 79) rfl hfn ints_length.symm,?_⟩ | refine ⟨.sl 123 _ _ _,⟨rfl,rfl,rfl,rfl⟩,?_⟩ | refine ⟨_,⟨rfl,trivial⟩,?_⟩ | (refine bcase_prop (fun h => ?_) (fun h => ?_) <;> try (exfalso; omega)) | (refine bcase_nprop (fun h => ?_) (fun h => ?_) <;> try (exfalso; omega)) | (refine bcase_intro (fun h => ?_) (fun h => ?_) <;> (try simp only [Bool.not_eq_true',Bool.not_eq_false',decide_eq_true_eq,decide_eq_false_iff_not,Bool.not_eq_true,Bool.not_eq_false,Decidable.not_not] at h)) | refine pay ?_ | refine And.intro (by first | exact kn2 | exact kn3 | exact ⟨rfl,rfl,rfl,rfl,hsle,hspo⟩) ?_ | intro _)); (all_goals (conv => whnf))
      all_goals first | (exfalso; omega) | skip
      exact cut_next () trivial (by (repeat ((conv => whnf); refine And.intro (by first | exact rfl | exact vint_eq (by omega) | exact vint_eq (by (dsimp only; omega)) | exact vsl_eq (by omega) | exact vsl_eq (by first | (dsimp only; omega) | (simp; done) | (simp; omega))) ?_)); exact trivial) (Ref.takes [3200,3201,3202,2,4,20,35,49,51,53,123,152,79,67] rfl (Thin.refl _))
  rintro ⟨⟩ -
  (repeat' ((conv => whnf); first | refine ⟨_,⟨rfl,trivial⟩,?_⟩ | (refine bcase_prop (fun h => ?_) (fun h => ?_) <;> try (exfalso; omega)) | (refine bcase_nprop (fun h => ?_) (fun h => ?_) <;> try (exfalso; omega)) | (refine bcase_intro (fun h => ?_) (fun h => ?_) <;> (try simp only [Bool.not_eq_true',Bool.not_eq_false',decide_eq_true_eq,decide_eq_false_iff_not,Bool.not_eq_true,Bool.not_eq_false,Decidable.not_not] at h)) | refine pay ?_ | intro _)); (all_goals (conv => whnf))
  all_goals first | (exfalso; omega) | skip
  obtain ⟨n,hn⟩ : ∃ n,s.nd.getD i 0 = n := ⟨_,rfl⟩
  rw [hn] at hn1 hndn ⊢
  have hndl2 : s.nd.length ≤ 256 := by omega
  have hfal := hI.fal
  refine VC_loop LeG (fun x => [(82,.v (.int .i64 x.k)),(81,.v (.int .i64 ls.length)),(80,.sl 35 la ls.length lc),(0,.ptr 3200 bt 0),(2,.ptr 2 b2 0),(4,.ptr 4 b4 0),(5,.sl 35 la ls.length lc),(9,.sl 49 x.na x.nd.length x.nc),(10,.sl 51 x.fb x.nd.length x.fc),(11,.sl 53 ha i hc),(12,.v (.int .i64 i)),(13,.v (.int .i64 n)),(14,.sl 67 (some ⟨b67,0,none⟩) (ls.length + 1) (ls.length + 1))])
    (fun x => [.box 3200 bt (triC t mb a c) ty_literal_trie,.mapE 3201 mb (.agg [.int .i64,.int .u8]) (chm t.ch),.own 3202 a t.en.length c ty_int 1 (enL t.en),.box 2 b2 [.int .i64 0,.slice none 0 0,.slice none 0 0,.slice none 0 0] ty_api_Machine,.box 4 b4 [.int .i64 0,.slice (some ⟨b20,0,none⟩) 256 256,.slice xa i xc,.slice ca i cc] ty_api_Machine,.own 20 (some ⟨b20,0,none⟩) 256 256 ty_int 1 (ints .i64 (clsN t.us 256)),.own 35 la ls.length lc ty_uint8 1 (byL ls),.own 49 x.na x.nd.length x.nc ty_int 1 (enL x.nd),.own 51 x.fb x.nd.length x.fc ty_int 1 (enL x.fa),.own 53 ha i hc ty_int 1 (enL s.hi),.own 123 xa i xc ty_Sl_int 1 (nr.map RA.v),.own 152 ca i cc ty_bool 1 (s.hi.map fun n => .bool (decide (0 < n))),frE 79 F,.own 67 (some ⟨b67,0,none⟩) (ls.length + 1) (ls.length + 1) ty_int 1 (enL x.row)])
    (fun x => x.k ≤ ls.length ∧ inB t n (ls.drop x.k) x.k x.nd x.fa x.row = inB t n ls 0 s.nd s.fa row ∧ x.fa.length = x.nd.length ∧ x.row.length = ls.length + 1 ∧ x.nd.length ≤ s.nd.length + x.k ∧ ∃ z,x.fa = s.fa ++ z) (fun x => ls.length - x.k) ⟨0,s.nd,s.fa,row,na,nc,fa,fc⟩ ⟨Nat.zero_le _,rfl,hI.fal,r0l,Nat.le_refl _,[],(List.append_nil _).symm⟩ (by (repeat ((conv => whnf); refine And.intro (by first | exact rfl | exact vint_eq (by omega) | exact vint_eq (by (dsimp only; omega)) | exact vsl_eq (by omega) | exact vsl_eq (by first | (dsimp only; omega) | (simp; done) | (simp; omega))) ?_)); exact trivial)
    (Ref.takes [3200,3201,3202,2,4,20,35,49,51,53,123,152,79,67] rfl (Thin.refl _)) ?_
  rintro ⟨k,nd,fb,row1,na,nc,fba,fc⟩ ⟨hk,hin,hfl1,hrl1,hnl1,z,hz⟩
  dsimp only at hk hin hfl1 hrl1 hnl1 hz ⊢
  by_cases hkl : k < ls.length
  · obtain ⟨b,hb⟩ : ∃ b,ls[k]? = some b := ⟨_,List.getElem?_eq_getElem hkl⟩
    have hb2 : b < 256 := hlst b (List.mem_of_getElem? hb)
    have hdr : ls.drop k = b :: ls.drop (k + 1) := by
      obtain ⟨h1,h2⟩ := List.getElem?_eq_some_iff.1 hb
      rw [← h2]; exact (List.getElem_cons_drop h1).symm
    rw [hdr,inB] at hin
    have hbi := byL_at hb
    have kb : isK (.int .u8) (byL ls) k := isK_ints (by simpa using hkl)
    have q1 : ((k : Nat) : Int).toNat = k := by omega
    have hg := chm_get (ch := t.ch) (n := n) (b := b)
    have hkk := keyOk_ch n b
    cases hc1 : cl t.ch n b with
    | none =>
      rw [hc1,Option.map_none] at hg
      rw [hc1] at hin
      (repeat' ((conv => whnf); first | rw [q1] | rw [hbi] | refine lk_none hg ?_ | refine ⟨.mp 3201 _,⟨rfl,rfl⟩,?_⟩ | refine ⟨.sl 35 _ _ _,⟨rfl,rfl,rfl,rfl⟩,?_⟩ | refine ⟨_,⟨rfl,trivial⟩,?_⟩ | (refine bcase_prop (fun h => ?_) (fun h => ?_) <;> try (exfalso; omega)) | (refine bcase_nprop (fun h => ?_) (fun h => ?_) <;> try (exfalso; omega)) | (refine bcase_intro (fun h => ?_) (fun h => ?_) <;> (try simp only [Bool.not_eq_true',Bool.not_eq_false',decide_eq_true_eq,decide_eq_false_iff_not,Bool.not_eq_true,Bool.not_eq_false,Decidable.not_not] at h)) | refine pay ?_ | refine And.intro (by first | exact kb | exact ⟨rfl,rfl,hkk⟩) ?_ | intro _)); (all_goals (conv => whnf))
      all_goals first | (exfalso; omega) | skip
      exact loop_next ⟨k + 1,nd,fb,row1,na,nc,fba,fc⟩ ⟨hkl,hin,hfl1,hrl1,by dsimp only; omega,z,hz⟩ (show ls.length - (k + 1) < ls.length - k by omega) (by (repeat ((conv => whnf); refine And.intro (by first | exact rfl | exact vint_eq (by omega) | exact vint_eq (by (dsimp only; omega)) | exact vsl_eq (by omega) | exact vsl_eq (by first | (dsimp only; omega) | (simp; done) | (simp; omega))) ?_)); exact trivial) (Ref.takes [3200,3201,3202,2,4,20,35,49,51,53,123,152,79,67] rfl (Thin.refl _))
    | some d =>
      rw [hc1,Option.map_some] at hg
      rw [hc1] at hin
      dsimp only at hin
      have q2 : ((k : Int) + 1).toNat = k + 1 := by omega
      have hk1 : k + 1 < row1.length := by omega
      have hra := enL_at hk1
      have kr : isK (.int .i64) (enL row1) (k + 1) := isK_ints (by simpa using hk1)
      have e1 := enL_snoc (l := nd) (x := d)
      have e2 := enL_snoc (l := fb) (x := row1.getD (k + 1) 0)
      have e3 : splice (enL row1) (k + 1) [.int .i64 (((nd.length + 1 : Nat) : Int) - 1)] = enL (row1.set (k + 1) nd.length) := by
        rw [show ((nd.length + 1 : Nat) : Int) - 1 = (nd.length : Int) by omega]
        exact enL_splice hk1
      have h4 : k + 1 + 1 ≤ (enL row1).length := by rw [enL_len]; exact hk1
      (repeat' ((conv => whnf); first | rw [q1] | rw [q2] | rw [hbi] | rw [hra] | rw [e1] | rw [e2] | rw [e3] | refine lk_some hg ?_ | refine ⟨.mp 3201 _,⟨rfl,rfl⟩,?_⟩ | refine ⟨.sl 35 _ _ _,⟨rfl,rfl,rfl,rfl⟩,?_⟩ | refine ⟨.sl 49 _ _ _,⟨rfl,rfl,rfl,rfl⟩,?_⟩ | refine ⟨.sl 51 _ _ _,⟨rfl,rfl,rfl,rfl⟩,?_⟩ | refine ⟨.sl 67 _ _ _,⟨rfl,rfl,rfl,rfl⟩,?_⟩ | refine ⟨_,⟨rfl,trivial⟩,?_⟩ | (refine bcase_prop (fun h => ?_) (fun h => ?_) <;> try (exfalso; omega)) | (refine bcase_nprop (fun h => ?_) (fun h => ?_) <;> try (exfalso; omega)) | (refine bcase_intro (fun h => ?_) (fun h => ?_) <;> (try simp only [Bool.not_eq_true',Bool.not_eq_false',decide_eq_true_eq,decide_eq_false_iff_not,Bool.not_eq_true,Bool.not_eq_false,Decidable.not_not] at h)) | refine pay ?_ | refine And.intro (by first | exact kb | exact kr | exact ⟨rfl,rfl,hkk⟩ | exact ⟨by unfold maxLen; omega,by omega⟩ | exact ⟨rfl,h4⟩) ?_ | intro _)); (all_goals (conv => whnf))
      all_goals first | (exfalso; omega) | skip
      rename_i a2 c2 _ a3 c3
      have l1 : (nd ++ [d]).length = nd.length + 1 := by simp
      refine loop_next ⟨k + 1,nd ++ [d],fb ++ [row1.getD (k + 1) 0],row1.set (k + 1) nd.length,a2,c2,a3,c3⟩ ⟨hkl,hin,by simp [hfl1],by simp [hrl1],by dsimp only; omega,z ++ [row1.getD (k + 1) 0],by dsimp only; rw [hz,List.append_assoc]⟩ (show ls.length - (k + 1) < ls.length - k by omega) (by dsimp only; rw [l1]; (repeat ((conv => whnf); refine And.intro (by first | exact rfl | exact vint_eq (by omega) | exact vint_eq (by (dsimp only; omega)) | exact vsl_eq (by omega) | exact vsl_eq (by first | (dsimp only; omega) | (simp; done) | (simp; omega))) ?_)); exact trivial) ?_
      dsimp only
      rw [l1]
      exact Ref.takes [3200,3201,3202,2,4,20,35,49,51,53,123,152,79,67] rfl (Thin.refl _)
  · have hkq : k = ls.length := by omega
    rw [hkq,List.drop_length,inB] at hin
    have hsb : stepB t ls s i = ⟨nd,fb,s.hi ++ [cntB t s i],s.nx ++ [row1]⟩ := by
      unfold stepB
      rw [hn,hrow,← hin]
    have hfg : fb.getD i 0 = s.fa.getD i 0 := by
      rw [hz,List.getD_eq_getElem?_getD,List.getElem?_append_left (by omega),← List.getD_eq_getElem?_getD]
    have hfbl : i < fb.length := by rw [hz,List.length_append]; omega
    have hcn := cntB_le hT hI hlt
    have hcn2 : cntB t s i ≤ 4096 * 257 := Nat.le_trans hcn (Nat.le_trans (Nat.mul_le_mul_right _ hm4) (Nat.mul_le_mul_left _ (by omega)))
    have hBn := stepB_ok hT hlsn hI hlt
    rw [hsb] at hBn
    have hen1 := enL_at (l := t.en) hndn
    have ken : isK (.int .i64) (enL t.en) n := isK_ints (by simpa using hndn)
    have q3 : ((n : Nat) : Int).toNat = n := by omega
    have hen2 : t.en.getD n 0 ≤ mx := hT.mx _ (memG hndn)
    have hrn : runB t ls (257 - i) s i = runB t ls (257 - (i + 1)) ⟨nd,fb,s.hi ++ [cntB t s i],s.nx ++ [row1]⟩ (i + 1) := by
      rw [show 257 - i = (257 - (i + 1)) + 1 by omega,runB,if_pos hlt,hsb]
    rw [hrn] at hrun
    have hnv : nr.map RA.v ++ [Value.slice (some ⟨b67,0,none⟩) (ls.length + 1) (ls.length + 1)] = (nr ++ [(⟨row1.map Int.ofNat,some ⟨b67,0,none⟩,ls.length + 1⟩ : RA)]).map RA.v := by
      rw [List.map_append,List.map_singleton]
      unfold RA.v
      rw [List.length_map,hrl1]
    (repeat' ((conv => whnf); first | rw [q3] | rw [hen1] | rw [hnv] | refine ⟨.sl 123 _ _ _,⟨rfl,rfl,rfl,rfl⟩,?_⟩ | refine ⟨.sl 67 _ _ _,⟨rfl,rfl,rfl,rfl⟩,?_⟩ | refine ⟨.sl 3202 _ _ _,⟨rfl,rfl,rfl,rfl⟩,?_⟩ | refine ⟨_,⟨rfl,trivial⟩,?_⟩ | (refine bcase_prop (fun h => ?_) (fun h => ?_) <;> try (exfalso; omega)) | (refine bcase_nprop (fun h => ?_) (fun h => ?_) <;> try (exfalso; omega)) | (refine bcase_intro (fun h => ?_) (fun h => ?_) <;> (try simp only [Bool.not_eq_true',Bool.not_eq_false',decide_eq_true_eq,decide_eq_false_iff_not,Bool.not_eq_true,Bool.not_eq_false,Decidable.not_not] at h)) | refine pay ?_ | refine And.intro (by first | exact ken | exact ⟨by unfold maxLen; omega,by omega⟩) ?_ | intro _)); (all_goals (conv => whnf))
    all_goals first | (exfalso; omega) | skip
    rename_i a123 c123
    obtain ⟨cn,hcne⟩ : ∃ cn,cntB t s i = cn := ⟨_,rfl⟩
    rw [hcne] at hcn2 hBn hrun
    obtain ⟨nr',hnr'⟩ : ∃ nr',nr ++ [(⟨row1.map Int.ofNat,some ⟨b67,0,none⟩,ls.length + 1⟩ : RA)] = nr' := ⟨_,rfl⟩
    rw [hnr'] at hnv ⊢
    refine VC_cut Unit (fun _ => [(0,.ptr 3200 bt 0),(2,.ptr 2 b2 0),(4,.ptr 4 b4 0),(5,.sl 35 la ls.length lc),(9,.sl 49 na nd.length nc),(10,.sl 51 fba nd.length fc),(11,.sl 53 ha i hc),(12,.v (.int .i64 i)),(19,.v (.int .i64 cn))])
      (fun _ => [.box 3200 bt (triC t mb a c) ty_literal_trie,.mapE 3201 mb (.agg [.int .i64,.int .u8]) (chm t.ch),.own 3202 a t.en.length c ty_int 1 (enL t.en),.box 2 b2 [.int .i64 0,.slice none 0 0,.slice none 0 0,.slice none 0 0] ty_api_Machine,.box 4 b4 [.int .i64 0,.slice (some ⟨b20,0,none⟩) 256 256,.slice a123 (i + 1) c123,.slice ca i cc] ty_api_Machine,.own 20 (some ⟨b20,0,none⟩) 256 256 ty_int 1 (ints .i64 (clsN t.us 256)),.own 35 la ls.length lc ty_uint8 1 (byL ls),.own 49 na nd.length nc ty_int 1 (enL nd),.own 51 fba nd.length fc ty_int 1 (enL fb),.own 53 ha i hc ty_int 1 (enL s.hi),.own 123 a123 (i + 1) c123 ty_Sl_int 1 (nr'.map RA.v),.own 152 ca i cc ty_bool 1 (s.hi.map fun n => .bool (decide (0 < n))),frE 79 F,.own 67 (some ⟨b67,0,none⟩) (ls.length + 1) (ls.length + 1) ty_int 1 (enL row1)])
      (fun _ => True) ?_ ?_
    · by_cases h0 : i = 0
      · have hc0 : t.en.getD n 0 = cn := by rw [← hcne]; unfold cntB; rw [hn,if_pos h0]; rfl
        rw [hc0]
        (repeat' ((conv => whnf); first | refine ⟨_,⟨rfl,trivial⟩,?_⟩ | (refine bcase_prop (fun h => ?_) (fun h => ?_) <;> try (exfalso; omega)) | (refine bcase_nprop (fun h => ?_) (fun h => ?_) <;> try (exfalso; omega)) | (refine bcase_intro (fun h => ?_) (fun h => ?_) <;> (try simp only [Bool.not_eq_true',Bool.not_eq_false',decide_eq_true_eq,decide_eq_false_iff_not,Bool.not_eq_true,Bool.not_eq_false,Decidable.not_not] at h)) | refine pay ?_ | intro _)); (all_goals (conv => whnf))
        all_goals first | (exfalso; omega) | skip
        exact cut_next () trivial (by (repeat ((conv => whnf); refine And.intro (by first | exact rfl | exact vint_eq (by omega) | exact vint_eq (by (dsimp only; omega)) | exact vsl_eq (by omega) | exact vsl_eq (by first | (dsimp only; omega) | (simp; done) | (simp; omega))) ?_)); exact trivial) (Ref.takes [3200,3201,3202,2,4,20,35,49,51,53,123,152,79,67] rfl (Thin.refl _))
      · have hfi := hI.fi i (by omega) hlt
        have hhl := hI.hil
        obtain ⟨f,hf⟩ : ∃ f,s.fa.getD i 0 = f := ⟨_,rfl⟩
        have hc0 : t.en.getD n 0 + s.hi.getD f 0 = cn := by rw [← hcne]; unfold cntB; rw [hn,if_neg h0,hf]
        have hf1 := enL_at hfbl
        rw [hfg,hf] at hf1
        rw [hf] at hfi
        have hf2 := enL_at (l := s.hi) (j := f) (by omega)
        have kf1 : isK (.int .i64) (enL fb) i := isK_ints (by simpa using hfbl)
        have kf2 : isK (.int .i64) (enL s.hi) f := isK_ints (by simp; omega)
        have q4 : ((f : Nat) : Int).toNat = f := by omega
        have q5 : ((t.en.getD n 0 : Nat) : Int) + ((s.hi.getD f 0 : Nat) : Int) = (cn : Int) := by omega
        (repeat' ((conv => whnf); first | rw [q0] | rw [q4] | rw [hf1] | rw [hf2] | rw [q5] | refine ⟨.sl 53 _ _ _,⟨rfl,rfl,rfl,rfl⟩,?_⟩ | refine ⟨.sl 51 _ _ _,⟨rfl,rfl,rfl,rfl⟩,?_⟩ | refine ⟨_,⟨rfl,trivial⟩,?_⟩ | (refine bcase_prop (fun h => ?_) (fun h => ?_) <;> try (exfalso; omega)) | (refine bcase_nprop (fun h => ?_) (fun h => ?_) <;> try (exfalso; omega)) | (refine bcase_intro (fun h => ?_) (fun h => ?_) <;> (try simp only [Bool.not_eq_true',Bool.not_eq_false',decide_eq_true_eq,decide_eq_false_iff_not,Bool.not_eq_true,Bool.not_eq_false,Decidable.not_not] at h)) | refine pay ?_ | refine And.intro (by first | exact kf1 | exact kf2) ?_ | intro _)); (all_goals (conv => whnf))
        all_goals first | (exfalso; omega) | skip
        exact cut_next () trivial (by (repeat ((conv => whnf); refine And.intro (by first | exact rfl | exact vint_eq (by omega) | exact vint_eq (by (dsimp only; omega)) | exact vsl_eq (by omega) | exact vsl_eq (by first | (dsimp only; omega) | (simp; done) | (simp; omega))) ?_)); exact trivial) (Ref.takes [3200,3201,3202,2,4,20,35,49,51,53,123,152,79,67] rfl (Thin.refl _))
    · rintro ⟨⟩ -
      have e5 := enL_snoc (l := s.hi) (x := cn)
      have e6 : (s.hi.map fun n => Value.bool (decide (0 < n))) ++ [.bool (decide ((0 : Int) < (cn : Int)))] = ((s.hi ++ [cn]).map fun n => Value.bool (decide (0 < n))) := by
        rw [List.map_append,show decide ((0 : Int) < (cn : Int)) = decide (0 < cn) from decide_eq_decide.2 (by omega)]; rfl
      (repeat' ((conv => whnf); first | rw [e5] | rw [e6] | refine ⟨.sl 53 _ _ _,⟨rfl,rfl,rfl,rfl⟩,?_⟩ | refine ⟨.sl 152 _ _ _,⟨rfl,rfl,rfl,rfl⟩,?_⟩ | refine ⟨_,⟨rfl,trivial⟩,?_⟩ | (refine bcase_prop (fun h => ?_) (fun h => ?_) <;> try (exfalso; omega)) | (refine bcase_nprop (fun h => ?_) (fun h => ?_) <;> try (exfalso; omega)) | (refine bcase_intro (fun h => ?_) (fun h => ?_) <;> (try simp only [Bool.not_eq_true',Bool.not_eq_false',decide_eq_true_eq,decide_eq_false_iff_not,Bool.not_eq_true,Bool.not_eq_false,Decidable.not_not] at h)) | refine pay ?_ | refine And.intro (by first | exact ⟨by unfold maxLen; omega,by omega⟩) ?_ | intro _)); (all_goals (conv => whnf))
      all_goals first | (exfalso; omega) | skip
      rename_i a5 c5 _ a6 c6
      refine loop_next ⟨i + 1,⟨nd,fb,s.hi ++ [cn],s.nx ++ [row1]⟩,nr',⟨some ⟨b67,0,none⟩,ls.length + 1,ls.length + 1,enL row1⟩ :: F,na,nc,fba,fc,a5,c5,a123,c123,a6,c6⟩ ⟨hBn,hrun,?_,?_⟩ (show 257 - (i + 1) < 257 - i by omega) (by (repeat ((conv => whnf); refine And.intro (by first | exact rfl | exact vint_eq (by omega) | exact vint_eq (by (dsimp only; omega)) | exact vsl_eq (by omega) | exact vsl_eq (by first | (dsimp only; omega) | (simp; done) | (simp; omega))) ?_)); exact trivial) ?_
      · dsimp only
        rw [← hnr',List.map_append,List.map_append,hnr]; rfl
      · intro r hr
        rw [← hnr'] at hr
        rcases List.mem_append.1 hr with hr | hr
        · exact (hfr r hr).tail
        · rw [List.mem_singleton] at hr
          subst hr
          exact FIn.head
      · dsimp only
        exact (Ref.takes [67,79,3200,3201,3202,2,4,20,35,49,51,53,123,152] rfl (Thin.refl _)).trans (Ref.freezeRow.trans (Ref.takes [3200,3201,3202,2,4,20,35,49,51,53,123,152,79] rfl (Thin.refl _)))
end Go.Proofs.Ytjmlialibdobpaa
