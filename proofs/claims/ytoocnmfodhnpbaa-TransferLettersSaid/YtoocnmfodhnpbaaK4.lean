/- Arithmetic modulo 2^61 - 1, of numbers. Plain Lean: no program in sight. -/
import Derived.Test.YtoocnmfodhnpbaaK2
import Derived.Test.YtoocnmfodhnpbaaK3
namespace Go.Proofs.Ytoocnmfodhnpbaa
open Go.EG
abbrev PP : Nat := 2305843009213693951
theorem fold61 (q r : Nat) : (q * 2305843009213693952 + r) % PP = (q + r) % PP := by
  rw [show q * 2305843009213693952 + r = PP * q + (q + r) by unfold PP; omega,Nat.mul_add_mod]
theorem red_eq (x : Nat) : x % PP = (x / 2305843009213693952 + x % 2305843009213693952) % PP := by
  rw [← fold61]
  congr 1
  omega
theorem red_small {x s : Nat} (hx : x < 18446744073709551616) (hs : s = x % 2305843009213693952 + x / 2305843009213693952) : x % PP = if PP ≤ s then s - PP else s := by
  rw [red_eq,Nat.add_comm,← hs]
  have h1 : s < PP + 8 := by unfold PP; omega
  split
  · rename_i h
    rw [Nat.mod_eq_sub_mod h,Nat.mod_eq_of_lt (by unfold PP at *; omega)]
  · rename_i h
    exact Nat.mod_eq_of_lt (by omega)
theorem mul_split (a b : Nat) : a * b = (a / 4294967296 * (b / 4294967296)) * 18446744073709551616 + (a / 4294967296 * (b % 4294967296) + a % 4294967296 * (b / 4294967296)) * 4294967296 + a % 4294967296 * (b % 4294967296) := by
  conv => lhs; rw [← Nat.div_add_mod a 4294967296,← Nat.div_add_mod b 4294967296]
  generalize a / 4294967296 = x1
  generalize a % 4294967296 = x0
  generalize b / 4294967296 = y1
  generalize b % 4294967296 = y0
  rw [Nat.add_mul,Nat.mul_add,Nat.mul_add]
  have e1 : 4294967296 * x1 * (4294967296 * y1) = x1 * y1 * 18446744073709551616 := by
    rw [Nat.mul_mul_mul_comm]; omega
  have e2 : 4294967296 * x1 * y0 = x1 * y0 * 4294967296 := by rw [Nat.mul_assoc,Nat.mul_comm]
  have e3 : x0 * (4294967296 * y1) = x0 * y1 * 4294967296 := by rw [Nat.mul_left_comm,Nat.mul_comm]
  rw [e1,e2,e3]
  omega
theorem mul_lt {a b c d : Nat} (h : a ≤ c) (k : b ≤ d) : a * b ≤ c * d := Nat.mul_le_mul h k
theorem mul64 {a b x0 x1 y0 y1 w0 t w1 w2 v1 : Nat} (ha : a < 18446744073709551616) (hb : b < 18446744073709551616) (hx0 : x0 = a % 4294967296) (hx1 : x1 = a / 4294967296) (hy0 : y0 = b % 4294967296) (hy1 : y1 = b / 4294967296)
    (hw0 : w0 = x0 * y0) (ht : t = x1 * y0 + w0 / 4294967296) (hw1 : w1 = t % 4294967296) (hw2 : w2 = t / 4294967296) (hv1 : v1 = w1 + x0 * y1) :
    t < 18446744073709551616 ∧ v1 < 18446744073709551616 ∧ x1 * y1 + w2 + v1 / 4294967296 = a * b / 18446744073709551616 ∧ x0 * y0 < 18446744073709551616 ∧ x1 * y0 < 18446744073709551616 ∧ x0 * y1 < 18446744073709551616 ∧ x1 * y1 + w2 + v1 / 4294967296 < 18446744073709551616 ∧ x1 * y1 + w2 < 18446744073709551616 ∧ x1 * y1 < 18446744073709551616 := by
  have hs := mul_split a b
  rw [← hx0,← hx1,← hy0,← hy1] at hs
  have h00 : x0 * y0 ≤ 4294967295 * 4294967295 := mul_lt (by omega) (by omega)
  have h10 : x1 * y0 ≤ 4294967295 * 4294967295 := mul_lt (by omega) (by omega)
  have h01 : x0 * y1 ≤ 4294967295 * 4294967295 := mul_lt (by omega) (by omega)
  have h11 : x1 * y1 ≤ 4294967295 * 4294967295 := mul_lt (by omega) (by omega)
  generalize x0 * y0 = p00 at *
  generalize x1 * y0 = p10 at *
  generalize x0 * y1 = p01 at *
  generalize x1 * y1 = p11 at *
  generalize a * b = m at *
  omega
theorem mulP {x y hi lo : Nat} (hx : x < PP) (hy : y < PP) (hhi : hi = x * y / 18446744073709551616) (hlo : lo = x * y % 18446744073709551616) :
    hi * 8 + lo / 2305843009213693952 + lo % 2305843009213693952 < 18446744073709551616 ∧ hi * 8 < 18446744073709551616 ∧ hi * 8 + lo / 2305843009213693952 < 18446744073709551616 ∧ (hi * 8 + lo / 2305843009213693952 + lo % 2305843009213693952) % PP = x * y % PP := by
  have h1 : x * y ≤ 2305843009213693950 * 2305843009213693950 := mul_lt (by unfold PP at hx; omega) (by unfold PP at hy; omega)
  refine ⟨by omega,by omega,by omega,?_⟩
  rw [← fold61]
  congr 1
  generalize x * y = m at *
  omega
theorem pow_half (a n : Nat) : a ^ n = (a * a) ^ (n / 2) * a ^ (n % 2) := by
  conv => lhs; rw [← Nat.div_add_mod n 2]
  rw [Nat.pow_add,Nat.pow_mul,Nat.pow_two]
theorem mod_mul_mod (a b : Nat) : (a % PP) * (b % PP) % PP = a * b % PP := (Nat.mul_mod a b PP).symm
theorem mod_mul_left (a b : Nat) : (a % PP) * b % PP = a * b % PP := by rw [Nat.mul_mod,Nat.mod_mod,← Nat.mul_mod]
theorem mod_mul_right (a b : Nat) : a * (b % PP) % PP = a * b % PP := by rw [Nat.mul_mod,Nat.mod_mod,← Nat.mul_mod]
theorem mod_pow (a n : Nat) : (a % PP) ^ n % PP = a ^ n % PP := (Nat.pow_mod a n PP).symm
theorem mod_add_mod' (a b : Nat) : (a % PP + b % PP) % PP = (a + b) % PP := (Nat.add_mod a b PP).symm
theorem pow_round1 {r a n t : Nat} (h : r * a ^ n % PP = t) (hn : n % 2 = 1) : (r * a % PP) * (a * a % PP) ^ (n / 2) % PP = t := by
  rw [← h,mod_mul_left,← mod_mul_right,mod_pow,mod_mul_right]
  rw [pow_half a n,hn,Nat.pow_one]
  congr 1
  ac_rfl
theorem pow_round0 {r a n t : Nat} (h : r * a ^ n % PP = t) (hn : n % 2 ≠ 1) : r * (a * a % PP) ^ (n / 2) % PP = t := by
  rw [← h,← mod_mul_right,mod_pow,mod_mul_right]
  rw [pow_half a n,show n % 2 = 0 by omega,Nat.pow_zero,Nat.mul_one]
end Go.Proofs.Ytoocnmfodhnpbaa
/- Texts,their weights and digests. Plain Lean: no program in sight. -/
namespace Go.Proofs.Ytoocnmfodhnpbaa
open Go.EG
abbrev BB : Nat := 1103515245
def polyF (v : Nat) (t : List Nat) : Nat := t.foldl (fun v b => v * BB + (b + 1)) v
def poly (t : List Nat) : Nat := polyF 0 t
theorem polyF_eq : ∀ (t : List Nat) (v : Nat),polyF v t = v * BB ^ t.length + poly t
  | [],v => by simp [polyF,poly]
  | b :: t,v => by
    have h1 := polyF_eq t (v * BB + (b + 1))
    have h2 := polyF_eq t (0 * BB + (b + 1))
    have e1 : polyF v (b :: t) = polyF (v * BB + (b + 1)) t := rfl
    have e2 : poly (b :: t) = polyF (0 * BB + (b + 1)) t := rfl
    rw [e1,e2,h1,h2,List.length_cons,Nat.pow_succ,Nat.add_mul,Nat.zero_mul,Nat.zero_add,Nat.mul_assoc,Nat.mul_comm BB,Nat.add_assoc]
theorem poly_append (s t : List Nat) : poly (s ++ t) = poly s * BB ^ t.length + poly t := by
  rw [← polyF_eq]
  simp [poly,polyF,List.foldl_append]
def linesN (t : List Nat) : Nat := t.count 10
def headN (t : List Nat) : Nat := (t.takeWhile (· != 10)).length
def tailN (t : List Nat) : Nat := (t.reverse.takeWhile (· != 10)).length
theorem lines_append (s t : List Nat) : linesN (s ++ t) = linesN s + linesN t := List.count_append
theorem takeWhile_all {p : Nat → Bool} : ∀ {s : List Nat},(∀ x ∈ s,p x = true) → ∀ t,(s ++ t).takeWhile p = s ++ t.takeWhile p
  | [],_,t => rfl
  | x :: s,h,t => by
    rw [List.cons_append,List.takeWhile_cons,if_pos (h x List.mem_cons_self),takeWhile_all (fun y hy => h y (List.mem_cons_of_mem _ hy)),List.cons_append]
theorem takeWhile_stop {p : Nat → Bool} : ∀ {s : List Nat} {x : Nat},x ∈ s → p x = false → ∀ t,(s ++ t).takeWhile p = s.takeWhile p
  | y :: s,x,hx,hp,t => by
    rw [List.cons_append,List.takeWhile_cons,List.takeWhile_cons]
    by_cases hy : p y = true
    · rw [if_pos hy,if_pos hy]
      rcases List.mem_cons.1 hx with rfl | hx
      · rw [hp] at hy; cases hy
      · rw [takeWhile_stop hx hp]
    · rw [if_neg hy,if_neg hy]
theorem noLine {s : List Nat} (h : linesN s = 0) : ∀ x ∈ s,(x != 10) = true := fun x hx => by
  have : x ≠ 10 := fun hx10 => by
    subst hx10
    exact absurd hx (List.count_eq_zero.1 h)
  simpa using this
theorem hasLine {s : List Nat} (h : linesN s ≠ 0) : 10 ∈ s := by
  apply Classical.byContradiction
  intro hn
  exact h (List.count_eq_zero.2 hn)
theorem head_append (s t : List Nat) : headN (s ++ t) = if linesN s = 0 then s.length + headN t else headN s := by
  unfold headN
  split
  · rename_i h
    rw [takeWhile_all (noLine h),List.length_append]
  · rename_i h
    rw [takeWhile_stop (hasLine h) rfl]
theorem lines_reverse (s : List Nat) : linesN s.reverse = linesN s := List.count_reverse
theorem tail_append (s t : List Nat) : tailN (s ++ t) = if linesN t = 0 then t.length + tailN s else tailN t := by
  have := head_append t.reverse s.reverse
  unfold headN at this
  unfold tailN
  rw [List.reverse_append,this,lines_reverse,List.length_reverse]
theorem head_zero {t : List Nat} (h : linesN t = 0) : headN t = t.length := by
  have := head_append t []
  rw [if_pos h,List.append_nil] at this
  simpa [headN] using this
theorem tail_zero {t : List Nat} (h : linesN t = 0) : tailN t = t.length := by
  have := tail_append [] t
  rw [if_pos h,List.nil_append] at this
  simpa [tailN] using this
theorem fit_lines : ∀ t : List Nat,linesN t ≠ 0 → headN t + linesN t + tailN t ≤ t.length ∧ (linesN t = 1 → headN t + 1 + tailN t = t.length)
  | [],h => absurd rfl h
  | x :: t,h => by
    by_cases hx : x = 10
    · subst hx
      have e1 : headN (10 :: t) = 0 := rfl
      have e2 : linesN (10 :: t) = linesN t + 1 := by simp [linesN]
      have e3 : tailN (10 :: t) = if linesN t = 0 then t.length + tailN [10] else tailN t := tail_append [10] t
      have e4 : tailN [10] = 0 := rfl
      by_cases h0 : linesN t = 0
      · rw [if_pos h0,e4] at e3
        rw [e1,e2,e3,h0,List.length_cons]; omega
      · rw [if_neg h0] at e3
        have := fit_lines t h0
        rw [e1,e2,e3,List.length_cons]; omega
    · have e1 : headN (x :: t) = headN t + 1 := by
        unfold headN
        rw [List.takeWhile_cons,if_pos (by simpa using hx),List.length_cons]
      have e2 : linesN (x :: t) = linesN t := by simp [linesN,hx]
      have e3 : tailN (x :: t) = if linesN t = 0 then t.length + tailN [x] else tailN t := tail_append [x] t
      rw [e2] at h ⊢
      rw [if_neg h] at e3
      have := fit_lines t h
      rw [e1,e3,List.length_cons]; omega
def rep (k : Nat) (t : List Nat) : List Nat := (List.replicate k t).flatten
theorem rep_zero (t : List Nat) : rep 0 t = [] := rfl
theorem rep_one (t : List Nat) : rep 1 t = t := by simp [rep]
theorem rep_succ (k : Nat) (t : List Nat) : rep (k + 1) t = t ++ rep k t := by simp [rep,List.replicate_succ]
theorem rep_add (j k : Nat) (t : List Nat) : rep (j + k) t = rep j t ++ rep k t := by
  rw [rep,← List.replicate_append_replicate,List.flatten_append]; rfl
theorem rep_length (k : Nat) (t : List Nat) : (rep k t).length = k * t.length := by simp [rep]
theorem rep_lines (k : Nat) (t : List Nat) : linesN (rep k t) = k * linesN t := by
  induction k with
  | zero => simp [rep_zero,linesN]
  | succ k ih => rw [rep_succ,lines_append,ih,Nat.succ_mul]; omega
theorem rep_head {k : Nat} (hk : 0 < k) (t : List Nat) (h : linesN t ≠ 0) : headN (rep k t) = headN t := by
  obtain ⟨j,rfl⟩ : ∃ j,k = j + 1 := ⟨k - 1,by omega⟩
  rw [rep_succ,head_append,if_neg h]
theorem rep_tail {k : Nat} (hk : 0 < k) (t : List Nat) (h : linesN t ≠ 0) : tailN (rep k t) = tailN t := by
  obtain ⟨j,rfl⟩ : ∃ j,k = j + 1 := ⟨k - 1,by omega⟩
  rw [rep_add,rep_one,tail_append,if_neg h]
structure Wt where
  len : Nat
  lines : Nat
  head : Nat
  tail : Nat
  val : Nat
  scale : Nat
def valN (t : List Nat) : Nat := poly t % PP
def scaleN (t : List Nat) : Nat := BB ^ t.length % PP
theorem valN_lt (t : List Nat) : valN t < PP := Nat.mod_lt _ (by decide)
theorem valN_append (s t : List Nat) : (valN s * scaleN t % PP + valN t) % PP = valN (s ++ t) := by
  unfold valN scaleN
  rw [poly_append,mod_mul_mod,mod_add_mod']
theorem scaleN_append (s t : List Nat) : scaleN s * scaleN t % PP = scaleN (s ++ t) := by
  unfold scaleN
  rw [mod_mul_mod,List.length_append,Nat.pow_add]
end Go.Proofs.Ytoocnmfodhnpbaa
/- Arithmetic modulo 2^61 - 1: program and reference. No condition. -/
namespace Go.Proofs.Ytoocnmfodhnpbaa
open Go.EG
attribute [local irreducible] CallK QCall Go.Calls
set_option linter.unusedSimpArgs false
set_option linter.unusedVariables false
set_option maxRecDepth 20000
theorem and_mask (x : Nat) : x &&& 2305843009213693951 = x % 2305843009213693952 := Nat.and_two_pow_sub_one_eq_mod x 61
theorem and_mask32 (x : Nat) : x &&& 4294967295 = x % 4294967296 := Nat.and_two_pow_sub_one_eq_mod x 32
theorem calls_Reduce (x : Nat) (hx : x < 18446744073709551616) (w : World) : Calls Try.prog fn_modular_Reduce #[.int .u64 x] w fun e w' => e = .returned (.int .u64 (x % PP : Nat)) ∧ Ext w w' := by
  refine pure_call [.v (.int .u64 x)] w ok_modular_Reduce (by simp) ?_
  have e1 : (((x : Int).toNat &&& (2305843009213693951 : Int).toNat : Nat) : Int) = ((x % 2305843009213693952 : Nat) : Int) := by
    rw [Int.toNat_natCast]; exact congrArg _ (and_mask x)
  have e2 : (x : Int) / ((2 ^ (61 : Int).toNat : Nat) : Int) = ((x / 2305843009213693952 : Nat) : Int) := by
    rw [Int.natCast_ediv]; rfl
  have hr := red_small hx rfl
  generalize hs : x % 2305843009213693952 + x / 2305843009213693952 = s at *
  have hss : ((x % 2305843009213693952 : Nat) : Int) + ((x / 2305843009213693952 : Nat) : Int) = (s : Int) := by omega
  have hsb : s < 2305843009213693960 := by omega
  unfold PP at hr
  (repeat' ((conv => whnf); first | rw [e1] | rw [e2] | rw [hss] | (refine bcase_prop (fun h => ?_) (fun h => ?_) <;> try (exfalso; omega)) | (refine bcase_nprop (fun h => ?_) (fun h => ?_) <;> try (exfalso; omega)) | (refine bcase_intro (fun h => ?_) (fun h => ?_) <;> (try simp only [Bool.not_eq_true',Bool.not_eq_false',decide_eq_true_eq,decide_eq_false_iff_not,Bool.not_eq_true,Bool.not_eq_false,Decidable.not_not] at h)) | refine pay ?_ | refine And.intro (by first | exact ⟨by omega,by omega,by decide,by decide⟩ | exact ⟨by decide,by show _ ≤ (64 : Int); decide⟩) ?_ | intro _)); (all_goals (conv => whnf))
  all_goals (refine ⟨?_⟩; rw [hr]; congr 1; split <;> omega)
theorem calls_Mul64 (a b : Nat) (ha : a < 18446744073709551616) (hb : b < 18446744073709551616) (w : World) : Calls Try.prog fn_math_bits_Mul64 #[.int .u64 a,.int .u64 b] w fun e w' => e = .returned (.tuple #[.int .u64 (a * b / 18446744073709551616 : Nat),.int .u64 (a * b % 18446744073709551616 : Nat)]) ∧ Ext w w' := by
  refine pure_call [.v (.int .u64 a),.v (.int .u64 b)] w ok_math_bits_Mul64 (by simp) ?_
  have hand : ∀ x : Nat,(((x : Int).toNat &&& (4294967295 : Int).toNat : Nat) : Int) = ((x % 4294967296 : Nat) : Int) := fun x => by
    rw [Int.toNat_natCast]; exact congrArg _ (and_mask32 x)
  have hsh : ∀ x : Nat,(x : Int) / ((2 ^ (32 : Int).toNat : Nat) : Int) = ((x / 4294967296 : Nat) : Int) := fun x => by
    rw [Int.natCast_ediv]; rfl
  obtain ⟨x0,hx0⟩ : ∃ x0,x0 = a % 4294967296 := ⟨_,rfl⟩
  obtain ⟨x1,hx1⟩ : ∃ x1,x1 = a / 4294967296 := ⟨_,rfl⟩
  obtain ⟨y0,hy0⟩ : ∃ y0,y0 = b % 4294967296 := ⟨_,rfl⟩
  obtain ⟨y1,hy1⟩ : ∃ y1,y1 = b / 4294967296 := ⟨_,rfl⟩
  obtain ⟨w0,hw0⟩ : ∃ w0,w0 = x0 * y0 := ⟨_,rfl⟩
  obtain ⟨t,ht⟩ : ∃ t,t = x1 * y0 + w0 / 4294967296 := ⟨_,rfl⟩
  obtain ⟨w1,hw1⟩ : ∃ w1,w1 = t % 4294967296 := ⟨_,rfl⟩
  obtain ⟨w2,hw2⟩ : ∃ w2,w2 = t / 4294967296 := ⟨_,rfl⟩
  obtain ⟨v1,hv1⟩ : ∃ v1,v1 = w1 + x0 * y1 := ⟨_,rfl⟩
  obtain ⟨k1,k2,k3,k4,k5,k6,k7,k8,k9⟩ := mul64 ha hb hx0 hx1 hy0 hy1 hw0 ht hw1 hw2 hv1
  have wr : ∀ n : Nat,n < 18446744073709551616 → (n : Int) % 18446744073709551616 = n := fun n hn => by omega
  have q1 := hand a
  have q2 := hsh a
  have q3 := hand b
  have q4 := hsh b
  rw [← hx0] at q1
  rw [← hx1] at q2
  rw [← hy0] at q3
  rw [← hy1] at q4
  have q5 : (x0 : Int) * (y0 : Int) % 18446744073709551616 = (w0 : Int) := by rw [hw0,← Int.natCast_mul,wr _ k4]
  have q6 : (x1 : Int) * (y0 : Int) % 18446744073709551616 = ((x1 * y0 : Nat) : Int) := by rw [← Int.natCast_mul,wr _ k5]
  have q7 := hsh w0
  have q8 : (((x1 * y0 : Nat) : Int) + ((w0 / 4294967296 : Nat) : Int)) % 18446744073709551616 = (t : Int) := by rw [← Int.natCast_add,← ht,wr _ k1]
  have q9 := hand t
  have q10 := hsh t
  rw [← hw1] at q9
  rw [← hw2] at q10
  have q11 : (x0 : Int) * (y1 : Int) % 18446744073709551616 = ((x0 * y1 : Nat) : Int) := by rw [← Int.natCast_mul,wr _ k6]
  have q12 : ((w1 : Int) + ((x0 * y1 : Nat) : Int)) % 18446744073709551616 = (v1 : Int) := by rw [← Int.natCast_add,← hv1,wr _ k2]
  have q13 : (x1 : Int) * (y1 : Int) % 18446744073709551616 = ((x1 * y1 : Nat) : Int) := by rw [← Int.natCast_mul,wr _ k9]
  have q14 : (((x1 * y1 : Nat) : Int) + (w2 : Int)) % 18446744073709551616 = ((x1 * y1 + w2 : Nat) : Int) := by rw [← Int.natCast_add,wr _ k8]
  have q15 := hsh v1
  have q16 : (((x1 * y1 + w2 : Nat) : Int) + ((v1 / 4294967296 : Nat) : Int)) % 18446744073709551616 = ((a * b / 18446744073709551616 : Nat) : Int) := by rw [← Int.natCast_add,k3,wr _ (by omega)]
  have q17 : (a : Int) * (b : Int) % 18446744073709551616 = ((a * b % 18446744073709551616 : Nat) : Int) := by rw [← Int.natCast_mul]; omega
  have bx0 : x0 ≤ 4294967295 := by omega
  clear hw0 ht hv1 hx0 hx1 hy0 hy1 hw1 hw2
  (repeat' ((conv => whnf); first | rw [q1] | rw [q2] | rw [q3] | rw [q4] | rw [q5] | rw [q6] | rw [q7] | rw [q8] | rw [q9] | rw [q10] | rw [q11] | rw [q12] | rw [q13] | rw [q14] | rw [q15] | rw [q16] | rw [q17] | (refine bcase_prop (fun h => ?_) (fun h => ?_) <;> try (exfalso; omega)) | (refine bcase_nprop (fun h => ?_) (fun h => ?_) <;> try (exfalso; omega)) | (refine bcase_intro (fun h => ?_) (fun h => ?_) <;> (try simp only [Bool.not_eq_true',Bool.not_eq_false',decide_eq_true_eq,decide_eq_false_iff_not,Bool.not_eq_true,Bool.not_eq_false,Decidable.not_not] at h)) | refine pay ?_ | refine And.intro (by first | exact ⟨by omega,by omega,by decide,by decide⟩ | exact ⟨by decide,by show _ ≤ (64 : Int); decide⟩) ?_ | intro _)); (all_goals (conv => whnf))
  exact ⟨rfl⟩
theorem calls_mAdd (a b : Nat) (ha : a < 18446744073709551616) (hb : b < 18446744073709551616) (w : World) : Calls Try.prog fn_modular_Add #[.int .u64 a,.int .u64 b] w fun e w' => e = .returned (.int .u64 ((a + b) % PP : Nat)) ∧ Ext w w' := by
  refine pure_call [.v (.int .u64 a),.v (.int .u64 b)] w ok_modular_Add (by simp) ?_
  have h1 : a % PP < PP := Nat.mod_lt _ (by decide)
  have h2 : b % PP < PP := Nat.mod_lt _ (by decide)
  have hs : (((a % PP : Nat) : Int) + ((b % PP : Nat) : Int)) % 18446744073709551616 = ((a % PP + b % PP : Nat) : Int) := by unfold PP at *; omega
  rw [← mod_add_mod']
  have hlt : a % PP + b % PP < 18446744073709551616 := by unfold PP at *; omega
  generalize a % PP + b % PP = s at *
  (repeat' ((conv => whnf); first | rw [hs] | refine CallK_pure (.v _) (fun w hR => calls_Reduce a ha w) ?_ | refine CallK_pure (.v _) (fun w hR => calls_Reduce b hb w) ?_ | refine CallK_pure (.v _) (fun w hR => calls_Reduce s hlt w) ?_ | (refine bcase_prop (fun h => ?_) (fun h => ?_) <;> try (exfalso; omega)) | (refine bcase_nprop (fun h => ?_) (fun h => ?_) <;> try (exfalso; omega)) | (refine bcase_intro (fun h => ?_) (fun h => ?_) <;> (try simp only [Bool.not_eq_true',Bool.not_eq_false',decide_eq_true_eq,decide_eq_false_iff_not,Bool.not_eq_true,Bool.not_eq_false,Decidable.not_not] at h)) | refine pay ?_ | intro _)); (all_goals (conv => whnf))
  exact ⟨rfl⟩
theorem calls_mMul (a b : Nat) (ha : a < 18446744073709551616) (hb : b < 18446744073709551616) (w : World) : Calls Try.prog fn_modular_Mul #[.int .u64 a,.int .u64 b] w fun e w' => e = .returned (.int .u64 (a * b % PP : Nat)) ∧ Ext w w' := by
  refine pure_call [.v (.int .u64 a),.v (.int .u64 b)] w ok_modular_Mul (by simp) ?_
  rw [← mod_mul_mod]
  have h1 : a % PP < PP := Nat.mod_lt _ (by decide)
  have h2 : b % PP < PP := Nat.mod_lt _ (by decide)
  have c1 := calls_Reduce a ha
  have c2 := calls_Reduce b hb
  generalize a % PP = x at *
  generalize b % PP = y at *
  have c3 := calls_Mul64 x y (Nat.lt_trans h1 (by decide)) (Nat.lt_trans h2 (by decide))
  obtain ⟨k1,k2,k3,k4⟩ := mulP h1 h2 rfl rfl
  rw [← k4]
  generalize hhi : x * y / 18446744073709551616 = hi at *
  generalize hlo : x * y % 18446744073709551616 = lo at *
  have hlo2 : lo < 18446744073709551616 := by omega
  have c4 := calls_Reduce _ k1
  have q1 : (hi : Int) * ((2 ^ (3 : Int).toNat : Nat) : Int) % 18446744073709551616 = ((hi * 8 : Nat) : Int) := by
    show (hi : Int) * 8 % 18446744073709551616 = _
    omega
  have q2 : (lo : Int) / ((2 ^ (61 : Int).toNat : Nat) : Int) = ((lo / 2305843009213693952 : Nat) : Int) := by rw [Int.natCast_ediv]; rfl
  have q3 : (((hi * 8 : Nat) : Int) + ((lo / 2305843009213693952 : Nat) : Int)) % 18446744073709551616 = ((hi * 8 + lo / 2305843009213693952 : Nat) : Int) := by omega
  have q4 : (((lo : Int).toNat &&& (2305843009213693951 : Int).toNat : Nat) : Int) = ((lo % 2305843009213693952 : Nat) : Int) := by rw [Int.toNat_natCast]; exact congrArg _ (and_mask lo)
  have q5 : (((hi * 8 + lo / 2305843009213693952 : Nat) : Int) + ((lo % 2305843009213693952 : Nat) : Int)) % 18446744073709551616 = ((hi * 8 + lo / 2305843009213693952 + lo % 2305843009213693952 : Nat) : Int) := by omega
  (repeat' ((conv => whnf); first | rw [q1] | rw [q2] | rw [q3] | rw [q4] | rw [q5] | refine CallK_pure (.v _) (fun w hR => c1 w) ?_ | refine CallK_pure (.v _) (fun w hR => c2 w) ?_ | refine CallK_pure (.v _) (fun w hR => c3 w) ?_ | refine CallK_pure (.v _) (fun w hR => c4 w) ?_ | (refine bcase_prop (fun h => ?_) (fun h => ?_) <;> try (exfalso; omega)) | (refine bcase_nprop (fun h => ?_) (fun h => ?_) <;> try (exfalso; omega)) | (refine bcase_intro (fun h => ?_) (fun h => ?_) <;> (try simp only [Bool.not_eq_true',Bool.not_eq_false',decide_eq_true_eq,decide_eq_false_iff_not,Bool.not_eq_true,Bool.not_eq_false,Decidable.not_not] at h)) | refine pay ?_ | refine And.intro (by first | exact ⟨by omega,by omega,by decide,by decide⟩ | exact ⟨by decide,by show _ ≤ (64 : Int); decide⟩) ?_ | intro _)); (all_goals (conv => whnf))
  exact ⟨rfl⟩
structure PowG where
  r : Nat
  a : Nat
  n : Nat
theorem calls_mPow (a n : Nat) (ha : a < 18446744073709551616) (hn : n < 18446744073709551616) (w : World) : Calls Try.prog fn_modular_Pow #[.int .u64 a,.int .u64 n] w fun e w' => e = .returned (.int .u64 (a ^ n % PP : Nat)) ∧ Ext w w' := by
  refine pure_call [.v (.int .u64 a),.v (.int .u64 n)] w ok_modular_Pow (by simp) ?_
  (repeat' ((conv => whnf); first | refine CallK_pure (.v _) (fun w hR => calls_Reduce a ha w) ?_ | (refine bcase_prop (fun h => ?_) (fun h => ?_) <;> try (exfalso; omega)) | (refine bcase_nprop (fun h => ?_) (fun h => ?_) <;> try (exfalso; omega)) | (refine bcase_intro (fun h => ?_) (fun h => ?_) <;> (try simp only [Bool.not_eq_true',Bool.not_eq_false',decide_eq_true_eq,decide_eq_false_iff_not,Bool.not_eq_true,Bool.not_eq_false,Decidable.not_not] at h)) | refine pay ?_ | intro _)); (all_goals (conv => whnf))
  refine VC_loop PowG (fun g => [(0,.v (.int .u64 g.a)),(1,.v (.int .u64 g.n)),(5,.v (.int .u64 g.r))]) (fun _ => []) (fun g => g.r < PP ∧ g.a < PP ∧ g.n < 18446744073709551616 ∧ g.r * g.a ^ g.n % PP = a ^ n % PP) (fun g => g.n) ⟨1,a % PP,n⟩ ⟨by dsimp only; decide,Nat.mod_lt _ (by decide),hn,by dsimp only; rw [Nat.one_mul,mod_pow]⟩ (by (repeat ((conv => whnf); refine And.intro (by first | exact rfl | exact vint_eq (by omega) | exact vint_eq (by (dsimp only; omega)) | exact vsl_eq (by omega) | exact vsl_eq (by first | (dsimp only; omega) | (simp; done) | (simp; omega))) ?_)); exact trivial) (Ref.refl _) ?_
  rintro ⟨r,x,m⟩ ⟨hr,hx,hm,hi⟩
  dsimp only at hr hx hm hi ⊢
  have c1 := calls_mMul r x (Nat.lt_trans hr (by decide)) (Nat.lt_trans hx (by decide))
  have c2 := calls_mMul x x (Nat.lt_trans hx (by decide)) (Nat.lt_trans hx (by decide))
  have hm2 : (m : Int) / 2 = ((m / 2 : Nat) : Int) := by omega
  (repeat' ((conv => whnf); first | refine CallK_pure (.v _) (fun w hR => c1 w) ?_ | refine CallK_pure (.v _) (fun w hR => c2 w) ?_ | rw [hm2] | (refine bcase_prop (fun h => ?_) (fun h => ?_) <;> try (exfalso; omega)) | (refine bcase_nprop (fun h => ?_) (fun h => ?_) <;> try (exfalso; omega)) | (refine bcase_intro (fun h => ?_) (fun h => ?_) <;> (try simp only [Bool.not_eq_true',Bool.not_eq_false',decide_eq_true_eq,decide_eq_false_iff_not,Bool.not_eq_true,Bool.not_eq_false,Decidable.not_not] at h)) | refine pay ?_ | intro _)); (all_goals (conv => whnf))
  · refine loop_next ⟨r * x % PP,x * x % PP,m / 2⟩ (by dsimp only; exact ⟨Nat.mod_lt _ (by decide),Nat.mod_lt _ (by decide),by omega,pow_round1 hi (by omega)⟩) (by ((try dsimp only); omega)) (by (repeat ((conv => whnf); refine And.intro (by first | exact rfl | exact vint_eq (by omega) | exact vint_eq (by (dsimp only; omega)) | exact vsl_eq (by omega) | exact vsl_eq (by first | (dsimp only; omega) | (simp; done) | (simp; omega))) ?_)); exact trivial) (Ref.refl _)
  · refine loop_next ⟨r,x * x % PP,m / 2⟩ (by dsimp only; exact ⟨hr,Nat.mod_lt _ (by decide),by omega,pow_round0 hi (by omega)⟩) (by ((try dsimp only); omega)) (by (repeat ((conv => whnf); refine And.intro (by first | exact rfl | exact vint_eq (by omega) | exact vint_eq (by (dsimp only; omega)) | exact vsl_eq (by omega) | exact vsl_eq (by first | (dsimp only; omega) | (simp; done) | (simp; omega))) ?_)); exact trivial) (Ref.refl _)
  · have hm0 : m = 0 := by omega
    subst hm0
    rw [Nat.pow_zero,Nat.mul_one,Nat.mod_eq_of_lt hr] at hi
    rw [← hi]
    exact ⟨rfl⟩
end Go.Proofs.Ytoocnmfodhnpbaa
/- Lengths,digests and weights of texts. No condition but the lengths'. -/
namespace Go.Proofs.Ytoocnmfodhnpbaa
open Go.EG
attribute [local irreducible] CallK QCall Go.Calls
set_option linter.unusedSimpArgs false
set_option linter.unusedVariables false
set_option maxRecDepth 20000
abbrev LM : Nat := 1152921504606846976
abbrev errV (n : Int) : Value := .iface ty_api_Errno (.int .i64 n)
abbrev digV (t : List Nat) : Value := .agg #[.int .u64 (valN t),.int .u64 (scaleN t)]
abbrev wtV (t : List Nat) : Value := .agg #[.int .i64 t.length,.int .i64 (linesN t),.int .i64 (headN t),.int .i64 (tailN t),.int .u64 (valN t),.int .u64 (scaleN t)]
theorem calls_lValid (n : Int) (w : World) : Calls Try.prog fn_length_Valid #[.int .i64 n] w fun e w' => e = .returned (.bool (decide (0 ≤ n ∧ n ≤ 1152921504606846976))) ∧ Ext w w' := by
  refine pure_call [.v (.int .i64 n)] w ok_length_Valid (by simp) ?_
  (repeat' ((conv => whnf); first | (refine bcase_prop (fun h => ?_) (fun h => ?_) <;> try (exfalso; omega)) | (refine bcase_nprop (fun h => ?_) (fun h => ?_) <;> try (exfalso; omega)) | (refine bcase_intro (fun h => ?_) (fun h => ?_) <;> (try simp only [Bool.not_eq_true',Bool.not_eq_false',decide_eq_true_eq,decide_eq_false_iff_not,Bool.not_eq_true,Bool.not_eq_false,Decidable.not_not] at h)) | refine pay ?_ | intro _)); (all_goals (conv => whnf))
  all_goals (refine ⟨?_⟩; congr 1; simp; omega)
theorem calls_lClip (n lo hi : Int) (w : World) : Calls Try.prog fn_length_Clip #[.int .i64 n,.int .i64 lo,.int .i64 hi] w fun e w' => e = .returned (.int .i64 (if n < lo then lo else if n > hi then hi else n)) ∧ Ext w w' := by
  refine pure_call [.v (.int .i64 n),.v (.int .i64 lo),.v (.int .i64 hi)] w ok_length_Clip (by simp) ?_
  (repeat' ((conv => whnf); first | (refine bcase_prop (fun h => ?_) (fun h => ?_) <;> try (exfalso; omega)) | (refine bcase_nprop (fun h => ?_) (fun h => ?_) <;> try (exfalso; omega)) | (refine bcase_intro (fun h => ?_) (fun h => ?_) <;> (try simp only [Bool.not_eq_true',Bool.not_eq_false',decide_eq_true_eq,decide_eq_false_iff_not,Bool.not_eq_true,Bool.not_eq_false,Decidable.not_not] at h)) | refine pay ?_ | intro _)); (all_goals (conv => whnf))
  all_goals (refine ⟨?_⟩; congr 1; repeat' split <;> omega)
def addV (a b : Nat) : Value := if a + b ≤ LM then .tuple #[.int .i64 ((a + b : Nat) : Int),.nilIface] else .tuple #[.int .i64 0,errV 2]
theorem calls_lAdd (a b : Nat) (ha : a ≤ LM) (hb : b ≤ LM) (w : World) : Calls Try.prog fn_length_Add #[.int .i64 a,.int .i64 b] w fun e w' => e = .returned (addV a b) ∧ Ext w w' := by
  refine pure_call [.v (.int .i64 a),.v (.int .i64 b)] w ok_length_Add (by simp) ?_
  unfold LM at ha hb
  have c1 := calls_lValid a
  have c2 := calls_lValid b
  rw [decide_eq_true (by omega)] at c1 c2
  (repeat' ((conv => whnf); first | refine CallK_pure (.v _) (fun w hR => c1 w) ?_ | refine CallK_pure (.v _) (fun w hR => c2 w) ?_ | (refine bcase_prop (fun h => ?_) (fun h => ?_) <;> try (exfalso; omega)) | (refine bcase_nprop (fun h => ?_) (fun h => ?_) <;> try (exfalso; omega)) | (refine bcase_intro (fun h => ?_) (fun h => ?_) <;> (try simp only [Bool.not_eq_true',Bool.not_eq_false',decide_eq_true_eq,decide_eq_false_iff_not,Bool.not_eq_true,Bool.not_eq_false,Decidable.not_not] at h)) | refine pay ?_ | intro _)); (all_goals (conv => whnf))
  all_goals (refine ⟨?_⟩; unfold addV LM; first | rw [if_pos (by omega)] | rw [if_neg (by omega)])
  all_goals first | rfl | (congr 4; omega)
def mulV (a k : Nat) : Value := if a * k ≤ LM then .tuple #[.int .i64 ((a * k : Nat) : Int),.nilIface] else .tuple #[.int .i64 0,errV 2]
theorem calls_lMul (a k : Nat) (ha : a ≤ LM) (hk : k ≤ 9223372036854775807) (w : World) : Calls Try.prog fn_length_Mul #[.int .i64 a,.int .i64 k] w fun e w' => e = .returned (mulV a k) ∧ Ext w w' := by
  refine pure_call [.v (.int .i64 a),.v (.int .i64 k)] w ok_length_Mul (by simp) ?_
  unfold LM at ha
  have c1 := calls_lValid a
  rw [decide_eq_true (by omega)] at c1
  have hd : (1152921504606846976 : Int) / (a : Int) = ((1152921504606846976 / a : Nat) : Int) := by rw [Int.natCast_ediv]; rfl
  have hm : (a : Int) * (k : Int) = ((a * k : Nat) : Int) := by simp
  have hiff : 0 < a → (k ≤ 1152921504606846976 / a ↔ a * k ≤ 1152921504606846976) := fun h => by
    rw [Nat.le_div_iff_mul_le h,Nat.mul_comm]
  generalize 1152921504606846976 / a = q at *
  have hz : a = 0 → a * k = 0 := fun h => by rw [h,Nat.zero_mul]
  rw [show mulV a k = if a * k ≤ LM then .tuple #[.int .i64 ((a * k : Nat) : Int),.nilIface] else .tuple #[.int .i64 0,errV 2] from rfl]
  unfold LM
  generalize a * k = p at *
  have hw1 : 0 < a → k ≤ q → p ≤ 1152921504606846976 := fun h1 h2 => (hiff h1).1 h2
  have hw2 : 0 < a → q < k → 1152921504606846976 < p := fun h1 h2 => by have := (hiff h1).2; omega
  (repeat' ((conv => whnf); first | rw [hd] | rw [hm] | refine CallK_pure (.v _) (fun w hR => c1 w) ?_ | (refine bcase_prop (fun h => ?_) (fun h => ?_) <;> try (exfalso; omega)) | (refine bcase_nprop (fun h => ?_) (fun h => ?_) <;> try (exfalso; omega)) | (refine bcase_intro (fun h => ?_) (fun h => ?_) <;> (try simp only [Bool.not_eq_true',Bool.not_eq_false',decide_eq_true_eq,decide_eq_false_iff_not,Bool.not_eq_true,Bool.not_eq_false,Decidable.not_not] at h)) | refine pay ?_ | refine And.intro (by first | exact ⟨by omega,by omega,by omega⟩ | (have := hw1 (by omega) (by omega); omega)) ?_ | intro _)); (all_goals (conv => whnf))
  · refine ⟨?_⟩
    rw [if_pos (by have := hz (by omega); omega),hz (by omega)]; rfl
  · refine ⟨?_⟩
    rw [if_neg (by have := hw2 (by omega) (by omega); omega)]; exact rfl
  · refine ⟨?_⟩
    rw [if_pos (by have := hw1 (by omega) (by omega); omega)]
theorem calls_dUnit (w : World) : Calls Try.prog fn_digest_Unit #[] w fun e w' => e = .returned (digV []) ∧ Ext w w' := by
  refine pure_call [] w ok_digest_Unit (by simp) ?_
  (repeat' ((conv => whnf); first | (refine bcase_prop (fun h => ?_) (fun h => ?_) <;> try (exfalso; omega)) | (refine bcase_nprop (fun h => ?_) (fun h => ?_) <;> try (exfalso; omega)) | (refine bcase_intro (fun h => ?_) (fun h => ?_) <;> (try simp only [Bool.not_eq_true',Bool.not_eq_false',decide_eq_true_eq,decide_eq_false_iff_not,Bool.not_eq_true,Bool.not_eq_false,Decidable.not_not] at h)) | refine pay ?_ | intro _)); (all_goals (conv => whnf))
  exact ⟨rfl⟩
theorem calls_dLetter (b : Nat) (hb : b < 256) (w : World) : Calls Try.prog fn_digest_Letter #[.int .u8 b] w fun e w' => e = .returned (digV [b]) ∧ Ext w w' := by
  refine pure_call [.v (.int .u8 b)] w ok_digest_Letter (by simp) ?_
  have e1 : valN [b] = b + 1 := by
    have : poly [b] = b + 1 := by simp [poly,polyF]
    rw [valN,this]; exact Nat.mod_eq_of_lt (by unfold PP; omega)
  have e2 : scaleN [b] = 1103515245 := rfl
  have q : ((b : Int) + 1) % 18446744073709551616 = ((b + 1 : Nat) : Int) := by omega
  have q2 : (b : Int) % 18446744073709551616 = b := by omega
  unfold digV
  rw [e1,e2]
  (repeat' ((conv => whnf); first | rw [q] | rw [q2] | (refine bcase_prop (fun h => ?_) (fun h => ?_) <;> try (exfalso; omega)) | (refine bcase_nprop (fun h => ?_) (fun h => ?_) <;> try (exfalso; omega)) | (refine bcase_intro (fun h => ?_) (fun h => ?_) <;> (try simp only [Bool.not_eq_true',Bool.not_eq_false',decide_eq_true_eq,decide_eq_false_iff_not,Bool.not_eq_true,Bool.not_eq_false,Decidable.not_not] at h)) | refine pay ?_ | intro _)); (all_goals (conv => whnf))
  exact ⟨rfl⟩
theorem PPlt {n : Nat} : n % PP < 18446744073709551616 := Nat.lt_trans (Nat.mod_lt n (by decide)) (by decide)
theorem valN_lt' (t : List Nat) : valN t < 18446744073709551616 := PPlt
theorem scaleN_lt' (t : List Nat) : scaleN t < 18446744073709551616 := PPlt
theorem calls_dJoin (s t : List Nat) (w : World) : Calls Try.prog fn_digest_Join #[digV s,digV t] w fun e w' => e = .returned (digV (s ++ t)) ∧ Ext w w' := by
  refine pure_call [.v (digV s),.v (digV t)] w ok_digest_Join (by simp) ?_
  have c1 := calls_mMul (valN s) (scaleN t) (valN_lt' _) (scaleN_lt' _)
  have c2 := calls_mAdd (valN s * scaleN t % PP) (valN t) PPlt (valN_lt' _)
  have c3 := calls_mMul (scaleN s) (scaleN t) (scaleN_lt' _) (scaleN_lt' _)
  rw [valN_append] at c2
  rw [scaleN_append] at c3
  (repeat' ((conv => whnf); first | refine CallK_pure (.v _) (fun w hR => c1 w) ?_ | refine CallK_pure (.v _) (fun w hR => c2 w) ?_ | refine CallK_pure (.v _) (fun w hR => c3 w) ?_ | refine QCall_pure (.v _) (fun w hR => c1 w) ?_ | refine QCall_pure (.v _) (fun w hR => c2 w) ?_ | refine QCall_pure (.v _) (fun w hR => c3 w) ?_ | (refine bcase_prop (fun h => ?_) (fun h => ?_) <;> try (exfalso; omega)) | (refine bcase_nprop (fun h => ?_) (fun h => ?_) <;> try (exfalso; omega)) | (refine bcase_intro (fun h => ?_) (fun h => ?_) <;> (try simp only [Bool.not_eq_true',Bool.not_eq_false',decide_eq_true_eq,decide_eq_false_iff_not,Bool.not_eq_true,Bool.not_eq_false,Decidable.not_not] at h)) | refine pay ?_ | intro _)); (all_goals (conv => whnf))
  exact ⟨rfl⟩
structure RepG where
  m : Nat
  i : Nat
  k : Nat
theorem rep_half (m k p : Nat) : m + k % 2 * p + k / 2 * (p + p) = m + k * p := by
  conv => rhs; rw [← Nat.div_add_mod k 2]
  rw [Nat.add_mul,Nat.mul_assoc,Nat.mul_left_comm,Nat.two_mul]
  omega
theorem calls_dRepeat (t : List Nat) (k : Nat) (hk : k ≤ 9223372036854775807) (w : World) : Calls Try.prog fn_digest_Repeat #[digV t,.int .i64 k] w fun e w' => e = .returned (digV (rep k t)) ∧ Ext w w' := by
  refine pure_call [.v (digV t),.v (.int .i64 k)] w ok_digest_Repeat (by simp) ?_
  (repeat' ((conv => whnf); first | refine CallK_pure (.v _) (fun w hR => calls_dUnit w) ?_ | (refine bcase_prop (fun h => ?_) (fun h => ?_) <;> try (exfalso; omega)) | (refine bcase_nprop (fun h => ?_) (fun h => ?_) <;> try (exfalso; omega)) | (refine bcase_intro (fun h => ?_) (fun h => ?_) <;> (try simp only [Bool.not_eq_true',Bool.not_eq_false',decide_eq_true_eq,decide_eq_false_iff_not,Bool.not_eq_true,Bool.not_eq_false,Decidable.not_not] at h)) | refine pay ?_ | intro _)); (all_goals (conv => whnf))
  rename_i b2 b4 b5
  refine VC_loop RepG (fun g => [(1,.v (.int .i64 g.k)),(2,.ptr 2 b2 0),(5,.ptr 5 b5 0),(4,.ptr 4 b4 0)])
    (fun g => [Ent.box 5 b5 [.int .u64 (valN (rep g.m t)),.int .u64 (scaleN (rep g.m t))] ty_api_Digest,Ent.box 4 b4 [.int .u64 0,.int .u64 0] ty_api_Digest,Ent.box 2 b2 [.int .u64 (valN (rep g.i t)),.int .u64 (scaleN (rep g.i t))] ty_api_Digest])
    (fun g => g.m + g.k * g.i = k ∧ g.k ≤ 9223372036854775807) (fun g => g.k) ⟨0,1,k⟩ ⟨by dsimp only; omega,hk⟩ (by (repeat ((conv => whnf); refine And.intro (by first | exact rfl | exact vint_eq (by omega) | exact vint_eq (by (dsimp only; omega)) | exact vsl_eq (by omega) | exact vsl_eq (by first | (dsimp only; omega) | (simp; done) | (simp; omega))) ?_)); exact trivial) (by dsimp only; rw [rep_zero,rep_one]; exact Ref.refl _) ?_
  rintro ⟨m,i,j⟩ ⟨hi,hj⟩
  dsimp only at hi hj ⊢
  have c1 := calls_dJoin (rep m t) (rep i t)
  have c2 := calls_dJoin (rep i t) (rep i t)
  rw [← rep_add] at c1 c2
  have q1 : (j : Int) / 2 = ((j / 2 : Nat) : Int) := by omega
  have hh := rep_half m j i
  (repeat' ((conv => whnf); first | rw [q1] | refine CallK_pure (.v _) (fun w hR => c1 w) ?_ | refine CallK_pure (.v _) (fun w hR => c2 w) ?_ | (refine bcase_prop (fun h => ?_) (fun h => ?_) <;> try (exfalso; omega)) | (refine bcase_nprop (fun h => ?_) (fun h => ?_) <;> try (exfalso; omega)) | (refine bcase_intro (fun h => ?_) (fun h => ?_) <;> (try simp only [Bool.not_eq_true',Bool.not_eq_false',decide_eq_true_eq,decide_eq_false_iff_not,Bool.not_eq_true,Bool.not_eq_false,Decidable.not_not] at h)) | refine pay ?_ | intro _)); (all_goals (conv => whnf))
  · refine loop_next ⟨m + i,i + i,j / 2⟩ (by dsimp only; rw [show j % 2 = 1 by omega] at hh; omega) (by ((try dsimp only); omega)) (by (repeat ((conv => whnf); refine And.intro (by first | exact rfl | exact vint_eq (by omega) | exact vint_eq (by (dsimp only; omega)) | exact vsl_eq (by omega) | exact vsl_eq (by first | (dsimp only; omega) | (simp; done) | (simp; omega))) ?_)); exact trivial) (Ref.refl _)
  · refine loop_next ⟨m,i + i,j / 2⟩ (by dsimp only; rw [show j % 2 = 0 by omega] at hh; omega) (by ((try dsimp only); omega)) (by (repeat ((conv => whnf); refine And.intro (by first | exact rfl | exact vint_eq (by omega) | exact vint_eq (by (dsimp only; omega)) | exact vsl_eq (by omega) | exact vsl_eq (by first | (dsimp only; omega) | (simp; done) | (simp; omega))) ?_)); exact trivial) (Ref.refl _)
  · have : j = 0 := by omega
    subst this
    rw [Nat.zero_mul,Nat.add_zero] at hi
    subst hi
    exact ⟨rfl⟩
theorem calls_wUnit (w : World) : Calls Try.prog fn_weight_Unit #[] w fun e w' => e = .returned (wtV []) ∧ Ext w w' := by
  refine pure_call [] w ok_weight_Unit (by simp) ?_
  (repeat' ((conv => whnf); first | refine CallK_pure (.v _) (fun w hR => calls_dUnit w) ?_ | (refine bcase_prop (fun h => ?_) (fun h => ?_) <;> try (exfalso; omega)) | (refine bcase_nprop (fun h => ?_) (fun h => ?_) <;> try (exfalso; omega)) | (refine bcase_intro (fun h => ?_) (fun h => ?_) <;> (try simp only [Bool.not_eq_true',Bool.not_eq_false',decide_eq_true_eq,decide_eq_false_iff_not,Bool.not_eq_true,Bool.not_eq_false,Decidable.not_not] at h)) | refine pay ?_ | intro _)); (all_goals (conv => whnf))
  exact ⟨rfl⟩
theorem calls_wLetter (b : Nat) (hb : b < 256) (w : World) : Calls Try.prog fn_weight_Letter #[.int .u8 b] w fun e w' => e = .returned (wtV [b]) ∧ Ext w w' := by
  refine pure_call [.v (.int .u8 b)] w ok_weight_Letter (by simp) ?_
  have e0 : b ≠ 10 → linesN [b] = 0 ∧ headN [b] = 1 ∧ tailN [b] = 1 := fun h => by
    have h0 : linesN [b] = 0 := by simp [linesN,h]
    exact ⟨h0,head_zero h0,tail_zero h0⟩
  (repeat' ((conv => whnf); first | refine CallK_pure (.v _) (fun w hR => calls_dLetter b hb w) ?_ | (refine bcase_prop (fun h => ?_) (fun h => ?_) <;> try (exfalso; omega)) | (refine bcase_nprop (fun h => ?_) (fun h => ?_) <;> try (exfalso; omega)) | (refine bcase_intro (fun h => ?_) (fun h => ?_) <;> (try simp only [Bool.not_eq_true',Bool.not_eq_false',decide_eq_true_eq,decide_eq_false_iff_not,Bool.not_eq_true,Bool.not_eq_false,Decidable.not_not] at h)) | refine pay ?_ | intro _)); (all_goals (conv => whnf))
  · refine ⟨?_⟩
    have : b = 10 := by omega
    subst this
    rfl
  · refine ⟨?_⟩
    obtain ⟨e1,e2,e3⟩ := e0 (by omega)
    unfold wtV
    rw [e1,e2,e3]
    rfl
theorem calls_wValid (t : List Nat) (ht : t.length ≤ LM) (w : World) : Calls Try.prog fn_weight_Valid #[wtV t] w fun e w' => e = .returned (.bool true) ∧ Ext w w' := by
  refine pure_call [.v (wtV t)] w ok_weight_Valid (by simp) ?_
  unfold LM at ht
  have c1 := calls_lValid t.length
  rw [decide_eq_true (by omega)] at c1
  have c2 := calls_mPow 1103515245 t.length (by decide) (by omega)
  have h0 : linesN t = 0 → headN t = t.length ∧ tailN t = t.length := fun h => ⟨head_zero h,tail_zero h⟩
  have h1 := fit_lines t
  have h2 := valN_lt t
  have h3 : t.length = 0 → valN t = 0 := fun h => by rw [List.eq_nil_of_length_eq_zero h]; rfl
  have h4 : scaleN t = 1103515245 ^ t.length % PP := rfl
  rw [← h4] at c2
  have q1 : (t.length : Int) % 18446744073709551616 = t.length := by omega
  clear h4
  unfold PP at h2
  unfold wtV
  generalize t.length = n at *
  generalize linesN t = l at *
  generalize headN t = hd at *
  generalize tailN t = tl at *
  generalize valN t = v at *
  generalize scaleN t = sc at *
  (repeat' ((conv => whnf); first | rw [q1] | refine CallK_pure (.v _) (fun w hR => c1 w) ?_ | refine QCall_pure (.v _) (fun w hR => c2 w) ?_ | (refine bcase_prop (fun h => ?_) (fun h => ?_) <;> try (exfalso; omega)) | (refine bcase_nprop (fun h => ?_) (fun h => ?_) <;> try (exfalso; omega)) | (refine bcase_intro (fun h => ?_) (fun h => ?_) <;> (try simp only [Bool.not_eq_true',Bool.not_eq_false',decide_eq_true_eq,decide_eq_false_iff_not,Bool.not_eq_true,Bool.not_eq_false,Decidable.not_not] at h)) | refine pay ?_ | intro _)); (all_goals (conv => whnf))
  all_goals (refine ⟨?_⟩; first | rfl | (exfalso; omega) | (congr 1; simp))
theorem calls_wJoin (s t : List Nat) (h : s.length + t.length ≤ LM) (w : World) : Calls Try.prog fn_weight_Join #[wtV s,wtV t] w fun e w' => e = .returned (.tuple #[wtV (s ++ t),.nilIface]) ∧ Ext w w' := by
  refine pure_call [.v (wtV s),.v (wtV t)] w ok_weight_Join (by simp) ?_
  have c1 := calls_wValid s (by omega)
  have c2 := calls_wValid t (by omega)
  have c3 := calls_lAdd s.length t.length (by omega) (by omega)
  rw [show addV s.length t.length = .tuple #[.int .i64 ((s.length + t.length : Nat) : Int),.nilIface] from if_pos h] at c3
  have c4 := calls_dJoin s t
  have e1 := lines_append s t
  have e2 := head_append s t
  have e3 := tail_append s t
  have b1 := fit_lines s
  have b2 := fit_lines t
  have z1 : linesN s = 0 → headN s = s.length ∧ tailN s = s.length := fun h => ⟨head_zero h,tail_zero h⟩
  have z2 : linesN t = 0 → headN t = t.length ∧ tailN t = t.length := fun h => ⟨head_zero h,tail_zero h⟩
  unfold LM at h
  unfold wtV at *
  unfold digV at c4
  rw [List.length_append,e1,e2,e3]
  generalize valN (s ++ t) = v at *
  generalize scaleN (s ++ t) = sc at *
  clear e1 e2 e3
  generalize s.length = n at *
  generalize t.length = n' at *
  generalize linesN s = l at *
  generalize linesN t = l' at *
  generalize headN s = hd at *
  generalize headN t = hd' at *
  generalize tailN s = tl at *
  generalize tailN t = tl' at *
  (repeat' ((conv => whnf); first | refine CallK_pure (.v _) (fun w hR => c1 w) ?_ | refine CallK_pure (.v _) (fun w hR => c2 w) ?_ | refine CallK_pure (.v _) (fun w hR => c3 w) ?_ | refine QCall_pure (.v _) (fun w hR => c1 w) ?_ | refine QCall_pure (.v _) (fun w hR => c2 w) ?_ | refine QCall_pure (.v _) (fun w hR => c4 w) ?_ | (refine bcase_prop (fun h => ?_) (fun h => ?_) <;> try (exfalso; omega)) | (refine bcase_nprop (fun h => ?_) (fun h => ?_) <;> try (exfalso; omega)) | (refine bcase_intro (fun h => ?_) (fun h => ?_) <;> (try simp only [Bool.not_eq_true',Bool.not_eq_false',decide_eq_true_eq,decide_eq_false_iff_not,Bool.not_eq_true,Bool.not_eq_false,Decidable.not_not] at h)) | refine pay ?_ | intro _)); (all_goals (conv => whnf))
  all_goals (refine ⟨?_⟩)
  all_goals (try rw [if_pos (by omega : l = 0)]) 
  all_goals (try rw [if_neg (by omega : ¬ l = 0)])
  all_goals (try rw [if_pos (by omega : l' = 0)])
  all_goals (try rw [if_neg (by omega : ¬ l' = 0)])
  all_goals exact rfl
theorem calls_wRepeat (t : List Nat) (k : Nat) (hk : k ≤ 9223372036854775807) (h : t.length * k ≤ LM) (ht : t.length ≤ LM) (w : World) : Calls Try.prog fn_weight_Repeat #[wtV t,.int .i64 k] w fun e w' => e = .returned (.tuple #[wtV (rep k t),.nilIface]) ∧ Ext w w' := by
  refine pure_call [.v (wtV t),.v (.int .i64 k)] w ok_weight_Repeat (by simp) ?_
  have c1 := calls_wValid t ht
  have c3 := calls_lMul t.length k ht hk
  rw [show mulV t.length k = .tuple #[.int .i64 ((t.length * k : Nat) : Int),.nilIface] from if_pos h] at c3
  have c4 := calls_dRepeat t k hk
  have c5 := calls_wUnit
  have e1 := rep_lines k t
  have e0 := rep_length k t
  have hm : (linesN t : Int) * (k : Int) = ((linesN t * k : Nat) : Int) := by simp
  have hlk : linesN t * k ≤ t.length * k := Nat.mul_le_mul_right _ (List.count_le_length)
  by_cases hz : t.length * k = 0
  · have hr : rep k t = [] := List.eq_nil_of_length_eq_zero (by rw [e0,Nat.mul_comm]; exact hz)
    rw [hr] at *
    rw [hz] at c3
    (repeat' ((conv => whnf); first | refine CallK_pure (.v _) (fun w hR => c1 w) ?_ | refine CallK_pure (.v _) (fun w hR => c3 w) ?_ | refine CallK_pure (.v _) (fun w hR => c5 w) ?_ | (refine bcase_prop (fun h => ?_) (fun h => ?_) <;> try (exfalso; omega)) | (refine bcase_nprop (fun h => ?_) (fun h => ?_) <;> try (exfalso; omega)) | (refine bcase_intro (fun h => ?_) (fun h => ?_) <;> (try simp only [Bool.not_eq_true',Bool.not_eq_false',decide_eq_true_eq,decide_eq_false_iff_not,Bool.not_eq_true,Bool.not_eq_false,Decidable.not_not] at h)) | refine pay ?_ | intro _)); (all_goals (conv => whnf))
    exact ⟨rfl⟩
  · have hk0 : 0 < k := by
      rcases Nat.eq_zero_or_pos k with h | h
      · rw [h,Nat.mul_zero] at hz; exact absurd rfl hz
      · exact h
    have e2 : linesN t ≠ 0 → headN (rep k t) = headN t := rep_head hk0 t
    have e3 : linesN t ≠ 0 → tailN (rep k t) = tailN t := rep_tail hk0 t
    have e4 : linesN t = 0 → headN (rep k t) = t.length * k ∧ tailN (rep k t) = t.length * k := fun h => by
      have h0 : linesN (rep k t) = 0 := by rw [e1,h,Nat.mul_zero]
      rw [head_zero h0,tail_zero h0,e0,Nat.mul_comm]; exact ⟨rfl,rfl⟩
    rw [Nat.mul_comm] at e0 e1
    unfold LM at h
    unfold wtV at *
    unfold digV at c4
    rw [e0,e1]
    clear e0 e1
    generalize valN (rep k t) = v at *
    generalize scaleN (rep k t) = sc at *
    generalize headN (rep k t) = hh at *
    generalize tailN (rep k t) = tt at *
    generalize t.length * k = nk at *
    generalize hlk2 : linesN t * k = lk at *
    generalize linesN t = l at *
    have hl0 : l = 0 → lk = 0 := fun h => by rw [← hlk2,h,Nat.zero_mul]
    (repeat' ((conv => whnf); first | rw [hm] | refine CallK_pure (.v _) (fun w hR => c1 w) ?_ | refine CallK_pure (.v _) (fun w hR => c3 w) ?_ | refine CallK_pure (.v _) (fun w hR => c4 w) ?_ | refine QCall_pure (.v _) (fun w hR => c1 w) ?_ | refine QCall_pure (.v _) (fun w hR => c4 w) ?_ | (refine bcase_prop (fun h => ?_) (fun h => ?_) <;> try (exfalso; omega)) | (refine bcase_nprop (fun h => ?_) (fun h => ?_) <;> try (exfalso; omega)) | (refine bcase_intro (fun h => ?_) (fun h => ?_) <;> (try simp only [Bool.not_eq_true',Bool.not_eq_false',decide_eq_true_eq,decide_eq_false_iff_not,Bool.not_eq_true,Bool.not_eq_false,Decidable.not_not] at h)) | refine pay ?_ | intro _)); (all_goals (conv => whnf))
    · refine ⟨?_⟩
      obtain ⟨h1,h2⟩ := e4 (by omega)
      rw [h1,h2]
      exact rfl
    · refine ⟨?_⟩
      rw [e2 (by omega),e3 (by omega)]
      exact rfl
end Go.Proofs.Ytoocnmfodhnpbaa
/- Rules: their references,whether they are valid. -/
namespace Go.Proofs.Ytoocnmfodhnpbaa
open Go.EG
attribute [local irreducible] CallK QCall Go.Calls
set_option linter.unusedSimpArgs false
set_option linter.unusedVariables false
set_option maxRecDepth 20000
structure Rul where
  k : Int
  l : Int
  a : Int
  b : Int
  t : Int
deriving DecidableEq
abbrev ruC (r : Rul) : List Value := [.int .i64 r.k,.int .u8 r.l,.int .i64 r.a,.int .i64 r.b,.int .i64 r.t]
abbrev ruV (r : Rul) : Value := .agg #[.int .i64 r.k,.int .u8 r.l,.int .i64 r.a,.int .i64 r.b,.int .i64 r.t]
def okR (r : Rul) (n : Int) : Prop :=
  (r.k = 1 ∧ r.a = 0 ∧ r.b = 0 ∧ r.t = 0 ∧ 1 ≤ n) ∨ (r.k = 2 ∧ r.l = 0 ∧ r.t = 0 ∧ 1 ≤ r.a ∧ r.a < n ∧ 1 ≤ r.b ∧ r.b < n) ∨ (r.k = 3 ∧ r.l = 0 ∧ r.b = 0 ∧ 2 ≤ r.t ∧ 1 ≤ r.a ∧ r.a < n)
instance (r : Rul) (n : Int) : Decidable (okR r n) := by unfold okR; exact inferInstance
def refsL (r : Rul) : List Int := if r.k = 2 then [r.a,r.b] else if r.k = 3 then [r.a] else []
theorem calls_Refs (r : Rul) (w : World) : Calls Try.prog fn_rule_Refs #[ruV r] w (RetS ty_api_ID 1 (refsL r).length (ints .i64 (refsL r)) w) := by
  refine slice_call [.v (ruV r)] w ok_rule_Refs (by simp) ?_
  have e2 : r.k = 2 → refsL r = [r.a,r.b] := fun h => if_pos h
  have e3 : r.k = 3 → refsL r = [r.a] := fun h => by rw [refsL,if_neg (by omega),if_pos h]
  have e0 : r.k ≠ 2 → r.k ≠ 3 → refsL r = [] := fun h h' => by rw [refsL,if_neg h,if_neg h']
  (repeat' ((conv => whnf); first | (refine bcase_prop (fun h => ?_) (fun h => ?_) <;> try (exfalso; omega)) | (refine bcase_nprop (fun h => ?_) (fun h => ?_) <;> try (exfalso; omega)) | (refine bcase_intro (fun h => ?_) (fun h => ?_) <;> (try simp only [Bool.not_eq_true',Bool.not_eq_false',decide_eq_true_eq,decide_eq_false_iff_not,Bool.not_eq_true,Bool.not_eq_false,Decidable.not_not] at h)) | refine pay ?_ | intro _)); (all_goals (conv => whnf))
  · refine ⟨?_⟩
    rw [e2 (by omega)]
    exact ⟨_,_,rfl,Thin.ref (.keep rfl (fun _ h => h) (.nil _))⟩
  · refine ⟨?_⟩
    rw [e3 (by omega)]
    exact ⟨_,_,rfl,Thin.ref (.keep rfl (fun _ h => h) (.nil _))⟩
  · refine ⟨?_⟩
    rw [e0 (by omega) (by omega)]
    exact ⟨none,0,rfl,fun w' h => (h.sub (List.nil_sublist _)).ownNil 0 ty_api_ID 1⟩
theorem okR_refs {r : Rul} {n : Int} (h : okR r n) : ∀ i : Nat,i < (refsL r).length → 1 ≤ (refsL r).getD i 0 ∧ (refsL r).getD i 0 < n := by
  intro i hi
  rcases h with ⟨h1,_⟩ | ⟨h1,_,_,h2,h3,h4,h5⟩ | ⟨h1,_,_,_,h2,h3⟩
  · rw [refsL,if_neg (by omega),if_neg (by omega)] at hi; simp at hi
  · rw [refsL,if_pos h1] at hi ⊢
    match i,hi with
    | 0,_ => exact ⟨h2,h3⟩
    | 1,_ => exact ⟨h4,h5⟩
  · rw [refsL,if_neg (by omega),if_pos h1] at hi ⊢
    match i,hi with
    | 0,_ => exact ⟨h2,h3⟩
theorem okR_n {r : Rul} {n : Int} (h : okR r n) : 1 ≤ n := by
  rcases h with h | h | h <;> omega
theorem refsL_len (r : Rul) : (refsL r).length ≤ 2 := by
  unfold refsL
  split
  · exact Nat.le_refl 2
  · split <;> simp
theorem calls_place (r : Rul) (n : Int) (h : okR r n) (hn : n ≤ 9223372036854775807) (w : World) : Calls Try.prog fn_rule_place #[ruV r,.int .i64 n] w fun e w' => e = .returned .nilIface ∧ Ext w w' := by
  refine pure_call [.v (ruV r),.v (.int .i64 n)] w ok_rule_place (by simp) ?_
  have c1 := calls_Refs r
  have hr := okR_refs h
  have h1 := okR_n h
  have hl := refsL_len r
  generalize hzs : refsL r = zs at *
  (repeat' ((conv => whnf); first | refine CallK_slice 900 (fun w hR => c1 w) ?_ | (refine bcase_prop (fun h => ?_) (fun h => ?_) <;> try (exfalso; omega)) | (refine bcase_nprop (fun h => ?_) (fun h => ?_) <;> try (exfalso; omega)) | (refine bcase_intro (fun h => ?_) (fun h => ?_) <;> (try simp only [Bool.not_eq_true',Bool.not_eq_false',decide_eq_true_eq,decide_eq_false_iff_not,Bool.not_eq_true,Bool.not_eq_false,Decidable.not_not] at h)) | refine pay ?_ | intro _)); (all_goals (conv => whnf))
  rename_i b2 a c
  refine VC_loop Nat (fun i => [(1,.v (.int .i64 n)),(11,.sl 900 a zs.length c),(12,.v (.int .i64 zs.length)),(13,.v (.int .i64 i))])
    (fun _ => [.own 900 a zs.length c ty_api_ID 1 (ints .i64 zs)]) (fun i => i ≤ zs.length) (fun i => zs.length - i) 0 (Nat.zero_le _) (by (repeat ((conv => whnf); refine And.intro (by first | exact rfl | exact vint_eq (by omega) | exact vint_eq (by (dsimp only; omega)) | exact vsl_eq (by omega) | exact vsl_eq (by first | (dsimp only; omega) | (simp; done) | (simp; omega))) ?_)); exact trivial) (Thin.ref (.own rfl rfl (.nil _))) ?_
  intro i hi
  have hr' := hr i
  (repeat' ((conv => whnf); first | rw [Int.toNat_natCast] | rw [Nat.mul_one] | rw [intOf_ints (by omega)] | (refine bcase_prop (fun h => ?_) (fun h => ?_) <;> try (exfalso; omega)) | (refine bcase_nprop (fun h => ?_) (fun h => ?_) <;> try (exfalso; omega)) | (refine bcase_intro (fun h => ?_) (fun h => ?_) <;> (try simp only [Bool.not_eq_true',Bool.not_eq_false',decide_eq_true_eq,decide_eq_false_iff_not,Bool.not_eq_true,Bool.not_eq_false,Decidable.not_not] at h)) | refine pay ?_ | refine And.intro (by first | exact ⟨rfl,by omega⟩ | exact isK_ints (by omega)) ?_ | intro _)); (all_goals (conv => whnf))
  · refine loop_next (i + 1) (show i + 1 ≤ zs.length by omega) (show zs.length - (i + 1) < zs.length - i by omega) (by (repeat ((conv => whnf); refine And.intro (by first | exact rfl | exact vint_eq (by omega) | exact vint_eq (by (dsimp only; omega)) | exact vsl_eq (by omega) | exact vsl_eq (by first | (dsimp only; omega) | (simp; done) | (simp; omega))) ?_)); exact trivial) (Ref.refl _)
  · exact ⟨rfl⟩
theorem calls_rCheck (r : Rul) (n : Int) (h : okR r n) (hn : n ≤ 9223372036854775807) (w : World) : Calls Try.prog fn_rule_Check #[ruV r,.int .i64 n] w fun e w' => e = .returned .nilIface ∧ Ext w w' := by
  refine pure_call [.v (ruV r),.v (.int .i64 n)] w ok_rule_Check (by simp) ?_
  have c1 := calls_place r n h hn
  unfold okR at h
  (repeat' ((conv => whnf); first | refine CallK_pure (.v _) (fun w hR => c1 w) ?_ | (refine bcase_prop (fun h => ?_) (fun h => ?_) <;> try (exfalso; omega)) | (refine bcase_nprop (fun h => ?_) (fun h => ?_) <;> try (exfalso; omega)) | (refine bcase_intro (fun h => ?_) (fun h => ?_) <;> (try simp only [Bool.not_eq_true',Bool.not_eq_false',decide_eq_true_eq,decide_eq_false_iff_not,Bool.not_eq_true,Bool.not_eq_false,Decidable.not_not] at h)) | refine pay ?_ | intro _)); (all_goals (conv => whnf))
  all_goals exact ⟨rfl⟩
end Go.Proofs.Ytoocnmfodhnpbaa
/- What a rule derives,as a term; the store of rules,as plain data. Plain Lean: no program in sight. -/
namespace Go.Proofs.Ytoocnmfodhnpbaa
open Go.EG
set_option linter.unusedSimpArgs false
set_option linter.unusedVariables false
inductive Tm where
  | nil
  | lt (l : Nat)
  | pr (a b : Tm)
  | pw (a : Tm) (k : Nat)
deriving DecidableEq
def Tm.txt : Tm → List Nat
  | .nil => []
  | .lt l => [l]
  | .pr a b => a.txt ++ b.txt
  | .pw a k => rep k a.txt
def Tm.dep : Tm → Nat
  | .nil => 0
  | .lt _ => 0
  | .pr a b => 1 + max a.dep b.dep
  | .pw a _ => 1 + a.dep
def Tm.evn : Tm → Bool
  | .nil => true
  | .lt _ => true
  | .pr a b => a.evn && b.evn && decide (a.dep ≤ b.dep + 1) && decide (b.dep ≤ a.dep + 1)
  | .pw _ _ => false
def Tm.len (m : Tm) : Nat := m.txt.length
structure Entr where
  r : Rul
  m : Tm
def ent0 : Entr := ⟨⟨0,0,0,0,0⟩,.nil⟩
def atE (E : List Entr) (n : Int) : Entr := if n ≤ 0 then ent0 else E.getD (n.toNat - 1) ent0
def tm (E : List Entr) (n : Int) : Tm := (atE E n).m
def mkT (E : List Entr) (r : Rul) : Tm := if r.k = 1 then .lt r.l.toNat else if r.k = 2 then .pr (tm E r.a) (tm E r.b) else .pw (tm E r.a) r.t.toNat
def mkE (E : List Entr) (r : Rul) : Entr := ⟨r,mkT E r⟩
def idx (r : Rul) : Nat → List Entr → Nat
  | _,[] => 0
  | i,x :: E => if r = x.r then i + 1 else idx r (i + 1) E
abbrev idOf (r : Rul) (E : List Entr) : Nat := idx r 0 E
structure Sto where
  most : Nat
  E : List Entr
abbrev addS (S : Sto) (x : Entr) : Sto := ⟨S.most,S.E ++ [x]⟩
structure WF (S : Sto) : Prop where
  most : S.most ≤ 1048576
  len : S.E.length ≤ S.most
  rul : ∀ i,i < S.E.length → okR (S.E.getD i ent0).r (i + 1)
  let_ : ∀ i,i < S.E.length → 0 ≤ (S.E.getD i ent0).r.l ∧ (S.E.getD i ent0).r.l < 256
  tms : ∀ i,i < S.E.length → (S.E.getD i ent0).m = mkT S.E (S.E.getD i ent0).r
  leng : ∀ i,i < S.E.length → (S.E.getD i ent0).m.len ≤ LM
  uniq : ∀ i,i < S.E.length → idOf (S.E.getD i ent0).r S.E = i + 1
def known (S : Sto) (n : Int) : Prop := 0 ≤ n ∧ n ≤ S.E.length
instance (S : Sto) (n : Int) : Decidable (known S n) := by unfold known; exact inferInstance
def stPut (S : Sto) (r : Rul) : Sto × Int × Nat :=
  if idOf r S.E = 0 then (if S.most ≤ S.E.length then (S,0,3) else (addS S (mkE S.E r),((S.E.length + 1 : Nat) : Int),0)) else (S,((idOf r S.E : Nat) : Int),0)
def letR (l : Nat) : Rul := ⟨1,l,0,0,0⟩
def pairR (i j : Int) : Rul := ⟨2,0,i,j,0⟩
def powR (i k : Int) : Rul := ⟨3,0,i,0,k⟩
def stPair (S : Sto) (i j : Int) : Sto × Int × Nat :=
  if ¬ known S i ∨ ¬ known S j then (S,0,1)
  else if i = 0 then (S,j,0)
  else if j = 0 then (S,i,0)
  else if LM < (tm S.E i).len + (tm S.E j).len then (S,0,2)
  else stPut S (pairR i j)
def stPower (S : Sto) (i k : Int) : Sto × Int × Nat :=
  if ¬ known S i ∨ k < 0 then (S,0,1)
  else if k = 0 ∨ i = 0 then (S,0,0)
  else if k = 1 then (S,i,0)
  else if LM < (tm S.E i).len * k.toNat then (S,0,2)
  else stPut S (powR i k)
def stRul (S : Sto) (r : Rul) (to : List Int) : Sto × Int × Nat :=
  if r.k = 1 then stPut S (letR r.l.toNat) else if r.k = 2 then stPair S (to.getD r.a.toNat 0) (to.getD r.b.toNat 0) else stPower S (to.getD r.a.toNat 0) r.t
theorem atE_succ (E : List Entr) (i : Nat) : atE E ((i : Int) + 1) = E.getD i ent0 := by
  unfold atE
  rw [if_neg (by omega),show ((i : Int) + 1).toNat - 1 = i by omega]
theorem atE_pos {E : List Entr} {n : Int} (h : 0 < n) : atE E n = E.getD (n.toNat - 1) ent0 := if_neg (by omega)
theorem tm_zero (E : List Entr) : tm E 0 = .nil := rfl
theorem getD_append_left {α : Type} {l l' : List α} {i : Nat} {d : α} (h : i < l.length) : (l ++ l').getD i d = l.getD i d := by
  simp [List.getD_eq_getElem?_getD,List.getElem?_append,h]
theorem atE_append {E E' : List Entr} {n : Int} (h : n ≤ E.length) : atE (E ++ E') n = atE E n := by
  unfold atE
  split
  · rfl
  · rw [getD_append_left (by omega)]
theorem tm_append {E E' : List Entr} {n : Int} (h : n ≤ E.length) : tm (E ++ E') n = tm E n := by unfold tm; rw [atE_append h]
theorem mkT_append {E E' : List Entr} {r : Rul} {n : Int} (h : okR r (n + 1)) (hn : n ≤ E.length) : mkT (E ++ E') r = mkT E r := by
  unfold mkT
  rcases h with h | ⟨h1,h2,h3,h4,h5,h6,h7⟩ | ⟨h1,h2,h3,h4,h5,h6⟩
  · rw [if_pos h.1,if_pos h.1]
  · rw [if_neg (by omega),if_pos h1,if_neg (by omega),if_pos h1,tm_append (by omega),tm_append (by omega)]
  · rw [if_neg (by omega),if_neg (by omega),if_neg (by omega),if_neg (by omega),tm_append (by omega)]
theorem idx_append {r : Rul} : ∀ {E : List Entr} {i : Nat},idx r i E ≠ 0 → ∀ E',idx r i (E ++ E') = idx r i E
  | [],_,h,_ => absurd rfl h
  | x :: E,i,h,E' => by
    simp only [List.cons_append,idx] at h ⊢
    split
    · rfl
    · rename_i hr
      rw [if_neg hr] at h
      exact idx_append h E'
theorem idx_none {r : Rul} : ∀ {E : List Entr} {i : Nat},idx r i E = 0 → ∀ {E' : List Entr},idx r i (E ++ E') = idx r (i + E.length) E'
  | [],i,_,E' => by simp
  | x :: E,i,h,E' => by
    simp only [idx] at h
    split at h
    · omega
    · rename_i hr
      simp only [List.cons_append,idx,if_neg hr,List.length_cons]
      rw [idx_none h]
      congr 1
      omega
theorem idx_le {r : Rul} : ∀ {E : List Entr} {i : Nat},idx r i E ≤ i + E.length
  | [],_ => by simp [idx]
  | x :: E,i => by
    simp only [idx,List.length_cons]
    split
    · omega
    · have := idx_le (r := r) (E := E) (i := i + 1); omega
theorem idx_spec {r : Rul} : ∀ {E : List Entr} {i : Nat},idx r i E ≠ 0 → i < idx r i E ∧ (E.getD (idx r i E - 1 - i) ent0).r = r
  | [],_,h => absurd rfl h
  | x :: E,i,h => by
    by_cases hr : r = x.r
    · have e : idx r i (x :: E) = i + 1 := if_pos hr
      rw [e]
      refine ⟨by omega,?_⟩
      rw [show i + 1 - 1 - i = 0 by omega]
      exact hr.symm
    · have e : idx r i (x :: E) = idx r (i + 1) E := if_neg hr
      rw [e] at h ⊢
      have ⟨h1,h2⟩ := idx_spec h
      refine ⟨by omega,?_⟩
      rw [show idx r (i + 1) E - 1 - i = (idx r (i + 1) E - 1 - (i + 1)) + 1 by omega,List.getD_cons_succ]
      exact h2
theorem idOf_at {r : Rul} {E : List Entr} (h : idOf r E ≠ 0) : (atE E (idOf r E)).r = r ∧ idOf r E ≤ E.length := by
  have h1 := idx_spec h
  have h2 := idx_le (r := r) (E := E) (i := 0)
  refine ⟨?_,by unfold idOf; omega⟩
  rw [atE_pos (by unfold idOf; omega)]
  have : ((idOf r E : Nat) : Int).toNat - 1 = idx r 0 E - 1 - 0 := by unfold idOf; omega
  rw [this]
  exact h1.2
section
variable {S : Sto} (h : WF S)
theorem WF.at_ {n : Int} (h : WF S) (h0 : 1 ≤ n) (h1 : n ≤ S.E.length) : okR (atE S.E n).r n ∧ (0 ≤ (atE S.E n).r.l ∧ (atE S.E n).r.l < 256) ∧ tm S.E n = mkT S.E (atE S.E n).r ∧ (tm S.E n).len ≤ LM ∧ idOf (atE S.E n).r S.E = n.toNat := by
  rw [show tm S.E n = (atE S.E n).m from rfl,atE_pos (by omega)]
  have hi : n.toNat - 1 < S.E.length := by omega
  refine ⟨?_,h.let_ _ hi,h.tms _ hi,h.leng _ hi,?_⟩
  · have := h.rul _ hi
    rwa [show ((n.toNat - 1 : Nat) : Int) + 1 = n by omega] at this
  · rw [h.uniq _ hi]; omega
theorem WF.le {n : Int} (h : WF S) (h1 : n ≤ S.E.length) : (tm S.E n).len ≤ LM := by
  by_cases h0 : n ≤ 0
  · rw [tm,atE,if_pos h0]; exact Nat.zero_le _
  · exact (h.at_ (by omega) h1).2.2.2.1
theorem len_rep (k : Nat) (t : List Nat) : (rep k t).length = k * t.length := rep_length k t
theorem WF.pos (h : WF S) : ∀ (k : Nat) (n : Int),n = k → 1 ≤ n → n ≤ S.E.length → 1 ≤ (tm S.E n).len ∧ (tm S.E n).dep < k := by
  intro k
  induction k using Nat.strongRecOn with
  | ind k ih =>
    intro n hk h0 h1
    obtain ⟨hr,_,ht,_⟩ := h.at_ h0 h1
    rw [ht]
    unfold mkT
    rcases hr with hr | ⟨h1',h2',h3',h4',h5',h6',h7'⟩ | ⟨h1',h2',h3',h4',h5',h6'⟩
    · rw [if_pos hr.1]; exact ⟨Nat.le_refl 1,by simp only [Tm.dep]; omega⟩
    · rw [if_neg (by omega),if_pos h1']
      have i1 := ih (atE S.E n).r.a.toNat (by omega) (atE S.E n).r.a (by omega) h4' (by omega)
      have i2 := ih (atE S.E n).r.b.toNat (by omega) (atE S.E n).r.b (by omega) h6' (by omega)
      refine ⟨?_,?_⟩
      · have := i1.1
        unfold Tm.len at this ⊢
        rw [Tm.txt,List.length_append]; omega
      · simp only [Tm.dep]; omega
    · rw [if_neg (by omega),if_neg (by omega)]
      have i1 := ih (atE S.E n).r.a.toNat (by omega) (atE S.E n).r.a (by omega) h5' (by omega)
      refine ⟨?_,?_⟩
      · have := i1.1
        unfold Tm.len at this ⊢
        rw [Tm.txt,len_rep]
        exact Nat.mul_pos (by omega) this
      · simp only [Tm.dep]; omega
theorem WF.pos1 {n : Int} (h : WF S) (h0 : 1 ≤ n) (h1 : n ≤ S.E.length) : 1 ≤ (tm S.E n).len := (h.pos n.toNat n (by omega) h0 h1).1
theorem WF.dep {n : Int} (h : WF S) (h1 : n ≤ S.E.length) : (tm S.E n).dep ≤ 1048576 := by
  by_cases h0 : n ≤ 0
  · rw [tm,atE,if_pos h0]; exact Nat.zero_le _
  · have := (h.pos n.toNat n (by omega) (by omega) h1).2
    have := h.most
    have := h.len
    omega
theorem WF.small (h : WF S) : S.E.length ≤ 1048576 := Nat.le_trans h.len h.most
end
structure Fit (S : Sto) (r : Rul) : Prop where
  ok : okR r (S.E.length + 1)
  let_ : 0 ≤ r.l ∧ r.l < 256
  len : (mkT S.E r).len ≤ LM
theorem getD_snoc_lt {α : Type} {l : List α} {x d : α} {i : Nat} (h : i < l.length) : (l ++ [x]).getD i d = l.getD i d := getD_append_left h
theorem WF.add {S : Sto} {r : Rul} (h : WF S) (hr : Fit S r) (hn : idOf r S.E = 0) (hm : S.E.length < S.most) : WF (addS S (mkE S.E r)) := by
  have key : ∀ i,i < (S.E ++ [mkE S.E r]).length → (i < S.E.length ∧ (S.E ++ [mkE S.E r]).getD i ent0 = S.E.getD i ent0) ∨ (i = S.E.length ∧ (S.E ++ [mkE S.E r]).getD i ent0 = mkE S.E r) := fun i hi => by
    rw [List.length_append] at hi
    simp only [List.length_cons,List.length_nil] at hi
    by_cases h : i < S.E.length
    · exact .inl ⟨h,getD_snoc_lt h⟩
    · exact .inr ⟨by omega,getD_snoc (by omega)⟩
  refine ⟨h.most,by simp only [addS,List.length_append,List.length_cons,List.length_nil]; omega,fun i hi => ?_,fun i hi => ?_,fun i hi => ?_,fun i hi => ?_,fun i hi => ?_⟩
  · rcases key i hi with ⟨h1,h2⟩ | ⟨h1,h2⟩
    · simp only [addS,h2]; exact h.rul i h1
    · simp only [addS,h2]; rw [h1]; exact hr.ok
  · rcases key i hi with ⟨h1,h2⟩ | ⟨h1,h2⟩
    · simp only [addS,h2]; exact h.let_ i h1
    · simp only [addS,h2]; exact hr.let_
  · rcases key i hi with ⟨h1,h2⟩ | ⟨h1,h2⟩
    · simp only [addS,h2]
      rw [mkT_append (h.rul i h1) (by omega)]
      exact h.tms i h1
    · simp only [addS,h2]
      rw [show (mkE S.E r).r = r from rfl,mkT_append hr.ok (by omega)]; rfl
  · rcases key i hi with ⟨h1,h2⟩ | ⟨h1,h2⟩
    · simp only [addS,h2]; exact h.leng i h1
    · simp only [addS,h2]; exact hr.len
  · rcases key i hi with ⟨h1,h2⟩ | ⟨h1,h2⟩
    · simp only [addS,h2]
      have := h.uniq i h1
      unfold idOf at this ⊢
      rw [idx_append (by omega)]; exact this
    · simp only [addS,h2]
      rw [h1]
      unfold idOf at hn ⊢
      rw [show (mkE S.E r).r = r from rfl,idx_none hn]
      simp [idx,mkE]
theorem WF.new (most : Nat) (h : most ≤ 1048576) : WF ⟨most,[]⟩ := by
  refine ⟨h,Nat.zero_le _,?_,?_,?_,?_,?_⟩ <;> (intro i hi; exact absurd hi (Nat.not_lt_zero _))
def Grow (S S' : Sto) : Prop := ∃ E',S' = ⟨S.most,S.E ++ E'⟩
theorem Grow.refl (S : Sto) : Grow S S := ⟨[],by simp⟩
theorem Grow.trans {S S' S'' : Sto} (h : Grow S S') (k : Grow S' S'') : Grow S S'' := by
  obtain ⟨E',rfl⟩ := h
  obtain ⟨E'',rfl⟩ := k
  exact ⟨E' ++ E'',by simp⟩
theorem Grow.tm {S S' : Sto} (h : Grow S S') {n : Int} (hn : n ≤ S.E.length) : tm S'.E n = tm S.E n := by
  obtain ⟨E',rfl⟩ := h
  exact tm_append hn
theorem Grow.len {S S' : Sto} (h : Grow S S') : S.E.length ≤ S'.E.length := by
  obtain ⟨E',rfl⟩ := h
  simp
theorem Grow.most {S S' : Sto} (h : Grow S S') : S'.most = S.most := by
  obtain ⟨E',rfl⟩ := h
  rfl
theorem known_iff {S : Sto} {n : Int} : known S n ↔ 0 ≤ n ∧ n ≤ S.E.length := Iff.rfl
theorem stPut_spec {S : Sto} {r : Rul} (h : WF S) (hr : Fit S r) : WF (stPut S r).1 ∧ Grow S (stPut S r).1 ∧ ((stPut S r).2.2 = 0 → 1 ≤ (stPut S r).2.1 ∧ known (stPut S r).1 (stPut S r).2.1 ∧ tm (stPut S r).1.E (stPut S r).2.1 = mkT S.E r ∧ (atE (stPut S r).1.E (stPut S r).2.1).r = r) ∧ ((stPut S r).2.2 ≠ 0 → (stPut S r).2.2 = 3 ∧ S.most ≤ S.E.length ∧ (stPut S r).2.1 = 0) ∧ (stPut S r).1.E.length ≤ S.E.length + 1 := by
  unfold stPut
  by_cases h0 : idOf r S.E = 0
  · rw [if_pos h0]
    by_cases h1 : S.most ≤ S.E.length
    · rw [if_pos h1]
      exact ⟨h,Grow.refl S,fun (h : (3 : Nat) = 0) => absurd h (by decide),fun _ => ⟨rfl,h1,rfl⟩,Nat.le_succ _⟩
    · rw [if_neg h1]
      refine ⟨h.add hr h0 (by omega),⟨_,rfl⟩,fun _ => ⟨by simp only; omega,⟨by simp only; omega,by simp [addS]⟩,?_,?_⟩,fun hn => absurd rfl hn,by simp [addS]⟩
      · show tm (S.E ++ [mkE S.E r]) ((S.E.length + 1 : Nat) : Int) = _
        rw [tm,show ((S.E.length + 1 : Nat) : Int) = ((S.E.length : Nat) : Int) + 1 by omega,atE_succ,getD_snoc rfl]; rfl
      · show (atE (S.E ++ [mkE S.E r]) ((S.E.length + 1 : Nat) : Int)).r = _
        rw [show ((S.E.length + 1 : Nat) : Int) = ((S.E.length : Nat) : Int) + 1 by omega,atE_succ,getD_snoc rfl]; rfl
  · rw [if_neg h0]
    have h1 := idOf_at h0
    refine ⟨h,Grow.refl S,fun _ => ⟨by simp only; omega,⟨by simp only; omega,by simp only; omega⟩,?_,h1.1⟩,fun hn => absurd rfl hn,by simp⟩
    have h2 := (h.at_ (n := (idOf r S.E : Nat)) (by omega) (by omega)).2.2.1
    rw [h1.1] at h2
    exact h2
theorem fit_let (S : Sto) {l : Nat} (hl : l < 256) : Fit S (letR l) := by
  refine ⟨.inl ⟨rfl,rfl,rfl,rfl,by omega⟩,⟨by simp [letR],by simp [letR]; omega⟩,?_⟩
  show (Tm.lt _).len ≤ LM
  exact (by decide : 1 ≤ LM)
theorem fit_pair {S : Sto} {i j : Int} (h1 : 1 ≤ i) (h2 : i ≤ S.E.length) (h3 : 1 ≤ j) (h4 : j ≤ S.E.length) (h : (tm S.E i).len + (tm S.E j).len ≤ LM) : Fit S (pairR i j) := by
  refine ⟨.inr (.inl ⟨rfl,rfl,rfl,h1,by simp only [pairR]; omega,h3,by simp only [pairR]; omega⟩),⟨by simp [pairR],by simp [pairR]⟩,?_⟩
  show (Tm.pr (tm S.E i) (tm S.E j)).len ≤ LM
  unfold Tm.len at *
  rw [Tm.txt,List.length_append]; exact h
theorem fit_pow {S : Sto} {i k : Int} (h1 : 1 ≤ i) (h2 : i ≤ S.E.length) (h3 : 2 ≤ k) (h : (tm S.E i).len * k.toNat ≤ LM) : Fit S (powR i k) := by
  refine ⟨.inr (.inr ⟨rfl,rfl,rfl,h3,h1,by simp only [powR]; omega⟩),⟨by simp [powR],by simp [powR]⟩,?_⟩
  show (Tm.pw (tm S.E i) k.toNat).len ≤ LM
  unfold Tm.len at *
  rw [Tm.txt,len_rep,Nat.mul_comm]; exact h
theorem stLet_wf {S : Sto} {l : Nat} (h : WF S) (hl : l < 256) : WF (stPut S (letR l)).1 ∧ Grow S (stPut S (letR l)).1 :=
  ⟨(stPut_spec h (fit_let S hl)).1,(stPut_spec h (fit_let S hl)).2.1⟩
theorem stPair_wf {S : Sto} {i j : Int} (h : WF S) : WF (stPair S i j).1 ∧ Grow S (stPair S i j).1 := by
  unfold stPair
  split
  · exact ⟨h,Grow.refl S⟩
  · rename_i hu
    split
    · exact ⟨h,Grow.refl S⟩
    · split
      · exact ⟨h,Grow.refl S⟩
      · split
        · exact ⟨h,Grow.refl S⟩
        · have hi : known S i := Decidable.byContradiction fun h => hu (.inl h)
          have hj : known S j := Decidable.byContradiction fun h => hu (.inr h)
          have := stPut_spec h (fit_pair (i := i) (j := j) (by have := hi.1; omega) hi.2 (by have := hj.1; omega) hj.2 (by omega))
          exact ⟨this.1,this.2.1⟩
theorem stPower_wf {S : Sto} {i k : Int} (h : WF S) : WF (stPower S i k).1 ∧ Grow S (stPower S i k).1 := by
  unfold stPower
  split
  · exact ⟨h,Grow.refl S⟩
  · rename_i hu
    split
    · exact ⟨h,Grow.refl S⟩
    · split
      · exact ⟨h,Grow.refl S⟩
      · split
        · exact ⟨h,Grow.refl S⟩
        · have hi : known S i := Decidable.byContradiction fun h => hu (.inl h)
          have := stPut_spec h (fit_pow (i := i) (k := k) (by have := hi.1; omega) hi.2 (by omega) (by omega))
          exact ⟨this.1,this.2.1⟩
theorem stRul_wf {S : Sto} {r : Rul} {to : List Int} (h : WF S) (hl : r.l < 256) : WF (stRul S r to).1 ∧ Grow S (stRul S r to).1 := by
  unfold stRul
  split
  · exact stLet_wf h (by omega)
  · split
    · exact stPair_wf h
    · exact stPower_wf h
def stImp : Sto → List Int → List Rul → Option (Sto × List Int)
  | S,to,[] => some (S,to)
  | S,to,r :: g => if (stRul S r to).2.2 = 0 then stImp (stRul S r to).1 (to ++ [(stRul S r to).2.1]) g else none
theorem stImp_cons {S : Sto} {to : List Int} {r : Rul} {g : List Rul} {x : Sto × List Int} (h : stImp S to (r :: g) = some x) : (stRul S r to).2.2 = 0 ∧ stImp (stRul S r to).1 (to ++ [(stRul S r to).2.1]) g = some x := by
  simp only [stImp] at h
  split at h
  · exact ⟨by assumption,h⟩
  · cases h
end Go.Proofs.Ytoocnmfodhnpbaa
/- The store of rules: what it holds,and how it lies on the heap. -/
namespace Go.Proofs.Ytoocnmfodhnpbaa
open Go.EG
attribute [local irreducible] CallK QCall Go.Calls
set_option linter.unusedSimpArgs false
set_option linter.unusedVariables false
set_option maxRecDepth 20000
abbrev entC (x : Entr) : List Value := [.int .i64 x.r.k,.int .u8 x.r.l,.int .i64 x.r.a,.int .i64 x.r.b,.int .i64 x.r.t,.int .i64 x.m.txt.length,.int .i64 (linesN x.m.txt),.int .i64 (headN x.m.txt),.int .i64 (tailN x.m.txt),.int .u64 (valN x.m.txt),.int .u64 (scaleN x.m.txt),.int .i64 x.m.dep,.bool x.m.evn]
abbrev entV (x : Entr) : Value := .agg #[.int .i64 x.r.k,.int .u8 x.r.l,.int .i64 x.r.a,.int .i64 x.r.b,.int .i64 x.r.t,.int .i64 x.m.txt.length,.int .i64 (linesN x.m.txt),.int .i64 (headN x.m.txt),.int .i64 (tailN x.m.txt),.int .u64 (valN x.m.txt),.int .u64 (scaleN x.m.txt),.int .i64 x.m.dep,.bool x.m.evn]
def ents (E : List Entr) : List Value := E.flatMap entC
theorem ents_snoc (E : List Entr) (x : Entr) : ents E ++ entC x = ents (E ++ [x]) := by simp [ents]
theorem ents_at : ∀ {E : List Entr} {i : Nat},i < E.length → ((ents E).drop (i * 13)).take 13 = entC (E.getD i ent0)
  | x :: E,0,_ => by simp [ents,entC]
  | x :: E,i + 1,h => by
    have ih := ents_at (E := E) (i := i) (by simpa using h)
    have e1 : ents (x :: E) = entC x ++ ents E := by simp [ents]
    rw [e1,show (i + 1) * 13 = (entC x).length + i * 13 by simp [entC]; omega,← List.drop_drop,List.drop_left]
    simpa using ih
def mapF : Nat → List Entr → List (Value × Value)
  | _,[] => []
  | i,x :: E => (ruV x.r,.int .i64 ((i + 1 : Nat) : Int)) :: mapF (i + 1) E
abbrev mapOf (E : List Entr) : List (Value × Value) := mapF 0 E
abbrev kkR : KK := .agg [.int .i64,.int .u8,.int .i64,.int .i64,.int .i64]
def fS (b : Nat) (S : Sto) (x : Option Addr × Nat × Nat) : List Ent :=
  [.box 1000 b [.int .i64 S.most,.slice x.1 S.E.length x.2.1,.map (some x.2.2)] ty_intern_Store,.own 1001 x.1 S.E.length x.2.1 ty_intern_entry 13 (ents S.E),.mapE 1002 x.2.2 kkR (mapOf S.E)]
theorem fS_eq (b : Nat) (S : Sto) (a : Option Addr) (c mb : Nat) : fS b S (a,c,mb) = [.box 1000 b [.int .i64 S.most,.slice a S.E.length c,.map (some mb)] ty_intern_Store,.own 1001 a S.E.length c ty_intern_entry 13 (ents S.E),.mapE 1002 mb kkR (mapOf S.E)] := rfl
def retS (key b : Nat) (S : Sto) (r v : Value) (L1 : List Ent) : Prop := v = r ∧ ∃ fp',L1 = [packE key fp' (fS b S)]
abbrev StR (w : World) (key : Nat) (fp : List Nat) (b : Nat) (S : Sto) : Prop := R w fp [packE key fp (fS b S)] w
theorem endR {key b : Nat} {S : Sto} {r v : Value} {w0 : World} {fp0 : List Nat} {L : List Ent} (a : Option Addr) (c mb : Nat) (h : Thin L (fS b S (a,c,mb))) (hv : v = r) : ∃ L1,Ref w0 fp0 L L1 ∧ retS key b S r v L1 :=
  ⟨_,Ref.pack (a,c,mb) h,hv,_,rfl⟩
theorem StR.key {w : World} {key fp b S} (h : StR w key fp b S) (k' : Nat) : StR w k' fp b S := (Thin.packE (.nil [])).ref w h
theorem endP {key k' b : Nat} {fp'' : List Nat} {S : Sto} {r v : Value} {w0 : World} {fp0 : List Nat} {L : List Ent} (h : Thin L [packE k' fp'' (fS b S)]) (hv : v = r) : ∃ L1,Ref w0 fp0 L L1 ∧ retS key b S r v L1 :=
  ⟨[packE key fp'' (fS b S)],fun w hR => (Thin.packE (.nil [])).ref w (h.ref w hR),hv,_,rfl⟩
def SC (f : Nat) (args : Array Value) (b : Nat) (S S' : Sto) (r : Value) : Prop :=
  ∀ (key : Nat) (fp : List Nat) (w : World),StR w key fp b S → Calls Try.prog f args w fun e w' => ∃ v L1,e = .returned v ∧ R w fp L1 w' ∧ retS key b S' r v L1
theorem SC.go {f : Nat} {args : List Value} {b : Nat} {S S' : Sto} {r : Value} {w0 : World} {fp0 fp : List Nat} {L Lr : List Ent} {k : SV → List Ent → Prop} (key : Nat) (h : SC f args.toArray b S S' r) (hp : pickE key L = some (packE key fp (fS b S),Lr)) (hk : ∀ fp',k (.v r) ([packE key fp' (fS b S')] ++ Lr)) : CallK Try.prog w0 fp0 f args L k :=
  CallK_pack hp (fun w hR h0 => h _ _ _ h0) (by rintro _ _ ⟨rfl,fp',rfl⟩; exact ⟨.v _,rfl,hk fp'⟩)
abbrev pS (b : Nat) : Value := .pointer (some ⟨b,0,none⟩)
def errO : Nat → Value
  | 0 => .nilIface
  | n + 1 => errV ((n + 1 : Nat) : Int)
def resV (p : Int × Nat) : Value := .tuple #[.int .i64 p.1,errO p.2]
theorem calls_known (b : Nat) (S : Sto) (n : Int) :
    SC fn_P_intern_Store_known #[pS b,.int .i64 n] b S S (.bool (decide (0 ≤ n ∧ n ≤ S.E.length))) := by
  intro key fp w hR
  refine pack_call [.ptr 1000 b 0,.v (.int .i64 n)] ok_P_intern_Store_known (by simp) hR ?_
  rintro ⟨a,c,mb⟩ hfp hR'
  rw [fS_eq]
  (repeat' ((conv => whnf); first | refine ⟨_,⟨rfl,trivial⟩,?_⟩ | (refine bcase_prop (fun h => ?_) (fun h => ?_) <;> try (exfalso; omega)) | (refine bcase_nprop (fun h => ?_) (fun h => ?_) <;> try (exfalso; omega)) | (refine bcase_intro (fun h => ?_) (fun h => ?_) <;> (try simp only [Bool.not_eq_true',Bool.not_eq_false',decide_eq_true_eq,decide_eq_false_iff_not,Bool.not_eq_true,Bool.not_eq_false,Decidable.not_not] at h)) | refine pay ?_ | intro _)); (all_goals (conv => whnf))
  all_goals (refine ⟨endR a c mb (Thin.refl _) ?_⟩; congr 1; simp; omega)
theorem calls_sLen (b : Nat) (S : Sto) :
    SC fn_P_intern_Store_Len #[pS b] b S S (.int .i64 S.E.length) := by
  intro key fp w hR
  refine pack_call [.ptr 1000 b 0] ok_P_intern_Store_Len (by simp) hR ?_
  rintro ⟨a,c,mb⟩ hfp hR'
  rw [fS_eq]
  (repeat' ((conv => whnf); first | refine ⟨_,⟨rfl,trivial⟩,?_⟩ | (refine bcase_prop (fun h => ?_) (fun h => ?_) <;> try (exfalso; omega)) | (refine bcase_nprop (fun h => ?_) (fun h => ?_) <;> try (exfalso; omega)) | (refine bcase_intro (fun h => ?_) (fun h => ?_) <;> (try simp only [Bool.not_eq_true',Bool.not_eq_false',decide_eq_true_eq,decide_eq_false_iff_not,Bool.not_eq_true,Bool.not_eq_false,Decidable.not_not] at h)) | refine pay ?_ | intro _)); (all_goals (conv => whnf))
  all_goals (exact ⟨endR a c mb (Thin.refl _) rfl⟩)
theorem calls_at0 (b : Nat) (S : Sto) :
    SC fn_P_intern_Store_at #[pS b,.int .i64 0] b S S (entV ent0) := by
  intro key fp w hR
  refine pack_call [.ptr 1000 b 0,.v (.int .i64 0)] ok_P_intern_Store_at (by simp) hR ?_
  rintro ⟨a,c,mb⟩ hfp hR'
  rw [fS_eq]
  (repeat' ((conv => whnf); first | refine ⟨_,⟨rfl,trivial⟩,?_⟩ | refine CallK_pure (.v _) (fun w hR => calls_wUnit w) ?_ | (refine bcase_prop (fun h => ?_) (fun h => ?_) <;> try (exfalso; omega)) | (refine bcase_nprop (fun h => ?_) (fun h => ?_) <;> try (exfalso; omega)) | (refine bcase_intro (fun h => ?_) (fun h => ?_) <;> (try simp only [Bool.not_eq_true',Bool.not_eq_false',decide_eq_true_eq,decide_eq_false_iff_not,Bool.not_eq_true,Bool.not_eq_false,Decidable.not_not] at h)) | refine pay ?_ | intro _)); (all_goals (conv => whnf))
  all_goals (exact ⟨endR a c mb (.skip (Thin.refl _)) rfl⟩)
theorem calls_at (b : Nat) (S : Sto) (i : Nat) (hi : i < S.E.length) (hE : S.E.length ≤ 1048576) :
    SC fn_P_intern_Store_at #[pS b,.int .i64 ((i : Int) + 1)] b S S (entV (S.E.getD i ent0)) := by
  intro key fp w hR
  refine pack_call [.ptr 1000 b 0,.v (.int .i64 ((i : Int) + 1))] ok_P_intern_Store_at (by simp) hR ?_
  rintro ⟨a,c,mb⟩ hfp hR'
  rw [fS_eq] at hR' ⊢
  have hne := own_ne (key := 1001) hR' rfl (by omega)
  have e1 : ((i : Int) + 1 - 1).toNat = i := by omega
  have hat := ents_at hi
  (repeat' ((conv => whnf); first | refine ⟨_,⟨rfl,trivial⟩,?_⟩ | rw [e1] | refine ⟨entC (S.E.getD i ent0),rfl,Rd.own (key := 1001) rfl (Nat.succ_pos _) hat,?_⟩ | (refine bcase_prop (fun h => ?_) (fun h => ?_) <;> try (exfalso; omega)) | (refine bcase_nprop (fun h => ?_) (fun h => ?_) <;> try (exfalso; omega)) | (refine bcase_intro (fun h => ?_) (fun h => ?_) <;> (try simp only [Bool.not_eq_true',Bool.not_eq_false',decide_eq_true_eq,decide_eq_false_iff_not,Bool.not_eq_true,Bool.not_eq_false,Decidable.not_not] at h)) | refine pay ?_ | refine And.intro (by first | exact hne) ?_ | intro _)); (all_goals (conv => whnf))
  all_goals (exact ⟨endR a c mb (.skip (Thin.refl _)) rfl⟩)
theorem ruV_inj {r r' : Rul} : keyEq (ruV r) (ruV r') = true ↔ r = r' := by
  obtain ⟨k,l,a,b,t⟩ := r
  obtain ⟨k',l',a',b',t'⟩ := r'
  simp [keyEq,eqCells]
theorem keyOk_ru (r : Rul) : keyOk kkR (ruV r) := ⟨_,rfl,⟨⟨rfl,rfl⟩,⟨rfl,rfl⟩,⟨rfl,rfl⟩,⟨rfl,rfl⟩,⟨rfl,rfl⟩,trivial⟩⟩
theorem mget_map (r : Rul) : ∀ (E : List Entr) (i : Nat),mget (mapF i E) (ruV r) = if idx r i E = 0 then none else some (.int .i64 (idx r i E))
  | [],i => rfl
  | x :: E,i => by
    simp only [mapF,mget]
    by_cases h : r = x.r
    · have hi : idx r i (x :: E) = i + 1 := if_pos h
      rw [if_pos (ruV_inj.2 h),hi,if_neg (by omega)]
    · have hi : idx r i (x :: E) = idx r (i + 1) E := if_neg h
      rw [if_neg (fun hk => h (ruV_inj.1 hk)),hi]
      exact mget_map r E (i + 1)
theorem mset_map (r : Rul) (u : Value) : ∀ (E : List Entr) (i : Nat),idx r i E = 0 → mset (mapF i E) (ruV r) u = mapF i E ++ [(ruV r,u)]
  | [],i,_ => rfl
  | x :: E,i,h => by
    simp only [idx] at h
    split at h
    · omega
    · rename_i hr
      simp only [mapF,mset,if_neg (fun hk => hr (ruV_inj.1 hk)),mset_map r u E (i + 1) h,List.cons_append]
theorem mapF_snoc (x : Entr) : ∀ (E : List Entr) (i : Nat),mapF i E ++ [(ruV x.r,.int .i64 ((i + E.length + 1 : Nat) : Int))] = mapF i (E ++ [x])
  | [],i => rfl
  | y :: E,i => by
    have ih := mapF_snoc x E (i + 1)
    rw [show i + 1 + E.length + 1 = i + (y :: E).length + 1 by rw [List.length_cons]; omega] at ih
    simp only [mapF,List.cons_append]
    rw [← ih]
def findV (S : Sto) (r : Rul) : Value :=
  if idOf r S.E = 0 then (if S.most ≤ S.E.length then .tuple #[.int .i64 0,errV 3] else .tuple #[.int .i64 0,.nilIface]) else .tuple #[.int .i64 (idOf r S.E),.nilIface]
theorem calls_find (b : Nat) (S : Sto) (r : Rul) :
    SC fn_P_intern_Store_find #[pS b,ruV r] b S S (findV S r) := by
  intro key fp w hR
  refine pack_call [.ptr 1000 b 0,.v (ruV r)] ok_P_intern_Store_find (by simp) hR ?_
  rintro ⟨a,c,mb⟩ hfp hR'
  rw [fS_eq] at hR' ⊢
  have hm := mget_map r S.E 0
  have hk := keyOk_ru r
  unfold findV
  by_cases h0 : idOf r S.E = 0
  · rw [if_pos h0] at hm ⊢
    (repeat' ((conv => whnf); first | refine lk_none hm ?_ | refine ⟨.mp 1002 _,⟨rfl,rfl⟩,?_⟩ | refine ⟨_,⟨rfl,trivial⟩,?_⟩ | (refine bcase_prop (fun h => ?_) (fun h => ?_) <;> try (exfalso; omega)) | (refine bcase_nprop (fun h => ?_) (fun h => ?_) <;> try (exfalso; omega)) | (refine bcase_intro (fun h => ?_) (fun h => ?_) <;> (try simp only [Bool.not_eq_true',Bool.not_eq_false',decide_eq_true_eq,decide_eq_false_iff_not,Bool.not_eq_true,Bool.not_eq_false,Decidable.not_not] at h)) | refine pay ?_ | refine And.intro (by first | exact ⟨rfl,rfl,hk⟩) ?_ | intro _)); (all_goals (conv => whnf))
    · refine ⟨endR a c mb (.skip (Thin.refl _)) ?_⟩
      rw [if_pos (by omega)]; rfl
    · refine ⟨endR a c mb (.skip (Thin.refl _)) ?_⟩
      rw [if_neg (by omega)]
  · rw [if_neg h0] at hm ⊢
    (repeat' ((conv => whnf); first | refine lk_some hm ?_ | refine ⟨.mp 1002 _,⟨rfl,rfl⟩,?_⟩ | refine ⟨_,⟨rfl,trivial⟩,?_⟩ | (refine bcase_prop (fun h => ?_) (fun h => ?_) <;> try (exfalso; omega)) | (refine bcase_nprop (fun h => ?_) (fun h => ?_) <;> try (exfalso; omega)) | (refine bcase_intro (fun h => ?_) (fun h => ?_) <;> (try simp only [Bool.not_eq_true',Bool.not_eq_false',decide_eq_true_eq,decide_eq_false_iff_not,Bool.not_eq_true,Bool.not_eq_false,Decidable.not_not] at h)) | refine pay ?_ | refine And.intro (by first | exact ⟨rfl,rfl,hk⟩) ?_ | intro _)); (all_goals (conv => whnf))
    exact ⟨endR a c mb (.skip (Thin.refl _)) rfl⟩
theorem calls_add (b : Nat) (S : Sto) (x : Entr) (hx : idOf x.r S.E = 0) (hE : S.E.length ≤ 1048576) :
    SC fn_P_intern_Store_add #[pS b,entV x] b S (addS S x) (.int .i64 (S.E.length + 1 : Nat)) := by
  intro key fp w hR
  refine pack_call [.ptr 1000 b 0,.v (entV x)] ok_P_intern_Store_add (by simp) hR ?_
  rintro ⟨a,c,mb⟩ hfp hR'
  rw [fS_eq] at hR' ⊢
  have hm := mset_map x.r (.int .i64 ((S.E.length + 1 : Nat) : Int)) S.E 0 hx
  have hk := keyOk_ru x.r
  have hs := mapF_snoc x S.E 0
  rw [Nat.zero_add] at hs
  rw [hs] at hm
  have hsn := ents_snoc S.E x
  (repeat' ((conv => whnf); first | rw [hm] | rw [hsn] | refine ⟨.sl 1001 _ _ _,⟨rfl,rfl,rfl,rfl⟩,?_⟩ | refine ⟨.mp 1002 _,⟨rfl,rfl⟩,?_⟩ | refine ⟨_,⟨rfl,trivial⟩,?_⟩ | (refine bcase_prop (fun h => ?_) (fun h => ?_) <;> try (exfalso; omega)) | (refine bcase_nprop (fun h => ?_) (fun h => ?_) <;> try (exfalso; omega)) | (refine bcase_intro (fun h => ?_) (fun h => ?_) <;> (try simp only [Bool.not_eq_true',Bool.not_eq_false',decide_eq_true_eq,decide_eq_false_iff_not,Bool.not_eq_true,Bool.not_eq_false,Decidable.not_not] at h)) | refine pay ?_ | refine And.intro (by first | exact ⟨rfl,rfl,hk⟩ | exact ⟨by omega,by unfold maxLen; omega⟩ | exact ⟨by unfold maxLen; omega,by omega⟩) ?_ | intro _)); (all_goals (conv => whnf))
  rename_i b3 b12 a' c'
  have hlen : (S.E ++ [x]).length = S.E.length + 1 := by simp
  refine ⟨endR a' c' mb (.skip (.skip ?_)) rfl⟩
  rw [fS_eq]
  simp only [hlen]
  exact Thin.refl _
end Go.Proofs.Ytoocnmfodhnpbaa
/- The store's functions: letters,pairs,powers,rules,weights. -/
namespace Go.Proofs.Ytoocnmfodhnpbaa
open Go.EG
attribute [local irreducible] CallK QCall Go.Calls
set_option linter.unusedSimpArgs false
set_option linter.unusedVariables false
set_option maxRecDepth 20000
theorem calls_knownT (b : Nat) (S : Sto) {n : Int} (h : known S n) : SC fn_P_intern_Store_known #[pS b,.int .i64 n] b S S (.bool true) := by
  have c := calls_known b S n
  rwa [decide_eq_true (by exact h)] at c
theorem calls_knownF (b : Nat) (S : Sto) {n : Int} (h : ¬ known S n) : SC fn_P_intern_Store_known #[pS b,.int .i64 n] b S S (.bool false) := by
  have c := calls_known b S n
  rwa [decide_eq_false (by exact h)] at c
theorem calls_atN (b : Nat) (S : Sto) {n : Int} (h : known S n) (hE : S.E.length ≤ 1048576) : SC fn_P_intern_Store_at #[pS b,.int .i64 n] b S S (entV (atE S.E n)) := by
  by_cases h0 : n = 0
  · subst h0
    exact calls_at0 b S
  · have h1 := h.1
    have h2 := h.2
    obtain ⟨i,rfl⟩ : ∃ i : Nat,n = (i : Int) + 1 := ⟨n.toNat - 1,by omega⟩
    rw [atE_succ]
    exact calls_at b S i (by omega) hE
theorem stPut_none {S : Sto} {r : Rul} (h : idOf r S.E = 0) (h1 : S.most ≤ S.E.length) : stPut S r = (S,0,3) := by rw [stPut,if_pos h,if_pos h1]
theorem stPut_new {S : Sto} {r : Rul} (h : idOf r S.E = 0) (h1 : ¬ S.most ≤ S.E.length) : stPut S r = (addS S (mkE S.E r),((S.E.length + 1 : Nat) : Int),0) := by rw [stPut,if_pos h,if_neg h1]
theorem stPut_old {S : Sto} {r : Rul} (h : idOf r S.E ≠ 0) : stPut S r = (S,((idOf r S.E : Nat) : Int),0) := by rw [stPut,if_neg h]
theorem findV_none {S : Sto} {r : Rul} (h : idOf r S.E = 0) (h1 : S.most ≤ S.E.length) : findV S r = .tuple #[.int .i64 0,errV 3] := by rw [findV,if_pos h,if_pos h1]
theorem findV_new {S : Sto} {r : Rul} (h : idOf r S.E = 0) (h1 : ¬ S.most ≤ S.E.length) : findV S r = .tuple #[.int .i64 0,.nilIface] := by rw [findV,if_pos h,if_neg h1]
theorem findV_old {S : Sto} {r : Rul} (h : idOf r S.E ≠ 0) : findV S r = .tuple #[.int .i64 (idOf r S.E : Nat),.nilIface] := by rw [findV,if_neg h]
theorem calls_Letter (b : Nat) (S : Sto) (l : Nat) (hl : l < 256) (hE : S.E.length ≤ 1048576) : SC fn_P_intern_Store_Letter #[pS b,.int .u8 l] b S (stPut S (letR l)).1 (resV (stPut S (letR l)).2) := by
  intro key fp w hR
  refine part_call [.v (pS b),.v (.int .u8 l)] ok_P_intern_Store_Letter (by simp) (hR.key 77) ?_
  have c1 := calls_find b S (letR l)
  have c3 := calls_wLetter l hl
  by_cases h0 : idOf (letR l) S.E = 0
  · by_cases h1 : S.most ≤ S.E.length
    · rw [findV_none h0 h1] at c1
      rw [stPut_none h0 h1]
      (repeat' ((conv => whnf); first | refine SC.go 77 c1 rfl fun fp' => ?_ | (refine bcase_prop (fun h => ?_) (fun h => ?_) <;> try (exfalso; omega)) | (refine bcase_nprop (fun h => ?_) (fun h => ?_) <;> try (exfalso; omega)) | (refine bcase_intro (fun h => ?_) (fun h => ?_) <;> (try simp only [Bool.not_eq_true',Bool.not_eq_false',decide_eq_true_eq,decide_eq_false_iff_not,Bool.not_eq_true,Bool.not_eq_false,Decidable.not_not] at h)) | refine pay ?_ | intro _)); (all_goals (conv => whnf))
      exact ⟨endP (by (repeat (first | exact Thin.nil _ | exact Thin.refl _ | refine Thin.keep rfl (fun _ h => h) ?_ | refine Thin.skip ?_))) rfl⟩
    · rw [findV_new h0 h1] at c1
      rw [stPut_new h0 h1]
      have c2 := calls_add b S (mkE S.E (letR l)) h0 hE
      (repeat' ((conv => whnf); first | refine SC.go 77 c1 rfl fun fp' => ?_ | refine SC.go 77 c2 rfl fun fp' => ?_ | (refine QCall_pure (.v _) (fun w hR => c3 w) ?_) | (refine bcase_prop (fun h => ?_) (fun h => ?_) <;> try (exfalso; omega)) | (refine bcase_nprop (fun h => ?_) (fun h => ?_) <;> try (exfalso; omega)) | (refine bcase_intro (fun h => ?_) (fun h => ?_) <;> (try simp only [Bool.not_eq_true',Bool.not_eq_false',decide_eq_true_eq,decide_eq_false_iff_not,Bool.not_eq_true,Bool.not_eq_false,Decidable.not_not] at h)) | refine pay ?_ | intro _)); (all_goals (conv => whnf))
      exact ⟨endP (by (repeat (first | exact Thin.nil _ | exact Thin.refl _ | refine Thin.keep rfl (fun _ h => h) ?_ | refine Thin.skip ?_))) rfl⟩
  · rw [findV_old h0] at c1
    rw [stPut_old h0]
    (repeat' ((conv => whnf); first | refine SC.go 77 c1 rfl fun fp' => ?_ | (refine bcase_prop (fun h => ?_) (fun h => ?_) <;> try (exfalso; omega)) | (refine bcase_nprop (fun h => ?_) (fun h => ?_) <;> try (exfalso; omega)) | (refine bcase_intro (fun h => ?_) (fun h => ?_) <;> (try simp only [Bool.not_eq_true',Bool.not_eq_false',decide_eq_true_eq,decide_eq_false_iff_not,Bool.not_eq_true,Bool.not_eq_false,Decidable.not_not] at h)) | refine pay ?_ | intro _)); (all_goals (conv => whnf))
    exact ⟨endP (by (repeat (first | exact Thin.nil _ | exact Thin.refl _ | refine Thin.keep rfl (fun _ h => h) ?_ | refine Thin.skip ?_))) rfl⟩
theorem even1 {a b : Bool} {p q : Nat} (ha : a = true) (hb : b = true) (h : -1 ≤ (p : Int) - (q : Int)) : decide ((p : Int) - (q : Int) ≤ 1) = (a && b && decide (p ≤ q + 1) && decide (q ≤ p + 1)) := by
  subst ha hb
  rw [decide_eq_true (p := q ≤ p + 1) (by omega),Bool.and_true,Bool.true_and,Bool.true_and,decide_eq_decide]
  omega
theorem even2 {a b : Bool} {p q : Nat} (h : ¬ -1 ≤ (p : Int) - (q : Int)) : false = (a && b && decide (p ≤ q + 1) && decide (q ≤ p + 1)) := by
  rw [decide_eq_false (p := q ≤ p + 1) (by omega),Bool.and_false]
theorem even3 {a b : Bool} {p q : Nat} (h : b = false) : false = (a && b && decide (p ≤ q + 1) && decide (q ≤ p + 1)) := by
  subst h; simp
theorem even4 {a b : Bool} {p q : Nat} (h : a = false) : false = (a && b && decide (p ≤ q + 1) && decide (q ≤ p + 1)) := by
  subst h; simp
theorem calls_PairOk (b : Nat) (S : Sto) (i j : Int) (hi : known S i) (hj : known S j) (hi0 : i ≠ 0) (hj0 : j ≠ 0) (hE : S.E.length ≤ 1048576) (hl : (tm S.E i).len + (tm S.E j).len ≤ LM) (hd : (tm S.E i).dep ≤ 1048576) (hd' : (tm S.E j).dep ≤ 1048576) :
    SC fn_P_intern_Store_Pair #[pS b,.int .i64 i,.int .i64 j] b S (stPut S (pairR i j)).1 (resV (stPut S (pairR i j)).2) := by
  intro key fp w hR
  refine part_call [.v (pS b),.v (.int .i64 i),.v (.int .i64 j)] ok_P_intern_Store_Pair (by simp) (hR.key 77) ?_
  have c1 := calls_find b S (pairR i j)
  have c3 := calls_knownT b S hi
  have c4 := calls_knownT b S hj
  have c5 := calls_atN b S hi hE
  have c6 := calls_atN b S hj hE
  have hpe : mkE S.E (pairR i j) = ⟨pairR i j,.pr (tm S.E i) (tm S.E j)⟩ := rfl
  unfold tm at *
  generalize atE S.E i = x at *
  generalize atE S.E j = y at *
  unfold Tm.len at hl
  have c7 := calls_lAdd x.m.txt.length y.m.txt.length (by omega) (by omega)
  rw [show addV x.m.txt.length y.m.txt.length = .tuple #[.int .i64 ((x.m.txt.length + y.m.txt.length : Nat) : Int),.nilIface] from if_pos hl] at c7
  have c8 := calls_wJoin x.m.txt y.m.txt hl
  by_cases h0 : idOf (pairR i j) S.E = 0
  · by_cases h1 : S.most ≤ S.E.length
    · rw [findV_none h0 h1] at c1
      rw [stPut_none h0 h1]
      (repeat' ((conv => whnf); first | refine SC.go 77 c1 rfl fun fp' => ?_ | refine SC.go 77 c3 rfl fun fp' => ?_ | refine SC.go 77 c4 rfl fun fp' => ?_ | refine SC.go 77 c5 rfl fun fp' => ?_ | refine SC.go 77 c6 rfl fun fp' => ?_ | (first | refine puK c7 ?_ | refine quK c7 ?_) | (refine bcase_prop (fun h => ?_) (fun h => ?_) <;> try (exfalso; omega)) | (refine bcase_nprop (fun h => ?_) (fun h => ?_) <;> try (exfalso; omega)) | (refine bcase_intro (fun h => ?_) (fun h => ?_) <;> (try simp only [Bool.not_eq_true',Bool.not_eq_false',decide_eq_true_eq,decide_eq_false_iff_not,Bool.not_eq_true,Bool.not_eq_false,Decidable.not_not] at h)) | refine pay ?_ | intro _)); (all_goals (conv => whnf))
      exact ⟨endP (by (repeat (first | exact Thin.nil _ | exact Thin.refl _ | refine Thin.keep rfl (fun _ h => h) ?_ | refine Thin.skip ?_))) rfl⟩
    · rw [findV_new h0 h1] at c1
      rw [stPut_new h0 h1,hpe]
      have c2 : ∀ (d' : Int) (e' : Bool),d' = ((1 + max x.m.dep y.m.dep : Nat) : Int) → e' = (x.m.evn && y.m.evn && decide (x.m.dep ≤ y.m.dep + 1) && decide (y.m.dep ≤ x.m.dep + 1)) → SC fn_P_intern_Store_add #[pS b,.agg #[.int .i64 2,.int .u8 0,.int .i64 i,.int .i64 j,.int .i64 0,.int .i64 (x.m.txt ++ y.m.txt).length,.int .i64 (linesN (x.m.txt ++ y.m.txt)),.int .i64 (headN (x.m.txt ++ y.m.txt)),.int .i64 (tailN (x.m.txt ++ y.m.txt)),.int .u64 (valN (x.m.txt ++ y.m.txt)),.int .u64 (scaleN (x.m.txt ++ y.m.txt)),.int .i64 d',.bool e']] b S (addS S ⟨pairR i j,.pr x.m y.m⟩) (.int .i64 (S.E.length + 1 : Nat)) := fun d' e' h1 h2 => by subst h1 h2; exact calls_add b S ⟨pairR i j,.pr x.m y.m⟩ h0 hE
      (repeat' ((conv => whnf); first | refine SC.go 77 c1 rfl fun fp' => ?_ | (refine CallK_pack (key := 77) rfl (fun w hR h0 => c2 _ _ (by omega) (by first | exact even1 (by assumption) (by assumption) (by assumption) | exact even2 (by assumption) | exact even3 (by assumption) | exact even4 (by assumption)) _ _ _ h0) ?_; rintro _ _ ⟨rfl,fp',rfl⟩; refine ⟨.v _,rfl,?_⟩) | refine SC.go 77 c3 rfl fun fp' => ?_ | refine SC.go 77 c4 rfl fun fp' => ?_ | refine SC.go 77 c5 rfl fun fp' => ?_ | refine SC.go 77 c6 rfl fun fp' => ?_ | (first | refine puK c7 ?_ | refine quK c7 ?_) | (first | refine puK c8 ?_ | refine quK c8 ?_) | (refine bcase_prop (fun h => ?_) (fun h => ?_) <;> try (exfalso; omega)) | (refine bcase_nprop (fun h => ?_) (fun h => ?_) <;> try (exfalso; omega)) | (refine bcase_intro (fun h => ?_) (fun h => ?_) <;> (try simp only [Bool.not_eq_true',Bool.not_eq_false',decide_eq_true_eq,decide_eq_false_iff_not,Bool.not_eq_true,Bool.not_eq_false,Decidable.not_not] at h)) | refine pay ?_ | intro _)); (all_goals (conv => whnf))
      all_goals (exact ⟨endP (by (repeat (first | exact Thin.nil _ | exact Thin.refl _ | refine Thin.keep rfl (fun _ h => h) ?_ | refine Thin.skip ?_))) rfl⟩)
  · rw [findV_old h0] at c1
    rw [stPut_old h0]
    (repeat' ((conv => whnf); first | refine SC.go 77 c1 rfl fun fp' => ?_ | refine SC.go 77 c3 rfl fun fp' => ?_ | refine SC.go 77 c4 rfl fun fp' => ?_ | refine SC.go 77 c5 rfl fun fp' => ?_ | refine SC.go 77 c6 rfl fun fp' => ?_ | (first | refine puK c7 ?_ | refine quK c7 ?_) | (refine bcase_prop (fun h => ?_) (fun h => ?_) <;> try (exfalso; omega)) | (refine bcase_nprop (fun h => ?_) (fun h => ?_) <;> try (exfalso; omega)) | (refine bcase_intro (fun h => ?_) (fun h => ?_) <;> (try simp only [Bool.not_eq_true',Bool.not_eq_false',decide_eq_true_eq,decide_eq_false_iff_not,Bool.not_eq_true,Bool.not_eq_false,Decidable.not_not] at h)) | refine pay ?_ | intro _)); (all_goals (conv => whnf))
    exact ⟨endP (by (repeat (first | exact Thin.nil _ | exact Thin.refl _ | refine Thin.keep rfl (fun _ h => h) ?_ | refine Thin.skip ?_))) rfl⟩
theorem calls_Pair (b : Nat) (S : Sto) (hw : WF S) (i j : Int) : SC fn_P_intern_Store_Pair #[pS b,.int .i64 i,.int .i64 j] b S (stPair S i j).1 (resV (stPair S i j).2) := by
  unfold stPair
  have hE := hw.small
  by_cases hu : ¬ known S i ∨ ¬ known S j
  · rw [if_pos hu]
    intro key fp w hR
    refine part_call [.v (pS b),.v (.int .i64 i),.v (.int .i64 j)] ok_P_intern_Store_Pair (by simp) (hR.key 77) ?_
    by_cases hi : known S i
    · have c1 := calls_knownT b S hi
      have c2 := calls_knownF b S (by rcases hu with h | h; exact absurd hi h; exact h)
      (repeat' ((conv => whnf); first | refine SC.go 77 c1 rfl fun fp' => ?_ | refine SC.go 77 c2 rfl fun fp' => ?_ | (refine bcase_prop (fun h => ?_) (fun h => ?_) <;> try (exfalso; omega)) | (refine bcase_nprop (fun h => ?_) (fun h => ?_) <;> try (exfalso; omega)) | (refine bcase_intro (fun h => ?_) (fun h => ?_) <;> (try simp only [Bool.not_eq_true',Bool.not_eq_false',decide_eq_true_eq,decide_eq_false_iff_not,Bool.not_eq_true,Bool.not_eq_false,Decidable.not_not] at h)) | refine pay ?_ | intro _)); (all_goals (conv => whnf))
      exact ⟨endP (by (repeat (first | exact Thin.nil _ | exact Thin.refl _ | refine Thin.keep rfl (fun _ h => h) ?_ | refine Thin.skip ?_))) rfl⟩
    · have c1 := calls_knownF b S hi
      (repeat' ((conv => whnf); first | refine SC.go 77 c1 rfl fun fp' => ?_ | (refine bcase_prop (fun h => ?_) (fun h => ?_) <;> try (exfalso; omega)) | (refine bcase_nprop (fun h => ?_) (fun h => ?_) <;> try (exfalso; omega)) | (refine bcase_intro (fun h => ?_) (fun h => ?_) <;> (try simp only [Bool.not_eq_true',Bool.not_eq_false',decide_eq_true_eq,decide_eq_false_iff_not,Bool.not_eq_true,Bool.not_eq_false,Decidable.not_not] at h)) | refine pay ?_ | intro _)); (all_goals (conv => whnf))
      exact ⟨endP (by (repeat (first | exact Thin.nil _ | exact Thin.refl _ | refine Thin.keep rfl (fun _ h => h) ?_ | refine Thin.skip ?_))) rfl⟩
  · rw [if_neg hu]
    have hi : known S i := Decidable.byContradiction fun h => hu (.inl h)
    have hj : known S j := Decidable.byContradiction fun h => hu (.inr h)
    have c1 := calls_knownT b S hi
    have c2 := calls_knownT b S hj
    by_cases hi0 : i = 0
    · rw [if_pos hi0]
      intro key fp w hR
      refine part_call [.v (pS b),.v (.int .i64 i),.v (.int .i64 j)] ok_P_intern_Store_Pair (by simp) (hR.key 77) ?_
      (repeat' ((conv => whnf); first | refine SC.go 77 c1 rfl fun fp' => ?_ | refine SC.go 77 c2 rfl fun fp' => ?_ | (refine bcase_prop (fun h => ?_) (fun h => ?_) <;> try (exfalso; omega)) | (refine bcase_nprop (fun h => ?_) (fun h => ?_) <;> try (exfalso; omega)) | (refine bcase_intro (fun h => ?_) (fun h => ?_) <;> (try simp only [Bool.not_eq_true',Bool.not_eq_false',decide_eq_true_eq,decide_eq_false_iff_not,Bool.not_eq_true,Bool.not_eq_false,Decidable.not_not] at h)) | refine pay ?_ | intro _)); (all_goals (conv => whnf))
      exact ⟨endP (by (repeat (first | exact Thin.nil _ | exact Thin.refl _ | refine Thin.keep rfl (fun _ h => h) ?_ | refine Thin.skip ?_))) rfl⟩
    · rw [if_neg hi0]
      by_cases hj0 : j = 0
      · rw [if_pos hj0]
        intro key fp w hR
        refine part_call [.v (pS b),.v (.int .i64 i),.v (.int .i64 j)] ok_P_intern_Store_Pair (by simp) (hR.key 77) ?_
        (repeat' ((conv => whnf); first | refine SC.go 77 c1 rfl fun fp' => ?_ | refine SC.go 77 c2 rfl fun fp' => ?_ | (refine bcase_prop (fun h => ?_) (fun h => ?_) <;> try (exfalso; omega)) | (refine bcase_nprop (fun h => ?_) (fun h => ?_) <;> try (exfalso; omega)) | (refine bcase_intro (fun h => ?_) (fun h => ?_) <;> (try simp only [Bool.not_eq_true',Bool.not_eq_false',decide_eq_true_eq,decide_eq_false_iff_not,Bool.not_eq_true,Bool.not_eq_false,Decidable.not_not] at h)) | refine pay ?_ | intro _)); (all_goals (conv => whnf))
        exact ⟨endP (by (repeat (first | exact Thin.nil _ | exact Thin.refl _ | refine Thin.keep rfl (fun _ h => h) ?_ | refine Thin.skip ?_))) rfl⟩
      · rw [if_neg hj0]
        by_cases hl : LM < (tm S.E i).len + (tm S.E j).len
        · rw [if_pos hl]
          intro key fp w hR
          refine part_call [.v (pS b),.v (.int .i64 i),.v (.int .i64 j)] ok_P_intern_Store_Pair (by simp) (hR.key 77) ?_
          have c5 := calls_atN b S hi hE
          have c6 := calls_atN b S hj hE
          have l1 := hw.le hi.2
          have l2 := hw.le hj.2
          unfold tm at *
          generalize atE S.E i = x at *
          generalize atE S.E j = y at *
          unfold Tm.len at hl l1 l2
          have c7 := calls_lAdd x.m.txt.length y.m.txt.length l1 l2
          rw [show addV x.m.txt.length y.m.txt.length = .tuple #[.int .i64 0,errV 2] from if_neg (by omega)] at c7
          (repeat' ((conv => whnf); first | refine SC.go 77 c1 rfl fun fp' => ?_ | refine SC.go 77 c2 rfl fun fp' => ?_ | refine SC.go 77 c5 rfl fun fp' => ?_ | refine SC.go 77 c6 rfl fun fp' => ?_ | (first | refine puK c7 ?_ | refine quK c7 ?_) | (refine bcase_prop (fun h => ?_) (fun h => ?_) <;> try (exfalso; omega)) | (refine bcase_nprop (fun h => ?_) (fun h => ?_) <;> try (exfalso; omega)) | (refine bcase_intro (fun h => ?_) (fun h => ?_) <;> (try simp only [Bool.not_eq_true',Bool.not_eq_false',decide_eq_true_eq,decide_eq_false_iff_not,Bool.not_eq_true,Bool.not_eq_false,Decidable.not_not] at h)) | refine pay ?_ | intro _)); (all_goals (conv => whnf))
          exact ⟨endP (by (repeat (first | exact Thin.nil _ | exact Thin.refl _ | refine Thin.keep rfl (fun _ h => h) ?_ | refine Thin.skip ?_))) rfl⟩
        · rw [if_neg hl]
          exact calls_PairOk b S i j hi hj hi0 hj0 hE (by omega) (hw.dep hi.2) (hw.dep hj.2)
theorem calls_Power (b : Nat) (S : Sto) (hw : WF S) (i k : Int) (hk : k ≤ 9223372036854775807) : SC fn_P_intern_Store_Power #[pS b,.int .i64 i,.int .i64 k] b S (stPower S i k).1 (resV (stPower S i k).2) := by
  unfold stPower
  have hE := hw.small
  by_cases hi : known S i
  case neg =>
    rw [if_pos (.inl hi)]
    have c1 := calls_knownF b S hi
    intro key fp w hR
    refine part_call [.v (pS b),.v (.int .i64 i),.v (.int .i64 k)] ok_P_intern_Store_Power (by simp) (hR.key 77) ?_
    (repeat' ((conv => whnf); first | refine SC.go 77 c1 rfl fun fp' => ?_ | (refine bcase_prop (fun h => ?_) (fun h => ?_) <;> try (exfalso; omega)) | (refine bcase_nprop (fun h => ?_) (fun h => ?_) <;> try (exfalso; omega)) | (refine bcase_intro (fun h => ?_) (fun h => ?_) <;> (try simp only [Bool.not_eq_true',Bool.not_eq_false',decide_eq_true_eq,decide_eq_false_iff_not,Bool.not_eq_true,Bool.not_eq_false,Decidable.not_not] at h)) | refine pay ?_ | intro _)); (all_goals (conv => whnf))
    exact ⟨endP (by (repeat (first | exact Thin.nil _ | exact Thin.refl _ | refine Thin.keep rfl (fun _ h => h) ?_ | refine Thin.skip ?_))) rfl⟩
  have c1 := calls_knownT b S hi
  by_cases hk0 : k < 0
  · rw [if_pos (.inr hk0)]
    intro key fp w hR
    refine part_call [.v (pS b),.v (.int .i64 i),.v (.int .i64 k)] ok_P_intern_Store_Power (by simp) (hR.key 77) ?_
    (repeat' ((conv => whnf); first | refine SC.go 77 c1 rfl fun fp' => ?_ | (refine bcase_prop (fun h => ?_) (fun h => ?_) <;> try (exfalso; omega)) | (refine bcase_nprop (fun h => ?_) (fun h => ?_) <;> try (exfalso; omega)) | (refine bcase_intro (fun h => ?_) (fun h => ?_) <;> (try simp only [Bool.not_eq_true',Bool.not_eq_false',decide_eq_true_eq,decide_eq_false_iff_not,Bool.not_eq_true,Bool.not_eq_false,Decidable.not_not] at h)) | refine pay ?_ | intro _)); (all_goals (conv => whnf))
    exact ⟨endP (by (repeat (first | exact Thin.nil _ | exact Thin.refl _ | refine Thin.keep rfl (fun _ h => h) ?_ | refine Thin.skip ?_))) rfl⟩
  · rw [if_neg (by rintro (h | h); exact h hi; exact hk0 h)]
    by_cases hz : k = 0 ∨ i = 0
    · rw [if_pos hz]
      intro key fp w hR
      refine part_call [.v (pS b),.v (.int .i64 i),.v (.int .i64 k)] ok_P_intern_Store_Power (by simp) (hR.key 77) ?_
      (repeat' ((conv => whnf); first | refine SC.go 77 c1 rfl fun fp' => ?_ | (refine bcase_prop (fun h => ?_) (fun h => ?_) <;> try (exfalso; omega)) | (refine bcase_nprop (fun h => ?_) (fun h => ?_) <;> try (exfalso; omega)) | (refine bcase_intro (fun h => ?_) (fun h => ?_) <;> (try simp only [Bool.not_eq_true',Bool.not_eq_false',decide_eq_true_eq,decide_eq_false_iff_not,Bool.not_eq_true,Bool.not_eq_false,Decidable.not_not] at h)) | refine pay ?_ | intro _)); (all_goals (conv => whnf))
      all_goals first | (exfalso; omega) | exact ⟨endP (by (repeat (first | exact Thin.nil _ | exact Thin.refl _ | refine Thin.keep rfl (fun _ h => h) ?_ | refine Thin.skip ?_))) rfl⟩
    · rw [if_neg hz]
      by_cases h1 : k = 1
      · rw [if_pos h1]
        intro key fp w hR
        refine part_call [.v (pS b),.v (.int .i64 i),.v (.int .i64 k)] ok_P_intern_Store_Power (by simp) (hR.key 77) ?_
        (repeat' ((conv => whnf); first | refine SC.go 77 c1 rfl fun fp' => ?_ | (refine bcase_prop (fun h => ?_) (fun h => ?_) <;> try (exfalso; omega)) | (refine bcase_nprop (fun h => ?_) (fun h => ?_) <;> try (exfalso; omega)) | (refine bcase_intro (fun h => ?_) (fun h => ?_) <;> (try simp only [Bool.not_eq_true',Bool.not_eq_false',decide_eq_true_eq,decide_eq_false_iff_not,Bool.not_eq_true,Bool.not_eq_false,Decidable.not_not] at h)) | refine pay ?_ | intro _)); (all_goals (conv => whnf))
        exact ⟨endP (by (repeat (first | exact Thin.nil _ | exact Thin.refl _ | refine Thin.keep rfl (fun _ h => h) ?_ | refine Thin.skip ?_))) rfl⟩
      · rw [if_neg h1]
        have l1 := hw.le hi.2
        have c5 := calls_atN b S hi hE
        obtain ⟨k',hk'⟩ : ∃ k' : Nat,k = k' := ⟨k.toNat,by omega⟩
        have hpe : mkE S.E (powR i k) = ⟨powR i k,.pw (tm S.E i) k.toNat⟩ := rfl
        have hdep := hw.dep hi.2
        by_cases hl : LM < (tm S.E i).len * k.toNat
        · rw [if_pos hl]
          intro key fp w hR
          refine part_call [.v (pS b),.v (.int .i64 i),.v (.int .i64 k)] ok_P_intern_Store_Power (by simp) (hR.key 77) ?_
          unfold tm at *
          generalize atE S.E i = x at *
          unfold Tm.len at hl l1
          subst hk'
          rw [Int.toNat_natCast] at hl
          have c7 := calls_lMul x.m.txt.length k' l1 (by omega)
          rw [show mulV x.m.txt.length k' = .tuple #[.int .i64 0,errV 2] from if_neg (by omega)] at c7
          (repeat' ((conv => whnf); first | refine SC.go 77 c1 rfl fun fp' => ?_ | refine SC.go 77 c5 rfl fun fp' => ?_ | (first | refine puK c7 ?_ | refine quK c7 ?_) | (refine bcase_prop (fun h => ?_) (fun h => ?_) <;> try (exfalso; omega)) | (refine bcase_nprop (fun h => ?_) (fun h => ?_) <;> try (exfalso; omega)) | (refine bcase_intro (fun h => ?_) (fun h => ?_) <;> (try simp only [Bool.not_eq_true',Bool.not_eq_false',decide_eq_true_eq,decide_eq_false_iff_not,Bool.not_eq_true,Bool.not_eq_false,Decidable.not_not] at h)) | refine pay ?_ | intro _)); (all_goals (conv => whnf))
          exact ⟨endP (by (repeat (first | exact Thin.nil _ | exact Thin.refl _ | refine Thin.keep rfl (fun _ h => h) ?_ | refine Thin.skip ?_))) rfl⟩
        · rw [if_neg hl]
          intro key fp w hR
          refine part_call [.v (pS b),.v (.int .i64 i),.v (.int .i64 k)] ok_P_intern_Store_Power (by simp) (hR.key 77) ?_
          have c2 := calls_find b S (powR i k)
          unfold tm at *
          generalize atE S.E i = x at *
          unfold Tm.len at hl l1
          subst hk'
          rw [Int.toNat_natCast] at hl hpe
          have c7 := calls_lMul x.m.txt.length k' l1 (by omega)
          rw [show mulV x.m.txt.length k' = .tuple #[.int .i64 ((x.m.txt.length * k' : Nat) : Int),.nilIface] from if_pos (by omega)] at c7
          have c8 := calls_wRepeat x.m.txt k' (by omega) (by omega) l1
          by_cases h0 : idOf (powR i k') S.E = 0
          · by_cases h1 : S.most ≤ S.E.length
            · rw [findV_none h0 h1] at c2
              rw [stPut_none h0 h1]
              (repeat' ((conv => whnf); first | refine SC.go 77 c1 rfl fun fp' => ?_ | refine SC.go 77 c5 rfl fun fp' => ?_ | (first | refine puK c7 ?_ | refine quK c7 ?_) | refine SC.go 77 c2 rfl fun fp' => ?_ | (refine bcase_prop (fun h => ?_) (fun h => ?_) <;> try (exfalso; omega)) | (refine bcase_nprop (fun h => ?_) (fun h => ?_) <;> try (exfalso; omega)) | (refine bcase_intro (fun h => ?_) (fun h => ?_) <;> (try simp only [Bool.not_eq_true',Bool.not_eq_false',decide_eq_true_eq,decide_eq_false_iff_not,Bool.not_eq_true,Bool.not_eq_false,Decidable.not_not] at h)) | refine pay ?_ | intro _)); (all_goals (conv => whnf))
              exact ⟨endP (by (repeat (first | exact Thin.nil _ | exact Thin.refl _ | refine Thin.keep rfl (fun _ h => h) ?_ | refine Thin.skip ?_))) rfl⟩
            · rw [findV_new h0 h1] at c2
              rw [stPut_new h0 h1,hpe]
              have c3 := calls_add b S ⟨powR i k',.pw x.m k'⟩ h0 hE
              have q1 : (1 : Int) + (x.m.dep : Int) = ((1 + x.m.dep : Nat) : Int) := by omega
              (repeat' ((conv => whnf); first | rw [q1] | refine SC.go 77 c1 rfl fun fp' => ?_ | refine SC.go 77 c5 rfl fun fp' => ?_ | (first | refine puK c7 ?_ | refine quK c7 ?_) | (first | refine puK c8 ?_ | refine quK c8 ?_) | refine SC.go 77 c2 rfl fun fp' => ?_ | refine SC.go 77 c3 rfl fun fp' => ?_ | (refine bcase_prop (fun h => ?_) (fun h => ?_) <;> try (exfalso; omega)) | (refine bcase_nprop (fun h => ?_) (fun h => ?_) <;> try (exfalso; omega)) | (refine bcase_intro (fun h => ?_) (fun h => ?_) <;> (try simp only [Bool.not_eq_true',Bool.not_eq_false',decide_eq_true_eq,decide_eq_false_iff_not,Bool.not_eq_true,Bool.not_eq_false,Decidable.not_not] at h)) | refine pay ?_ | intro _)); (all_goals (conv => whnf))
              exact ⟨endP (by (repeat (first | exact Thin.nil _ | exact Thin.refl _ | refine Thin.keep rfl (fun _ h => h) ?_ | refine Thin.skip ?_))) rfl⟩
          · rw [findV_old h0] at c2
            rw [stPut_old h0]
            (repeat' ((conv => whnf); first | refine SC.go 77 c1 rfl fun fp' => ?_ | refine SC.go 77 c5 rfl fun fp' => ?_ | (first | refine puK c7 ?_ | refine quK c7 ?_) | refine SC.go 77 c2 rfl fun fp' => ?_ | (refine bcase_prop (fun h => ?_) (fun h => ?_) <;> try (exfalso; omega)) | (refine bcase_nprop (fun h => ?_) (fun h => ?_) <;> try (exfalso; omega)) | (refine bcase_intro (fun h => ?_) (fun h => ?_) <;> (try simp only [Bool.not_eq_true',Bool.not_eq_false',decide_eq_true_eq,decide_eq_false_iff_not,Bool.not_eq_true,Bool.not_eq_false,Decidable.not_not] at h)) | refine pay ?_ | intro _)); (all_goals (conv => whnf))
            exact ⟨endP (by (repeat (first | exact Thin.nil _ | exact Thin.refl _ | refine Thin.keep rfl (fun _ h => h) ?_ | refine Thin.skip ?_))) rfl⟩
end Go.Proofs.Ytoocnmfodhnpbaa
/- Grammars: when they are valid,what they derive,that a store takes them. Plain Lean: no program in sight. -/
namespace Go.Proofs.Ytoocnmfodhnpbaa
open Go.EG
set_option linter.unusedSimpArgs false
set_option linter.unusedVariables false
def rul0 : Rul := ⟨0,0,0,0,0⟩
def earl (i n : Int) : Bool := decide (1 ≤ i) && decide (i < n)
def ruleCode (r : Rul) (n : Int) : Int :=
  if r.k = 1 then (if r.a ≠ 0 ∨ r.b ≠ 0 ∨ r.t ≠ 0 then 4 else if n < 1 then 1 else 0)
  else if r.k = 2 then (if r.l ≠ 0 ∨ r.t ≠ 0 then 4 else if n < 1 ∨ earl r.a n = false ∨ earl r.b n = false then 1 else 0)
  else if r.k = 3 then (if r.l ≠ 0 ∨ r.b ≠ 0 ∨ r.t < 2 then 4 else if n < 1 ∨ earl r.a n = false then 1 else 0)
  else 4
theorem earl_t {i n : Int} : earl i n = true ↔ 1 ≤ i ∧ i < n := by simp [earl]
theorem ruleCode_zero {r : Rul} {n : Int} : ruleCode r n = 0 ↔ okR r n := by
  unfold ruleCode okR
  constructor
  · intro h
    split at h
    · split at h
      · omega
      · split at h <;> omega
    · split at h
      · split at h
        · omega
        · split at h
          · omega
          · rename_i h1 h2 h3 h4
            have ha : earl r.a n = true := by cases he : earl r.a n <;> simp_all
            have hb : earl r.b n = true := by cases he : earl r.b n <;> simp_all
            rw [earl_t] at ha hb
            omega
      · split at h
        · split at h
          · omega
          · split at h
            · omega
            · rename_i h1 h2 h3 h4 h5
              have ha : earl r.a n = true := by cases he : earl r.a n <;> simp_all
              rw [earl_t] at ha
              omega
        · omega
  · rintro (h | h | h)
    · rw [if_pos h.1,if_neg (by omega),if_neg (by omega)]
    · have ha : earl r.a n = true := earl_t.2 ⟨by omega,by omega⟩
      have hb : earl r.b n = true := earl_t.2 ⟨by omega,by omega⟩
      rw [if_neg (by omega),if_pos h.1,if_neg (by omega),ha,hb,if_neg (by simp; omega)]
    · have ha : earl r.a n = true := earl_t.2 ⟨by omega,by omega⟩
      rw [if_neg (by omega),if_neg (by omega),if_pos h.1,if_neg (by omega),ha,if_neg (by simp; omega)]
def chk : Int → List Rul → Int
  | _,[] => 0
  | n,r :: g => if ruleCode r n ≠ 0 then ruleCode r n else chk (n + 1) g
theorem chk_zero : ∀ {g : List Rul} {n : Int},chk n g = 0 ↔ ∀ i,i < g.length → okR (g.getD i rul0) (n + i)
  | [],n => by simp [chk]
  | r :: g,n => by
    simp only [chk]
    constructor
    · intro h i hi
      split at h
      · omega
      · rename_i h0
        have h0 : ruleCode r n = 0 := Decidable.byContradiction h0
        cases i with
        | zero => simpa using ruleCode_zero.1 h0
        | succ i =>
          have := (chk_zero.1 h) i (by simpa using hi)
          rw [List.getD_cons_succ,show n + ((i + 1 : Nat) : Int) = n + 1 + (i : Int) by omega]
          exact this
    · intro h
      have h0 := h 0 (by simp)
      rw [List.getD_cons_zero] at h0
      rw [if_neg (by rw [ruleCode_zero.2 (by simpa using h0)]; simp)]
      refine chk_zero.2 fun i hi => ?_
      have := h (i + 1) (by simpa using hi)
      rw [List.getD_cons_succ,show n + ((i + 1 : Nat) : Int) = n + 1 + (i : Int) by omega] at this
      exact this
def mAt (ms : List Tm) (n : Int) : Tm := if n ≤ 0 then .nil else ms.getD (n.toNat - 1) .nil
def gT (ms : List Tm) (r : Rul) : Tm := if r.k = 1 then .lt r.l.toNat else if r.k = 2 then .pr (mAt ms r.a) (mAt ms r.b) else .pw (mAt ms r.a) r.t.toNat
def gTs : List Tm → List Rul → List Tm
  | ms,[] => ms
  | ms,r :: g => gTs (ms ++ [gT ms r]) g
def gLen : List Tm → List Rul → Bool
  | _,[] => true
  | ms,r :: g => decide ((gT ms r).len ≤ LM) && gLen (ms ++ [gT ms r]) g
theorem mAt_snoc {ms : List Tm} {m : Tm} {n : Int} (h : n ≤ ms.length) : mAt (ms ++ [m]) n = mAt ms n := by
  unfold mAt
  split
  · rfl
  · rw [getD_append_left (by omega)]
theorem mAt_last {ms : List Tm} {m : Tm} : mAt (ms ++ [m]) ((ms.length : Int) + 1) = m := by
  unfold mAt
  rw [if_neg (by omega),show ((ms.length : Int) + 1).toNat - 1 = ms.length by omega,getD_snoc rfl]
structure Rel (S : Sto) (to : List Int) (ms : List Tm) : Prop where
  len : to.length = ms.length + 1
  zero : to.getD 0 0 = 0
  at_ : ∀ i : Nat,1 ≤ i → i ≤ ms.length → 1 ≤ to.getD i 0 ∧ to.getD i 0 ≤ S.E.length ∧ tm S.E (to.getD i 0) = mAt ms i
theorem Rel.start (S : Sto) : Rel S [0] [] := ⟨rfl,rfl,fun i h1 h2 => absurd h2 (by simp; omega)⟩
theorem Rel.grow {S S' : Sto} {to : List Int} {ms : List Tm} (h : Rel S to ms) (hg : Grow S S') : Rel S' to ms :=
  ⟨h.len,h.zero,fun i h1 h2 => by
    obtain ⟨a,b,c⟩ := h.at_ i h1 h2
    exact ⟨a,by have := hg.len; omega,by rw [hg.tm b]; exact c⟩⟩
theorem Rel.snoc {S : Sto} {to : List Int} {ms : List Tm} {x : Int} {m : Tm} (h : Rel S to ms) (h1 : 1 ≤ x) (h2 : x ≤ S.E.length) (h3 : tm S.E x = m) : Rel S (to ++ [x]) (ms ++ [m]) := by
  have hl := h.len
  refine ⟨by simp; exact hl,by rw [getD_append_left (by omega)]; exact h.zero,fun i k1 k2 => ?_⟩
  rw [List.length_append] at k2
  simp only [List.length_cons,List.length_nil] at k2
  by_cases hi : i ≤ ms.length
  · rw [getD_append_left (by omega),mAt_snoc (by omega)]
    exact h.at_ i k1 hi
  · have : i = ms.length + 1 := by omega
    subst this
    rw [getD_snoc (by omega),show ((ms.length + 1 : Nat) : Int) = (ms.length : Int) + 1 by omega,mAt_last]
    exact ⟨h1,h2,h3⟩
theorem putR {S : Sto} {r : Rul} (h : WF S) (hr : Fit S r) (hroom : S.E.length < S.most) : ∃ S' id,stPut S r = (S',id,0) ∧ WF S' ∧ Grow S S' ∧ 1 ≤ id ∧ id ≤ S'.E.length ∧ tm S'.E id = mkT S.E r ∧ S'.E.length ≤ S.E.length + 1 := by
  obtain ⟨w1,g1,h0,hn,hl⟩ := stPut_spec h hr
  have hc : (stPut S r).2.2 = 0 := Decidable.byContradiction fun hc => by
    have := (hn hc).2.1
    omega
  obtain ⟨a,b,c,d⟩ := h0 hc
  exact ⟨(stPut S r).1,(stPut S r).2.1,by rw [← hc],w1,g1,a,b.2,c,hl⟩
theorem stRul_ok {S : Sto} {to : List Int} {ms : List Tm} {r : Rul} (h : WF S) (hrel : Rel S to ms) (hr : okR r (ms.length + 1)) (hl : 0 ≤ r.l ∧ r.l < 256) (hlen : (gT ms r).len ≤ LM) (hroom : S.E.length < S.most) :
    ∃ S' id,stRul S r to = (S',id,0) ∧ WF S' ∧ Grow S S' ∧ 1 ≤ id ∧ id ≤ S'.E.length ∧ tm S'.E id = gT ms r ∧ S'.E.length ≤ S.E.length + 1 := by
  unfold stRul gT at *
  rcases hr with hr | ⟨e1,e2,e3,e4,e5,e6,e7⟩ | ⟨e1,e2,e3,e4,e5,e6⟩
  · rw [if_pos hr.1] at hlen ⊢
    rw [if_pos hr.1]
    obtain ⟨S',id,q1,q2,q3,q4,q5,q6,q7⟩ := putR h (fit_let S (l := r.l.toNat) (by omega)) hroom
    exact ⟨S',id,q1,q2,q3,q4,q5,by rw [q6]; simp [mkT,letR]; omega,q7⟩
  · rw [if_neg (by omega),if_pos e1] at hlen ⊢
    rw [if_neg (by omega),if_pos e1]
    obtain ⟨a1,a2,a3⟩ := hrel.at_ r.a.toNat (by omega) (by omega)
    obtain ⟨b1,b2,b3⟩ := hrel.at_ r.b.toNat (by omega) (by omega)
    rw [show ((r.a.toNat : Nat) : Int) = r.a by omega] at a3
    rw [show ((r.b.toNat : Nat) : Int) = r.b by omega] at b3
    have hle : (tm S.E (to.getD r.a.toNat 0)).len + (tm S.E (to.getD r.b.toNat 0)).len ≤ LM := by
      rw [a3,b3]
      unfold Tm.len at hlen ⊢
      rw [Tm.txt,List.length_append] at hlen
      exact hlen
    obtain ⟨S',id,q1,q2,q3,q4,q5,q6,q7⟩ := putR h (fit_pair a1 a2 b1 b2 hle) hroom
    refine ⟨S',id,?_,q2,q3,q4,q5,?_,q7⟩
    · unfold stPair
      rw [if_neg (by simp only [known_iff]; omega),if_neg (by omega),if_neg (by omega),if_neg (by omega)]
      exact q1
    · rw [q6]
      show Tm.pr (tm S.E (to.getD r.a.toNat 0)) (tm S.E (to.getD r.b.toNat 0)) = _
      rw [a3,b3]
  · rw [if_neg (by omega),if_neg (by omega)] at hlen ⊢
    rw [if_neg (by omega),if_neg (by omega)]
    obtain ⟨a1,a2,a3⟩ := hrel.at_ r.a.toNat (by omega) (by omega)
    rw [show ((r.a.toNat : Nat) : Int) = r.a by omega] at a3
    have hle : (tm S.E (to.getD r.a.toNat 0)).len * r.t.toNat ≤ LM := by
      rw [a3]
      unfold Tm.len at hlen ⊢
      rw [Tm.txt,len_rep,Nat.mul_comm] at hlen
      exact hlen
    obtain ⟨S',id,q1,q2,q3,q4,q5,q6,q7⟩ := putR h (fit_pow (k := r.t) a1 a2 e4 hle) hroom
    refine ⟨S',id,?_,q2,q3,q4,q5,?_,q7⟩
    · unfold stPower
      rw [if_neg (by simp only [known_iff]; omega),if_neg (by omega),if_neg (by omega),if_neg (by omega)]
      exact q1
    · rw [q6]
      show Tm.pw (tm S.E (to.getD r.a.toNat 0)) r.t.toNat = _
      rw [a3]
theorem stImp_ok : ∀ {g : List Rul} {S : Sto} {to : List Int} {ms : List Tm},WF S → Rel S to ms → (∀ i,i < g.length → okR (g.getD i rul0) (ms.length + 1 + i)) → (∀ i,i < g.length → 0 ≤ (g.getD i rul0).l ∧ (g.getD i rul0).l < 256) → gLen ms g = true → S.E.length + g.length ≤ S.most →
    ∃ S' to',stImp S to g = some (S',to') ∧ WF S' ∧ Grow S S' ∧ Rel S' to' (gTs ms g) ∧ S'.E.length ≤ S.E.length + g.length
  | [],S,to,ms,h,hrel,_,_,_,_ => ⟨S,to,rfl,h,Grow.refl S,hrel,Nat.le_refl _⟩
  | r :: g,S,to,ms,h,hrel,hr,hl,hg,hroom => by
    simp only [gLen,Bool.and_eq_true,decide_eq_true_eq] at hg
    rw [List.length_cons] at hroom
    obtain ⟨S1,id,q1,q2,q3,q4,q5,q6,q7⟩ := stRul_ok (r := r) h hrel (by simpa using hr 0 (by simp)) (by simpa using hl 0 (by simp)) hg.1 (by omega)
    have hm := q3.most
    obtain ⟨S',to',k1,k2,k3,k4,k5⟩ := stImp_ok (g := g) (S := S1) (to := to ++ [id]) (ms := ms ++ [gT ms r]) q2 ((hrel.grow q3).snoc q4 q5 q6)
      (fun i hi => by
        have := hr (i + 1) (by simpa using hi)
        rw [List.getD_cons_succ] at this
        rw [List.length_append]
        simp only [List.length_cons,List.length_nil]
        rwa [show ((ms.length : Int) + 1 + ((i + 1 : Nat) : Int)) = ((ms.length + (0 + 1) : Nat) : Int) + 1 + (i : Int) by omega] at this)
      (fun i hi => by simpa using hl (i + 1) (by simpa using hi)) hg.2 (by omega)
    refine ⟨S',to',?_,k2,q3.trans k3,k4,by rw [List.length_cons]; omega⟩
    simp only [stImp]
    rw [q1]
    exact k1
end Go.Proofs.Ytoocnmfodhnpbaa
/- The store's functions: a new store,rules,grammars that are added. -/
namespace Go.Proofs.Ytoocnmfodhnpbaa
open Go.EG
attribute [local irreducible] CallK QCall Go.Calls
set_option linter.unusedSimpArgs false
set_option linter.unusedVariables false
set_option maxRecDepth 20000
def rulsC (g : List Rul) : List Value := g.flatMap ruC
theorem rulsC_length : ∀ g : List Rul,(rulsC g).length = g.length * 5
  | [] => rfl
  | x :: g => by
    have := rulsC_length g
    simp only [rulsC,List.flatMap_cons,List.length_append,List.length_cons,List.length_nil] at this ⊢
    omega
theorem rulsC_at : ∀ {g : List Rul} {i : Nat},i < g.length → ((rulsC g).drop (i * 5)).take 5 = ruC (g.getD i rul0)
  | x :: g,0,_ => by simp [rulsC,ruC]
  | x :: g,i + 1,h => by
    have ih := rulsC_at (g := g) (i := i) (by simpa using h)
    have e1 : rulsC (x :: g) = ruC x ++ rulsC g := by simp [rulsC]
    rw [e1,show (i + 1) * 5 = (ruC x).length + i * 5 by simp [ruC]; omega,← List.drop_drop,List.drop_left]
    simpa using ih
theorem rulsC_snoc (g : List Rul) (r : Rul) : rulsC g ++ ruC r = rulsC (g ++ [r]) := by simp [rulsC]
def ruleV (S : Sto) (n : Int) : Value := if 1 ≤ n ∧ n ≤ S.E.length then .tuple #[ruV (atE S.E n).r,.nilIface] else .tuple #[ruV rul0,errV 1]
theorem ruleV_ok {S : Sto} {n : Int} (h : 1 ≤ n) (h' : n ≤ S.E.length) : ruleV S n = .tuple #[ruV (atE S.E n).r,.nilIface] := if_pos ⟨h,h'⟩
theorem ents_rule {E : List Entr} {i : Nat} (h : i < E.length) : ((ents E).drop (i * 13)).take 5 = ruC (E.getD i ent0).r := by
  have := congrArg (List.take 5) (ents_at h)
  rw [List.take_take] at this
  exact this
theorem calls_Rule (b : Nat) (S : Sto) (n : Int) (hE : S.E.length ≤ 1048576) : SC fn_P_intern_Store_Rule #[pS b,.int .i64 n] b S S (ruleV S n) := by
  intro key fp w hR
  refine part_call [.ptr 1000 b 0,.v (.int .i64 n)] ok_P_intern_Store_Rule (by simp) (hR.key 77) ?_
  by_cases hn : 1 ≤ n ∧ n ≤ S.E.length
  · rw [ruleV_ok hn.1 hn.2]
    have c1 := calls_knownT b S (n := n) ⟨by omega,by omega⟩
    obtain ⟨i,rfl⟩ : ∃ i : Nat,n = (i : Int) + 1 := ⟨n.toNat - 1,by omega⟩
    rw [atE_succ]
    have e1 : ((i : Int) + 1 - 1).toNat = i := by omega
    have hat := ents_rule (E := S.E) (i := i) (by omega)
    (repeat' ((conv => whnf); first | (refine CallK_packU (key := 77) rfl (fun w hR h0 => c1 _ _ _ h0) ?_; rintro ⟨a',c',mb'⟩ w' hRu; rw [fS_eq]; refine ⟨.v _,rfl,?_⟩) | rw [e1] | refine ⟨ruC (S.E.getD i ent0).r,rfl,Rd.own (key := 1001) rfl (Nat.succ_pos _) hat,?_⟩ | refine ⟨_,⟨rfl,trivial⟩,?_⟩ | (refine bcase_prop (fun h => ?_) (fun h => ?_) <;> try (exfalso; omega)) | (refine bcase_nprop (fun h => ?_) (fun h => ?_) <;> try (exfalso; omega)) | (refine bcase_intro (fun h => ?_) (fun h => ?_) <;> (try simp only [Bool.not_eq_true',Bool.not_eq_false',decide_eq_true_eq,decide_eq_false_iff_not,Bool.not_eq_true,Bool.not_eq_false,Decidable.not_not] at h)) | refine pay ?_ | refine And.intro (by first | exact own_ne (key := 1001) hRu rfl (by omega)) ?_ | intro _)); (all_goals (conv => whnf))
    exact ⟨endR _ _ _ (by (repeat (first | exact Thin.nil _ | exact Thin.refl _ | refine Thin.keep rfl (fun _ h => h) ?_ | refine Thin.skip ?_))) rfl⟩
  · rw [show ruleV S n = .tuple #[ruV rul0,errV 1] from if_neg hn]
    by_cases h0 : n = 0
    · (repeat' ((conv => whnf); first | (refine bcase_prop (fun h => ?_) (fun h => ?_) <;> try (exfalso; omega)) | (refine bcase_nprop (fun h => ?_) (fun h => ?_) <;> try (exfalso; omega)) | (refine bcase_intro (fun h => ?_) (fun h => ?_) <;> (try simp only [Bool.not_eq_true',Bool.not_eq_false',decide_eq_true_eq,decide_eq_false_iff_not,Bool.not_eq_true,Bool.not_eq_false,Decidable.not_not] at h)) | refine pay ?_ | intro _)); (all_goals (conv => whnf))
      exact ⟨endP (by (repeat (first | exact Thin.nil _ | exact Thin.refl _ | refine Thin.keep rfl (fun _ h => h) ?_ | refine Thin.skip ?_))) rfl⟩
    · have c1 := calls_knownF b S (n := n) (fun h => by have := h.1; have := h.2; omega)
      (repeat' ((conv => whnf); first | refine SC.go 77 c1 rfl fun fp' => ?_ | (refine bcase_prop (fun h => ?_) (fun h => ?_) <;> try (exfalso; omega)) | (refine bcase_nprop (fun h => ?_) (fun h => ?_) <;> try (exfalso; omega)) | (refine bcase_intro (fun h => ?_) (fun h => ?_) <;> (try simp only [Bool.not_eq_true',Bool.not_eq_false',decide_eq_true_eq,decide_eq_false_iff_not,Bool.not_eq_true,Bool.not_eq_false,Decidable.not_not] at h)) | refine pay ?_ | intro _)); (all_goals (conv => whnf))
      exact ⟨endP (by (repeat (first | exact Thin.nil _ | exact Thin.refl _ | refine Thin.keep rfl (fun _ h => h) ?_ | refine Thin.skip ?_))) rfl⟩
def newS (key : Nat) (S : Sto) (v : Value) (L1 : List Ent) : Prop := ∃ b fp',v = pS b ∧ L1 = [packE key fp' (fS b S)]
def clipS (m : Int) : Nat := (if m < 0 then 0 else if m > 1048576 then 1048576 else m).toNat
theorem calls_New (m : Int) (key : Nat) (w : World) : Calls Try.prog fn_intern_New #[.int .i64 m] w fun e w' => ∃ v L1,e = .returned v ∧ R w [] L1 w' ∧ newS key ⟨clipS m,[]⟩ v L1 := by
  refine new_call [.v (.int .i64 m)] ok_intern_New (by simp) ?_
  have c1 := calls_lClip m 0 1048576
  have e1 : (if m < 0 then 0 else if m > 1048576 then 1048576 else m) = ((clipS m : Nat) : Int) := by unfold clipS; split; rfl; split <;> omega
  rw [e1] at c1
  (repeat' ((conv => whnf); first | (first | refine puK c1 ?_ | refine quK c1 ?_) | (refine bcase_prop (fun h => ?_) (fun h => ?_) <;> try (exfalso; omega)) | (refine bcase_nprop (fun h => ?_) (fun h => ?_) <;> try (exfalso; omega)) | (refine bcase_intro (fun h => ?_) (fun h => ?_) <;> (try simp only [Bool.not_eq_true',Bool.not_eq_false',decide_eq_true_eq,decide_eq_false_iff_not,Bool.not_eq_true,Bool.not_eq_false,Decidable.not_not] at h)) | refine pay ?_ | intro _)); (all_goals (conv => whnf))
  rename_i mb b
  exact ⟨⟨_,(Ref.ownNil 1001 ty_intern_entry 13).trans ((Ref.perm (.swap _ _ _)).trans (Ref.pack (key := key) (f := fS b ⟨clipS m,[]⟩) (none,0,mb) (by rw [fS_eq]; exact .keep rfl (fun _ h => h) (.keep rfl (fun _ h => h) (.keep rfl (fun _ h => h) (.nil _)))))),_,_,rfl,rfl⟩⟩
def okTo (to : List Int) (r : Rul) : Prop := (r.k = 2 → 0 ≤ r.a ∧ r.a < to.length ∧ 0 ≤ r.b ∧ r.b < to.length) ∧ (r.k = 3 → 0 ≤ r.a ∧ r.a < to.length)
theorem getD_app0 {to : List Int} {m i : Nat} : (to ++ List.replicate m 0).getD i 0 = to.getD i 0 := by
  rw [List.getD_eq_getElem?_getD,List.getD_eq_getElem?_getD,List.getElem?_append]
  split
  · rfl
  · rename_i h
    rw [List.getElem?_eq_none (by omega : to.length ≤ i),List.getElem?_replicate]
    split <;> rfl
theorem calls_put (b : Nat) (S : Sto) (hw : WF S) (r : Rul) (hr0 : 0 ≤ r.l) (hr : r.l < 256) (hk : r.k = 1 ∨ r.k = 2 ∨ r.k = 3) (ht : r.t ≤ 9223372036854775807) (to : List Int) (hto : okTo to r) (a : Option Addr) (c key : Nat) (fp : List Nat) (w : World) (hR : StR w key fp b S) (hin : In w fp a (ints .i64 to)) :
    Calls Try.prog fn_P_intern_Store_put #[pS b,ruV r,.slice a to.length c] w fun e w' => ∃ v L1,e = .returned v ∧ R w fp L1 w' ∧ retS key b (stRul S r to).1 (resV (stRul S r to).2) v L1 := by
  refine part_call [.v (pS b),.v (ruV r),.v (.slice a to.length c)] ok_P_intern_Store_put (by simp) (hR.key 77) ?_
  obtain ⟨l,hl⟩ : ∃ l : Nat,r.l = l := ⟨r.l.toNat,by omega⟩
  have c1 := calls_Letter b S r.l.toNat (by omega) hw.small
  rw [hl,Int.toNat_natCast] at c1
  have c2 := calls_Pair b S hw (to.getD r.a.toNat 0) (to.getD r.b.toNat 0)
  have c3 := calls_Power b S hw (to.getD r.a.toNat 0) r.t ht
  obtain ⟨h2,h3⟩ := hto
  unfold stRul
  rcases hk with hk | hk | hk
  · rw [if_pos hk,hl,Int.toNat_natCast]
    (repeat' ((conv => whnf); first | refine SC.go 77 c1 rfl fun fp' => ?_ | rw [hl] | (refine bcase_prop (fun h => ?_) (fun h => ?_) <;> try (exfalso; omega)) | (refine bcase_nprop (fun h => ?_) (fun h => ?_) <;> try (exfalso; omega)) | (refine bcase_intro (fun h => ?_) (fun h => ?_) <;> (try simp only [Bool.not_eq_true',Bool.not_eq_false',decide_eq_true_eq,decide_eq_false_iff_not,Bool.not_eq_true,Bool.not_eq_false,Decidable.not_not] at h)) | refine pay ?_ | intro _)); (all_goals (conv => whnf))
    all_goals first | (exfalso; omega) | exact ⟨endP (by (repeat (first | exact Thin.nil _ | exact Thin.refl _ | refine Thin.keep rfl (fun _ h => h) ?_ | refine Thin.skip ?_))) rfl⟩
  · obtain ⟨q1,q2,q3,q4⟩ := h2 hk
    rw [if_neg (by omega),if_pos hk]
    have n1 : a ≠ none := hin.ne' (k := r.a.toNat) (by rw [ints_length]; omega)
    have rd1 := fun {L : List Ent} => rdI (L := L) hin (i := r.a.toNat) (by omega)
    have rd2 := fun {L : List Ent} => rdI (L := L) hin (i := r.b.toNat) (by omega)
    (repeat' ((conv => whnf); first | refine SC.go 77 c2 rfl fun fp' => ?_ | rw [Nat.mul_one] | refine ⟨_,rd1,?_⟩ | refine ⟨_,rd2,?_⟩ | (refine bcase_prop (fun h => ?_) (fun h => ?_) <;> try (exfalso; omega)) | (refine bcase_nprop (fun h => ?_) (fun h => ?_) <;> try (exfalso; omega)) | (refine bcase_intro (fun h => ?_) (fun h => ?_) <;> (try simp only [Bool.not_eq_true',Bool.not_eq_false',decide_eq_true_eq,decide_eq_false_iff_not,Bool.not_eq_true,Bool.not_eq_false,Decidable.not_not] at h)) | refine pay ?_ | intro _)); (all_goals (conv => whnf))
    all_goals first | (exfalso; omega) | exact ⟨endP (by (repeat (first | exact Thin.nil _ | exact Thin.refl _ | refine Thin.keep rfl (fun _ h => h) ?_ | refine Thin.skip ?_))) rfl⟩
  · obtain ⟨q1,q2⟩ := h3 hk
    rw [if_neg (by omega),if_neg (by omega)]
    have n1 : a ≠ none := hin.ne' (k := r.a.toNat) (by rw [ints_length]; omega)
    have rd1 := fun {L : List Ent} => rdI (L := L) hin (i := r.a.toNat) (by omega)
    (repeat' ((conv => whnf); first | refine SC.go 77 c3 rfl fun fp' => ?_ | rw [Nat.mul_one] | refine ⟨_,rd1,?_⟩ | (refine bcase_prop (fun h => ?_) (fun h => ?_) <;> try (exfalso; omega)) | (refine bcase_nprop (fun h => ?_) (fun h => ?_) <;> try (exfalso; omega)) | (refine bcase_intro (fun h => ?_) (fun h => ?_) <;> (try simp only [Bool.not_eq_true',Bool.not_eq_false',decide_eq_true_eq,decide_eq_false_iff_not,Bool.not_eq_true,Bool.not_eq_false,Decidable.not_not] at h)) | refine pay ?_ | intro _)); (all_goals (conv => whnf))
    all_goals first | (exfalso; omega) | exact ⟨endP (by (repeat (first | exact Thin.nil _ | exact Thin.refl _ | refine Thin.keep rfl (fun _ h => h) ?_ | refine Thin.skip ?_))) rfl⟩
theorem splice_ints {k : IntKind} {xs : List Int} {j : Nat} {z : Int} (h : j < xs.length) : splice (ints k xs) j [.int k z] = ints k (xs.set j z) := by
  unfold splice ints
  rw [List.set_eq_take_append_cons_drop,if_pos h]
  simp
theorem set_zeros {to : List Int} {m : Nat} {z : Int} : (to ++ List.replicate (m + 1) 0).set to.length z = (to ++ [z]) ++ List.replicate m 0 := by
  rw [List.set_append_right _ _ (Nat.le_refl _),Nat.sub_self,List.replicate_succ,List.set_cons_zero]
  simp
theorem flat_zeros (m : Nat) : (List.replicate m [Value.int .i64 0]).flatten = ints .i64 (List.replicate m 0) := by
  induction m with
  | zero => rfl
  | succ m ih => rw [List.replicate_succ,List.replicate_succ,List.flatten_cons,ih]; rfl
theorem okTo_of {r : Rul} {n : Int} {to : List Int} (h : okR r n) (hl : n ≤ to.length) : okTo to r := by
  rcases h with h | ⟨h1,_,_,h4,h5,h6,h7⟩ | ⟨h1,_,_,_,h5,h6⟩
  · exact ⟨fun hk => by omega,fun hk => by omega⟩
  · exact ⟨fun _ => by omega,fun hk => by omega⟩
  · exact ⟨fun hk => by omega,fun _ => by omega⟩
theorem stRul_app0 {S : Sto} {r : Rul} {to : List Int} {m : Nat} : stRul S r (to ++ List.replicate m 0) = stRul S r to := by
  unfold stRul
  rw [getD_app0,getD_app0]
structure ImpG where
  i : Nat
  S : Sto
  to : List Int
  fp : List Nat
structure Gram (g : List Rul) : Prop where
  rul : ∀ i,i < g.length → okR (g.getD i rul0) (i + 1)
  let_ : ∀ i,i < g.length → 0 ≤ (g.getD i rul0).l ∧ (g.getD i rul0).l < 256
  tim : ∀ i,i < g.length → (g.getD i rul0).t ≤ 9223372036854775807
theorem drop_cons {α : Type} {l : List α} {i : Nat} {d : α} (h : i < l.length) : l.drop i = l.getD i d :: l.drop (i + 1) := by
  rw [List.drop_eq_getElem_cons h,List.getD_eq_getElem?_getD,List.getElem?_eq_getElem h]; rfl
theorem calls_Import (b : Nat) (S : Sto) (hw : WF S) (g : List Rul) (hg : Gram g) (S' : Sto) (to' : List Int) (himp : stImp S [0] g = some (S',to')) (hlen : g.length ≤ 1048576) (a : Option Addr) (c key : Nat) (fp : List Nat) (w : World) (hR : StR w key fp b S) (hin : In w fp a (rulsC g)) :
    Calls Try.prog fn_P_intern_Store_Import #[pS b,.slice a g.length c] w fun e w' => ∃ v L1,e = .returned v ∧ R w fp L1 w' ∧ retS key b S' (.tuple #[.int .i64 (to'.getD g.length 0),.nilIface]) v L1 := by
  refine part_call [.v (pS b),.v (.slice a g.length c)] ok_P_intern_Store_Import (by simp) (hR.key 77) ?_
  have hne : ∀ i,i < g.length → a ≠ none := fun i hi => hin.ne' (k := i * 5) (by rw [rulsC_length]; omega)
  have hrd := fun {L : List Ent} (i : Nat) (hi : i < g.length) => In.rdn (L := L) (vs := ruC (g.getD i rul0)) (k := i * 5) hin (Nat.succ_pos _) (rulsC_at hi)
  have hn1 : ((g.length : Int) + 1).toNat = g.length + 1 := by omega
  have hz := flat_zeros (g.length + 1)
  (repeat' ((conv => whnf); first | rw [hn1] | rw [hz] | (refine bcase_prop (fun h => ?_) (fun h => ?_) <;> try (exfalso; omega)) | (refine bcase_nprop (fun h => ?_) (fun h => ?_) <;> try (exfalso; omega)) | (refine bcase_intro (fun h => ?_) (fun h => ?_) <;> (try simp only [Bool.not_eq_true',Bool.not_eq_false',decide_eq_true_eq,decide_eq_false_iff_not,Bool.not_eq_true,Bool.not_eq_false,Decidable.not_not] at h)) | refine pay ?_ | refine And.intro (by first | exact ⟨by omega,by omega,by omega,by unfold maxLen; omega⟩) ?_ | intro _)); (all_goals (conv => whnf))
  refine VC_loop Nat (fun i => [(0,.v (pS b)),(1,.v (.slice a g.length c)),(17,.v (.slice a g.length c)),(18,.v (.int .i64 g.length)),(19,.v (.int .i64 i))])
    (fun _ => [packE 77 fp (fS b S)]) (fun i => i ≤ g.length) (fun i => g.length - i) 0 (Nat.zero_le _) (by (repeat ((conv => whnf); refine And.intro (by first | exact rfl | exact vint_eq (by omega) | exact vint_eq (by (dsimp only; omega)) | exact vsl_eq (by omega) | exact vsl_eq (by first | (dsimp only; omega) | (simp; done) | (simp; omega))) ?_)); exact trivial) (Ref.refl _) ?_
  intro i hi
  have hn0 := hne i
  have hrd' := fun {L : List Ent} h => hrd (L := L) i h
  have c1 := fun h => calls_rCheck (g.getD i rul0) ((i : Int) + 1) (hg.rul i h) (by omega)
  (repeat' ((conv => whnf); first | rw [Int.toNat_natCast] | rw [hn1] | rw [hz] | refine ⟨ruC (g.getD i rul0),rfl,hrd' (by omega),?_⟩ | refine CallK_pure (.v _) (fun w hR => c1 (by omega) w) ?_ | (refine bcase_prop (fun h => ?_) (fun h => ?_) <;> try (exfalso; omega)) | (refine bcase_nprop (fun h => ?_) (fun h => ?_) <;> try (exfalso; omega)) | (refine bcase_intro (fun h => ?_) (fun h => ?_) <;> (try simp only [Bool.not_eq_true',Bool.not_eq_false',decide_eq_true_eq,decide_eq_false_iff_not,Bool.not_eq_true,Bool.not_eq_false,Decidable.not_not] at h)) | refine pay ?_ | refine And.intro (by first | exact hn0 (by omega) | exact ⟨by omega,by omega,by omega,by unfold maxLen; omega⟩) ?_ | intro _)); (all_goals (conv => whnf))
  · refine loop_next (i + 1) (show i + 1 ≤ g.length by omega) (show g.length - (i + 1) < g.length - i by omega) (by (repeat ((conv => whnf); refine And.intro (by first | exact rfl | exact vint_eq (by omega) | exact vint_eq (by (dsimp only; omega)) | exact vsl_eq (by omega) | exact vsl_eq (by first | (dsimp only; omega) | (simp; done) | (simp; omega))) ?_)); exact trivial) (Thin.ref (by (repeat (first | exact Thin.nil _ | exact Thin.refl _ | refine Thin.keep rfl (fun _ h => h) ?_ | refine Thin.skip ?_))))
  · rename_i b35
    refine VC_loop ImpG (fun x => [(0,.v (pS b)),(1,.v (.slice a g.length c)),(9,.sl 35 (some ⟨b35,0,none⟩) (g.length + 1) (g.length + 1)),(36,.v (.slice a g.length c)),(37,.v (.int .i64 g.length)),(38,.v (.int .i64 x.i))])
      (fun x => [packE 77 x.fp (fS b x.S),.own 35 (some ⟨b35,0,none⟩) (g.length + 1) (g.length + 1) ty_api_ID 1 (ints .i64 (x.to ++ List.replicate (g.length - x.i) 0))])
      (fun x => x.i ≤ g.length ∧ x.to.length = x.i + 1 ∧ WF x.S ∧ stImp x.S x.to (g.drop x.i) = some (S',to')) (fun x => g.length - x.i) ⟨0,S,[0],fp⟩ ⟨Nat.zero_le _,rfl,hw,himp⟩ (by (repeat ((conv => whnf); refine And.intro (by first | exact rfl | exact vint_eq (by omega) | exact vint_eq (by (dsimp only; omega)) | exact vsl_eq (by omega) | exact vsl_eq (by first | (dsimp only; omega) | (simp; done) | (simp; omega))) ?_)); exact trivial) ?_ ?_
    · refine (Ref.perm (.swap _ _ _)).trans (Thin.ref ?_)
      exact .keep rfl (fun _ h => h) (.own rfl rfl (.nil _))
    rintro ⟨i,Si,toi,fpi⟩ ⟨hi,hti,hwi,hst⟩
    dsimp only at hi hti hwi hst ⊢
    have hni : ((i : Int) + 1).toNat = i + 1 := by omega
    have hi0 := hne i
    by_cases hlt : i < g.length
    · rw [drop_cons (d := rul0) hlt] at hst
      obtain ⟨h0,hst2⟩ := stImp_cons hst
      have hrul := hg.rul i hlt
      have hlet := hg.let_ i hlt
      have htim := hg.tim i hlt
      have hw2 := (stRul_wf (to := toi) hwi hlet.2).1
      have c2 := fun key fp w h hin => calls_put b Si hwi (g.getD i rul0) hlet.1 hlet.2 (by rcases hrul with h | h | h <;> omega) htim (toi ++ List.replicate (g.length - i) 0) (okTo_of hrul (by simp; omega)) (some ⟨b35,0,none⟩) (g.length + 1) key fp w h hin
      rw [stRul_app0] at c2
      obtain ⟨S2,id,e2⟩ : ∃ S2 id,stRul Si (g.getD i rul0) toi = (S2,id,0) := ⟨_,_,by rw [← h0]⟩
      rw [e2] at c2 hst2 hw2
      have hll : (toi ++ List.replicate (g.length - i) (0 : Int)).length = g.length + 1 := by simp; omega
      rw [hll] at c2
      have hsp : splice (ints .i64 (toi ++ List.replicate (g.length - i) 0)) (i + 1) [.int .i64 id] = ints .i64 ((toi ++ [id]) ++ List.replicate (g.length - (i + 1)) 0) := by
        rw [splice_ints (by simp; omega),show g.length - i = g.length - (i + 1) + 1 by omega,← hti,set_zeros]
      have hsl : i + 1 + 1 ≤ (ints .i64 (toi ++ List.replicate (g.length - i) 0)).length := by rw [ints_length]; simp; omega
      have hr1 := fun {L : List Ent} => hrd (L := L) i hlt
      (repeat' ((conv => whnf); first | rw [Int.toNat_natCast] | rw [hni] | rw [Nat.mul_one] | rw [hsp] | refine ⟨ruC (g.getD i rul0),rfl,hr1,?_⟩ | (refine CallK_pack (key := 77) rfl (fun w hR h0 => c2 _ _ _ h0 (In.beside (key := 35) hR rfl)) ?_; rintro _ _ ⟨rfl,fp',rfl⟩; refine ⟨.v _,rfl,?_⟩) | (refine bcase_prop (fun h => ?_) (fun h => ?_) <;> try (exfalso; omega)) | (refine bcase_nprop (fun h => ?_) (fun h => ?_) <;> try (exfalso; omega)) | (refine bcase_intro (fun h => ?_) (fun h => ?_) <;> (try simp only [Bool.not_eq_true',Bool.not_eq_false',decide_eq_true_eq,decide_eq_false_iff_not,Bool.not_eq_true,Bool.not_eq_false,Decidable.not_not] at h)) | refine pay ?_ | refine And.intro (by first | exact hi0 (by omega) | exact ⟨rfl,hsl⟩) ?_ | intro _)); (all_goals (conv => whnf))
      refine loop_next ⟨i + 1,S2,toi ++ [id],fp'⟩ ⟨hlt,by simp; omega,hw2,hst2⟩ (by ((try dsimp only); omega)) (by (repeat ((conv => whnf); refine And.intro (by first | exact rfl | exact vint_eq (by omega) | exact vint_eq (by (dsimp only; omega)) | exact vsl_eq (by omega) | exact vsl_eq (by first | (dsimp only; omega) | (simp; done) | (simp; omega))) ?_)); exact trivial) (Thin.ref (by (repeat (first | exact Thin.nil _ | exact Thin.refl _ | refine Thin.keep rfl (fun _ h => h) ?_ | refine Thin.skip ?_))))
    · have hin' : i = g.length := by omega
      subst hin'
      rw [List.drop_length] at hst
      simp only [stImp,Option.some.injEq,Prod.mk.injEq] at hst
      obtain ⟨rfl,rfl⟩ := hst
      have hk : isK (.int .i64) (ints .i64 (toi ++ List.replicate (g.length - g.length) 0)) g.length := isK_ints (by simp; omega)
      have hv : intOf (atL (ints .i64 (toi ++ List.replicate (g.length - g.length) 0)) g.length) = toi.getD g.length 0 := by
        rw [intOf_ints (by simp; omega),getD_app0]
      (repeat' ((conv => whnf); first | rw [Int.toNat_natCast] | rw [Nat.mul_one] | rw [hv] | (refine bcase_prop (fun h => ?_) (fun h => ?_) <;> try (exfalso; omega)) | (refine bcase_nprop (fun h => ?_) (fun h => ?_) <;> try (exfalso; omega)) | (refine bcase_intro (fun h => ?_) (fun h => ?_) <;> (try simp only [Bool.not_eq_true',Bool.not_eq_false',decide_eq_true_eq,decide_eq_false_iff_not,Bool.not_eq_true,Bool.not_eq_false,Decidable.not_not] at h)) | refine pay ?_ | refine And.intro (by first | exact hk) ?_ | intro _)); (all_goals (conv => whnf))
      exact ⟨endP (by (repeat (first | exact Thin.nil _ | exact Thin.refl _ | refine Thin.keep rfl (fun _ h => h) ?_ | refine Thin.skip ?_))) rfl⟩
end Go.Proofs.Ytoocnmfodhnpbaa
/- The references' functions on rules and grammars; errors' numbers. -/
namespace Go.Proofs.Ytoocnmfodhnpbaa
open Go.EG
attribute [local irreducible] CallK QCall Go.Calls
set_option linter.unusedSimpArgs false
set_option linter.unusedVariables false
set_option maxRecDepth 20000
set_option maxHeartbeats 1000000
theorem calls_Num (n : Int) (w : World) : Calls Try.prog fn_evergreenbase_Num #[errV n] w fun e w' => e = .returned (.int .i64 n) ∧ Ext w w' := by
  refine pure_call [.v (errV n)] w ok_evergreenbase_Num (by simp) ?_
  (repeat' ((conv => whnf); first | (refine bcase_prop (fun h => ?_) (fun h => ?_) <;> try (exfalso; omega)) | (refine bcase_nprop (fun h => ?_) (fun h => ?_) <;> try (exfalso; omega)) | (refine bcase_intro (fun h => ?_) (fun h => ?_) <;> (try simp only [Bool.not_eq_true',Bool.not_eq_false',decide_eq_true_eq,decide_eq_false_iff_not,Bool.not_eq_true,Bool.not_eq_false,Decidable.not_not] at h)) | refine pay ?_ | intro _)); (all_goals (conv => whnf))
  exact ⟨rfl⟩
theorem calls_Is (n m : Int) (hm : m ≠ 0) (w : World) : Calls Try.prog fn_evergreenbase_Is #[errV n,.int .i64 m] w fun e w' => e = .returned (.bool (decide (n = m))) ∧ Ext w w' := by
  refine pure_call [.v (errV n),.v (.int .i64 m)] w ok_evergreenbase_Is (by simp) ?_
  have c1 := calls_Num n
  (repeat' ((conv => whnf); first | (first | refine puK c1 ?_ | refine quK c1 ?_) | (refine bcase_prop (fun h => ?_) (fun h => ?_) <;> try (exfalso; omega)) | (refine bcase_nprop (fun h => ?_) (fun h => ?_) <;> try (exfalso; omega)) | (refine bcase_intro (fun h => ?_) (fun h => ?_) <;> (try simp only [Bool.not_eq_true',Bool.not_eq_false',decide_eq_true_eq,decide_eq_false_iff_not,Bool.not_eq_true,Bool.not_eq_false,Decidable.not_not] at h)) | refine pay ?_ | intro _)); (all_goals (conv => whnf))
  · refine ⟨?_⟩
    rw [decide_eq_true h]; simp [hm]
  · refine ⟨?_⟩
    rw [decide_eq_false h]
end Go.Proofs.Ytoocnmfodhnpbaa
/- Rows of one's own,taken out or read. Generic over the program: no condition. -/
namespace Go.Proofs.Ytoocnmfodhnpbaa
open Go.EG
set_option linter.unusedVariables false
def pickO (key : Nat) : List Ent → Option (Ent × List Ent)
  | [] => none
  | .own k a n c T sz xs :: L => if k = key then some (.own k a n c T sz xs,L) else (pickO key L).map fun p => (p.1,.own k a n c T sz xs :: p.2)
  | e :: L => (pickO key L).map fun p => (p.1,e :: p.2)
theorem pickO_perm {key : Nat} : ∀ {L : List Ent} {e : Ent} {Lr : List Ent},pickO key L = some (e,Lr) → L.Perm (e :: Lr) := by
  intro L
  induction L with
  | nil => intro e Lr h; cases h
  | cons e0 L ih =>
    have gen : ∀ {e Lr},((pickO key L).map fun p => (p.1,e0 :: p.2)) = some (e,Lr) → (e0 :: L).Perm (e :: Lr) := fun {e Lr} h => by
      obtain ⟨p,hp,h⟩ := Option.map_eq_some_iff.1 h
      simp only [Prod.mk.injEq] at h
      obtain ⟨rfl,rfl⟩ := h
      exact ((ih hp).cons _).trans (.swap _ _ _)
    intro e Lr h
    cases e0 with
    | own k a n c T sz xs =>
      simp only [pickO] at h
      split at h
      · simp only [Option.some.injEq,Prod.mk.injEq] at h
        obtain ⟨rfl,rfl⟩ := h
        exact .refl _
      · exact gen h
    | box k b cs T => exact gen h
    | abs k fp ok => exact gen h
    | mapE k b kk m => exact gen h
theorem Ref.two {w0 : World} {fp0 : List Nat} {L L1 L2 : List Ent} (k1 k2 : Nat) {k1' k2' n1 n1' c1 T1 z1 n2 n2' c2 T2 z2 : Nat} {a1 a2 : Option Addr} {x1 x1' x2 x2' : List Value} (h1 : pickO k1 L = some (.own k1 a1 n1 c1 T1 z1 x1,L1)) (h2 : pickO k2 L1 = some (.own k2 a2 n2 c2 T2 z2 x2,L2)) (e1 : n1 = n1') (e2 : x1 = x1') (e3 : n2 = n2') (e4 : x2 = x2') :
    Ref w0 fp0 L [.own k1' a1 n1' c1 T1 z1 x1',.own k2' a2 n2' c2 T2 z2 x2'] := by
  refine ((Ref.perm (pickO_perm h1)).trans (Ref.perm ((pickO_perm h2).cons _))).trans (Thin.ref ?_)
  exact .own e1 e2 (.own e3 e4 (.nil _))
theorem rdO {w0 : World} {fp0 : List Nat} {L : List Ent} (key : Nat) {a : Option Addr} {n c T sz i : Nat} {xs : List Value} {v : Value} (h : ownAt key L = some ⟨a,n,c,T,sz,xs⟩) (hv : xs[i]? = some v) : Rd w0 fp0 L (.el a i) [v] := by
  refine Rd.own h (Nat.succ_pos _) ?_
  obtain ⟨hi,hv⟩ := List.getElem?_eq_some_iff.1 hv
  rw [List.drop_eq_getElem_cons hi,hv]; rfl
theorem CallK_packO {P : Program} {w0 : World} {fp0 : List Nat} {L : List Ent} {f : FuncId} {args : List Value} {k : SV → List Ent → Prop} {key : Nat} {fp : List Nat} {α β : Type} {fA : α → List Ent} {Lr : List Ent} {Q : Value → List Ent → Prop} (key' : Nat) (fB : β → List Ent) (hp : pickE key L = some (packE key fp fA,Lr))
    (h : ∀ w,R w0 fp0 (packE key fp fA :: Lr) w → R w fp [packE key fp fA] w → Calls P f args.toArray w fun e w' => ∃ v L1,e = .returned v ∧ R w fp L1 w' ∧ Q v L1)
    (hk : ∀ v L1,Q v L1 → ∃ fp' L2,L1 = packE key' fp' fB :: L2 ∧ ∀ x w',R w0 fp0 (fB x ++ (L2 ++ Lr)) w' → ∃ s : SV,s.val = v ∧ k s (fB x ++ (L2 ++ Lr))) : CallK P w0 fp0 f args L k := fun w hR => by
  have e1 : fps [packE key fp fA] = fp := by simp [packE,Ent.fp,fps]
  have hR1 : R w0 fp0 ([packE key fp fA] ++ Lr) w := hR.perm (pickE_perm hp)
  have h0 := hR1.restart
  rw [e1] at h0
  refine (h w hR1 h0).mono fun e w' ⟨v,L1,he,hR',hq⟩ => ?_
  obtain ⟨fp',L2,rfl,hk⟩ := hk v L1 hq
  rw [← e1] at hR'
  obtain ⟨x,_,hR2⟩ := (R.call hR1 hR').unpack
  obtain ⟨s,hs,hk⟩ := hk x w' hR2
  exact ⟨v,s,fB x ++ (L2 ++ Lr),he,hs,hR2,hk⟩
end Go.Proofs.Ytoocnmfodhnpbaa
/- Letters,ranges and ways in texts of rules. Plain Lean: no program in sight. -/
namespace Go.Proofs.Ytoocnmfodhnpbaa
open Go.EG
set_option linter.unusedSimpArgs false
set_option linter.unusedVariables false
theorem rep_getD {t : List Nat} : ∀ {k i : Nat},i < k * t.length → (rep k t).getD i 0 = t.getD (i % t.length) 0
  | 0,i,h => by omega
  | k + 1,i,h => by
    rw [rep_succ]
    by_cases hi : i < t.length
    · rw [getD_append_left hi,Nat.mod_eq_of_lt hi]
    · rw [List.getD_eq_getElem?_getD,List.getElem?_append_right (by omega),← List.getD_eq_getElem?_getD,rep_getD (by rw [Nat.succ_mul] at h; omega)]
      conv => rhs; rw [show i = (i - t.length) + t.length by omega,Nat.add_mod_right]
theorem getD_append_right' {s t : List Nat} {i : Nat} (h : s.length ≤ i) : (s ++ t).getD i 0 = t.getD (i - s.length) 0 := by
  rw [List.getD_eq_getElem?_getD,List.getElem?_append_right h,← List.getD_eq_getElem?_getD]
theorem rep_drop_mul {t : List Nat} {k q : Nat} (h : q ≤ k) : (rep k t).drop (q * t.length) = rep (k - q) t := by
  obtain ⟨j,rfl⟩ : ∃ j,k = q + j := ⟨k - q,by omega⟩
  rw [rep_add,List.drop_append_of_le_length (by rw [rep_length]; exact Nat.le_refl _),List.drop_eq_nil_of_le (by rw [rep_length]; exact Nat.le_refl _),List.nil_append]
  congr 1; omega
theorem rep_take_mul {t : List Nat} {k q : Nat} (h : q ≤ k) : (rep k t).take (q * t.length) = rep q t := by
  obtain ⟨j,rfl⟩ : ∃ j,k = q + j := ⟨k - q,by omega⟩
  rw [rep_add,List.take_append_of_le_length (by rw [rep_length]; exact Nat.le_refl _),List.take_of_length_le (by rw [rep_length]; exact Nat.le_refl _)]
def sub (t : List Nat) (i n : Nat) : List Nat := (t.drop i).take n
theorem sub_length {t : List Nat} {i n : Nat} (h : i + n ≤ t.length) : (sub t i n).length = n := by simp [sub]; omega
theorem WF.below {S : Sto} (hw : WF S) {n : Int} (h1 : 1 ≤ n) (h2 : n ≤ S.E.length) :
    ((atE S.E n).r.k = 1 ∧ tm S.E n = .lt (atE S.E n).r.l.toNat) ∨
    ((atE S.E n).r.k = 2 ∧ tm S.E n = .pr (tm S.E (atE S.E n).r.a) (tm S.E (atE S.E n).r.b) ∧ 1 ≤ (atE S.E n).r.a ∧ (atE S.E n).r.a < n ∧ 1 ≤ (atE S.E n).r.b ∧ (atE S.E n).r.b < n) ∨
    ((atE S.E n).r.k = 3 ∧ tm S.E n = .pw (tm S.E (atE S.E n).r.a) (atE S.E n).r.t.toNat ∧ 1 ≤ (atE S.E n).r.a ∧ (atE S.E n).r.a < n ∧ 2 ≤ (atE S.E n).r.t) := by
  obtain ⟨hr,_,ht,_,_⟩ := hw.at_ h1 h2
  rcases hr with hr | ⟨e1,e2,e3,e4,e5,e6,e7⟩ | ⟨e1,e2,e3,e4,e5,e6⟩
  · exact .inl ⟨hr.1,by rw [ht,mkT,if_pos hr.1]⟩
  · exact .inr (.inl ⟨e1,by rw [ht,mkT,if_neg (by omega),if_pos e1],e4,e5,e6,e7⟩)
  · exact .inr (.inr ⟨e1,by rw [ht,mkT,if_neg (by omega),if_neg (by omega)],e5,e6,e4⟩)
section
variable {S : Sto} (hw : WF S) {n : Int} {i : Nat}
theorem Tm.len_pr (a b : Tm) : (Tm.pr a b).len = a.len + b.len := by unfold Tm.len; rw [Tm.txt,List.length_append]
theorem Tm.len_pw (a : Tm) (k : Nat) : (Tm.pw a k).len = k * a.len := by unfold Tm.len; rw [Tm.txt,rep_length]
theorem Tm.at_pow {a : Tm} {k i : Nat} (h : i < k * a.len) : (Tm.pw a k).txt.getD i 0 = a.txt.getD (i % a.len) 0 := rep_getD h
theorem Tm.at_left {a b : Tm} {i : Nat} (h : i < a.len) : (Tm.pr a b).txt.getD i 0 = a.txt.getD i 0 := getD_append_left h
theorem Tm.at_right {a b : Tm} {i : Nat} (h : ¬ i < a.len) : (Tm.pr a b).txt.getD i 0 = b.txt.getD (i - a.len) 0 := getD_append_right' (by unfold Tm.len at h; omega)
end
end Go.Proofs.Ytoocnmfodhnpbaa
/- Ranges that have yet to be divided. Plain Lean: no program in sight. -/
namespace Go.Proofs.Ytoocnmfodhnpbaa
open Go.EG
set_option linter.unusedSimpArgs false
set_option linter.unusedVariables false
structure Spn where
  id : Int
  fr : Nat
  n : Nat
  times : Nat
structure okSp (S : Sto) (d0 p : Nat) (s : Spn) : Prop where
  known : known S s.id
  fit : s.fr + s.n ≤ (tm S.E s.id).len
  tim : s.times = 1 ∨ (s.fr = 0 ∧ s.n = (tm S.E s.id).len)
  big : s.times ≤ 1152921504606846976
  pos : p + 2 * (tm S.E s.id).dep ≤ 2 * d0
end Go.Proofs.Ytoocnmfodhnpbaa
/- Line feeds of texts. Plain Lean: no program in sight. -/
namespace Go.Proofs.Ytoocnmfodhnpbaa
open Go.EG
set_option linter.unusedSimpArgs false
set_option linter.unusedVariables false
end Go.Proofs.Ytoocnmfodhnpbaa
/- Lists of makes: the rules and the results that they yield. Plain Lean: no program in sight. -/
namespace Go.Proofs.Ytoocnmfodhnpbaa
open Go.EG
set_option linter.unusedSimpArgs false
set_option linter.unusedVariables false
def pickF (n : Int) (many : Nat) : Nat := (n % (many : Int)).toNat
theorem pickF_lt {n : Int} {many : Nat} (h : 0 < many) : pickF n many < many := by
  unfold pickF
  have h1 := Int.emod_lt_of_pos n (show (0 : Int) < many by omega)
  have h2 := Int.emod_nonneg n (show (many : Int) ≠ 0 by omega)
  omega
def putF (E : List Entr) (r : Rul) : List Entr × Int := if idOf r E = 0 then (E ++ [mkE E r],((E.length + 1 : Nat) : Int)) else (E,((idOf r E : Nat) : Int))
theorem putF_put {E : List Entr} {r : Rul} {most : Nat} (h : E.length < most) : stPut ⟨most,E⟩ r = (⟨most,(putF E r).1⟩,(putF E r).2,0) := by
  unfold stPut putF
  dsimp only
  split
  · rw [if_neg (by omega)]
  · rfl
def oneF (E : List Entr) (m : Rul) (res : List Int) : List Entr × Int :=
  if pickF m.k 4 = 0 then putF E (letR m.l.toNat)
  else if pickF m.k 4 = 3 then
    (if res.getD (pickF m.a res.length) 0 = 0 ∨ m.t ≤ 0 ∨ LM < (tm E (res.getD (pickF m.a res.length) 0)).len * m.t.toNat then (E,0)
     else if m.t = 1 then (E,res.getD (pickF m.a res.length) 0)
     else putF E (powR (res.getD (pickF m.a res.length) 0) m.t))
  else if res.getD (pickF m.a res.length) 0 = 0 then (E,res.getD (pickF m.b res.length) 0)
  else if res.getD (pickF m.b res.length) 0 = 0 then (E,res.getD (pickF m.a res.length) 0)
  else if LM < (tm E (res.getD (pickF m.a res.length) 0)).len + (tm E (res.getD (pickF m.b res.length) 0)).len then (E,0)
  else putF E (pairR (res.getD (pickF m.a res.length) 0) (res.getD (pickF m.b res.length) 0))
def buildF : List Entr → List Int → List Rul → List Entr × List Int
  | E,res,[] => (E,res)
  | E,res,m :: ms => buildF (oneF E m res).1 (res ++ [(oneF E m res).2]) ms
structure Bld (E : List Entr) (res : List Int) : Prop where
  wf : WF ⟨1000,E⟩
  ne : 0 < res.length
  len : E.length + 1 ≤ res.length
  known : ∀ i,i < res.length → 0 ≤ res.getD i 0 ∧ res.getD i 0 ≤ E.length
theorem Bld.start : Bld [] [0] := ⟨WF.new 1000 (by decide),by simp,by simp,fun i h => by
  have : i = 0 := by simpa using h
  subst this; simp⟩
theorem Bld.pick {E : List Entr} {res : List Int} (h : Bld E res) (n : Int) : 0 ≤ res.getD (pickF n res.length) 0 ∧ res.getD (pickF n res.length) 0 ≤ E.length := h.known _ (pickF_lt h.ne)
def stOne (S : Sto) (m : Rul) (res : List Int) : Sto × Int × Nat :=
  if pickF m.k 4 = 0 then stPut S (letR m.l.toNat)
  else if pickF m.k 4 = 3 then stPower S (res.getD (pickF m.a res.length) 0) (max m.t 0)
  else stPair S (res.getD (pickF m.a res.length) 0) (res.getD (pickF m.b res.length) 0)
theorem one_ok {E : List Entr} {res : List Int} {m : Rul} (h : Bld E res) (hl : 0 ≤ m.l ∧ m.l < 256) (hroom : E.length < 1000) :
    (stOne ⟨1000,E⟩ m res).1 = ⟨1000,(oneF E m res).1⟩ ∧ (stOne ⟨1000,E⟩ m res).2.1 = (oneF E m res).2 ∧ Bld (oneF E m res).1 (res ++ [(oneF E m res).2]) ∧ (oneF E m res).1.length ≤ E.length + 1 ∧ (∃ E',(oneF E m res).1 = E ++ E') := by
  have pa := h.pick m.a
  have pb := h.pick m.b
  -- a result that was there
  have same : ∀ x : Int,0 ≤ x → x ≤ E.length → Bld E (res ++ [x]) := fun x h0 h1 => by
    refine ⟨h.wf,by simp,by have := h.len; simp; omega,fun i hi => ?_⟩
    rw [List.length_append] at hi
    simp only [List.length_cons,List.length_nil] at hi
    by_cases hlt : i < res.length
    · rw [getD_append_left hlt]; exact h.known i hlt
    · have : i = res.length := by omega
      subst this
      rw [getD_snoc rfl]; exact ⟨h0,h1⟩
  -- a rule that is handed in
  have put : ∀ r : Rul,Fit ⟨1000,E⟩ r → (stPut ⟨1000,E⟩ r).1 = ⟨1000,(putF E r).1⟩ ∧ (stPut ⟨1000,E⟩ r).2.1 = (putF E r).2 ∧ Bld (putF E r).1 (res ++ [(putF E r).2]) ∧ (putF E r).1.length ≤ E.length + 1 ∧ (∃ E',(putF E r).1 = E ++ E') := fun r hr => by
    have hp := putF_put (E := E) (r := r) (most := 1000) hroom
    obtain ⟨w1,g1,h0,_,hl⟩ := stPut_spec h.wf hr
    rw [hp] at w1 g1 h0 hl ⊢
    obtain ⟨k1,k2,_,_⟩ := h0 rfl
    obtain ⟨E',hE'⟩ := g1
    have hE' : (putF E r).1 = E ++ E' := congrArg Sto.E hE'
    refine ⟨rfl,rfl,⟨w1,by simp,?_,fun i hi => ?_⟩,hl,E',hE'⟩
    · have := h.len
      have hl : (putF E r).1.length ≤ E.length + 1 := hl
      rw [List.length_append]
      simp only [List.length_cons,List.length_nil]; omega
    · rw [List.length_append] at hi
      simp only [List.length_cons,List.length_nil] at hi
      by_cases hlt : i < res.length
      · rw [getD_append_left hlt]
        have := h.known i hlt
        rw [hE',List.length_append]; omega
      · have : i = res.length := by omega
        subst this
        rw [getD_snoc rfl]; exact k2
  have refl : ∃ E',E = E ++ E' := ⟨[],by simp⟩
  unfold stOne oneF
  by_cases h0 : pickF m.k 4 = 0
  · rw [if_pos h0,if_pos h0]
    exact put _ (fit_let _ (by omega))
  · rw [if_neg h0,if_neg h0]
    by_cases h3 : pickF m.k 4 = 3
    · rw [if_pos h3,if_pos h3]
      generalize res.getD (pickF m.a res.length) 0 = x at *
      unfold stPower
      rw [if_neg (by simp only [known_iff]; omega)]
      by_cases hx : x = 0
      · rw [if_pos (.inr hx),if_pos (.inl hx)]
        exact ⟨rfl,rfl,same 0 (by omega) (by omega),Nat.le_succ _,refl⟩
      · by_cases ht : m.t ≤ 0
        · rw [if_pos (.inl (by omega)),if_pos (.inr (.inl ht))]
          exact ⟨rfl,rfl,same 0 (by omega) (by omega),Nat.le_succ _,refl⟩
        · rw [if_neg (by omega)]
          have hmx : max m.t 0 = m.t := by omega
          rw [hmx]
          have hlx := h.wf.le (n := x) pa.2
          by_cases h1 : m.t = 1
          · have : ¬ (x = 0 ∨ m.t ≤ 0 ∨ LM < (tm E x).len * m.t.toNat) := by
              rw [h1]
              have : (tm E x).len ≤ LM := hlx
              simp only [show (1 : Int).toNat = 1 from rfl,Nat.mul_one]
              omega
            rw [if_pos h1,if_neg this,if_pos h1]
            exact ⟨rfl,rfl,same x pa.1 pa.2,Nat.le_succ _,refl⟩
          · rw [if_neg h1]
            by_cases hlong : LM < (tm E x).len * m.t.toNat
            · rw [if_pos hlong,if_pos (.inr (.inr hlong))]
              exact ⟨rfl,rfl,same 0 (by omega) (by omega),Nat.le_succ _,refl⟩
            · rw [if_neg hlong,if_neg (by omega),if_neg h1]
              exact put _ (fit_pow (by omega) pa.2 (by omega) (by dsimp only; omega))
    · rw [if_neg h3,if_neg h3]
      generalize res.getD (pickF m.a res.length) 0 = x at *
      generalize res.getD (pickF m.b res.length) 0 = y at *
      unfold stPair
      rw [if_neg (by simp only [known_iff]; omega)]
      by_cases hx : x = 0
      · rw [if_pos hx,if_pos hx]
        exact ⟨rfl,rfl,same y pb.1 pb.2,Nat.le_succ _,refl⟩
      · rw [if_neg hx,if_neg hx]
        by_cases hy : y = 0
        · rw [if_pos hy,if_pos hy]
          exact ⟨rfl,rfl,same x pa.1 pa.2,Nat.le_succ _,refl⟩
        · rw [if_neg hy,if_neg hy]
          by_cases hlong : LM < (tm E x).len + (tm E y).len
          · rw [if_pos hlong,if_pos hlong]
            exact ⟨rfl,rfl,same 0 (by omega) (by omega),Nat.le_succ _,refl⟩
          · rw [if_neg hlong,if_neg hlong]
            exact put _ (fit_pair (by omega) pa.2 (by omega) pb.2 (by dsimp only; omega))
end Go.Proofs.Ytoocnmfodhnpbaa
/- The store's weights and depths. -/
namespace Go.Proofs.Ytoocnmfodhnpbaa
open Go.EG
attribute [local irreducible] CallK QCall Go.Calls
set_option linter.unusedSimpArgs false
set_option linter.unusedVariables false
set_option maxRecDepth 20000
set_option maxHeartbeats 1000000
abbrev wt0 : Value := .agg #[.int .i64 0,.int .i64 0,.int .i64 0,.int .i64 0,.int .u64 0,.int .u64 0]
def wtRes (S : Sto) (n : Int) : Value := if known S n then .tuple #[wtV (tm S.E n).txt,.nilIface] else .tuple #[wt0,errV 1]
theorem wtRes_ok {S : Sto} {n : Int} (h : known S n) : wtRes S n = .tuple #[wtV (tm S.E n).txt,.nilIface] := if_pos h
theorem calls_SWeight (b : Nat) (S : Sto) (n : Int) (hE : S.E.length ≤ 1048576) : SC fn_P_intern_Store_Weight #[pS b,.int .i64 n] b S S (wtRes S n) := by
  intro key fp w hR
  refine part_call [.v (pS b),.v (.int .i64 n)] ok_P_intern_Store_Weight (by simp) (hR.key 77) ?_
  unfold wtRes
  by_cases h : known S n
  · rw [if_pos h]
    have c1 := calls_knownT b S h
    have c2 := calls_atN b S h hE
    unfold tm
    generalize atE S.E n = x at *
    (repeat' ((conv => whnf); first | refine SC.go 77 c1 rfl fun fp' => ?_ | refine SC.go 77 c2 rfl fun fp' => ?_ | (refine bcase_prop (fun h => ?_) (fun h => ?_) <;> try (exfalso; omega)) | (refine bcase_nprop (fun h => ?_) (fun h => ?_) <;> try (exfalso; omega)) | (refine bcase_intro (fun h => ?_) (fun h => ?_) <;> (try simp only [Bool.not_eq_true',Bool.not_eq_false',decide_eq_true_eq,decide_eq_false_iff_not,Bool.not_eq_true,Bool.not_eq_false,Decidable.not_not] at h)) | refine pay ?_ | refine And.intro (by first | exact Nat.le_of_ble_eq_true rfl) ?_ | intro _)); (all_goals (conv => whnf))
    exact ⟨endP (by (repeat (first | exact Thin.nil _ | exact Thin.refl _ | refine Thin.keep rfl (fun _ h => h) ?_ | refine Thin.skip ?_))) rfl⟩
  · rw [if_neg h]
    have c1 := calls_knownF b S h
    (repeat' ((conv => whnf); first | refine SC.go 77 c1 rfl fun fp' => ?_ | (refine bcase_prop (fun h => ?_) (fun h => ?_) <;> try (exfalso; omega)) | (refine bcase_nprop (fun h => ?_) (fun h => ?_) <;> try (exfalso; omega)) | (refine bcase_intro (fun h => ?_) (fun h => ?_) <;> (try simp only [Bool.not_eq_true',Bool.not_eq_false',decide_eq_true_eq,decide_eq_false_iff_not,Bool.not_eq_true,Bool.not_eq_false,Decidable.not_not] at h)) | refine pay ?_ | intro _)); (all_goals (conv => whnf))
    exact ⟨endP (by (repeat (first | exact Thin.nil _ | exact Thin.refl _ | refine Thin.keep rfl (fun _ h => h) ?_ | refine Thin.skip ?_))) rfl⟩
def rangeRes (i n len : Int) : Value := if 0 ≤ i ∧ 0 ≤ n ∧ i ≤ len ∧ n ≤ len - i then .nilIface else errV 1
theorem calls_lRange (i n : Int) (len : Nat) (hl : len ≤ LM) (w : World) : Calls Try.prog fn_length_Range #[.int .i64 i,.int .i64 n,.int .i64 len] w fun e w' => e = .returned (rangeRes i n len) ∧ Ext w w' := by
  refine pure_call [.v (.int .i64 i),.v (.int .i64 n),.v (.int .i64 len)] w ok_length_Range (by simp) ?_
  have c1 := calls_lValid len
  unfold LM at hl
  rw [decide_eq_true (by omega)] at c1
  unfold rangeRes
  (repeat' ((conv => whnf); first | (first | refine puK c1 ?_ | refine quK c1 ?_) | (refine bcase_prop (fun h => ?_) (fun h => ?_) <;> try (exfalso; omega)) | (refine bcase_nprop (fun h => ?_) (fun h => ?_) <;> try (exfalso; omega)) | (refine bcase_intro (fun h => ?_) (fun h => ?_) <;> (try simp only [Bool.not_eq_true',Bool.not_eq_false',decide_eq_true_eq,decide_eq_false_iff_not,Bool.not_eq_true,Bool.not_eq_false,Decidable.not_not] at h)) | refine pay ?_ | intro _)); (all_goals (conv => whnf))
  all_goals (refine ⟨?_⟩; first | (rw [if_pos (by omega)] <;> exact rfl) | (rw [if_neg (by omega)] <;> exact rfl))
theorem calls_below (r : Rul) (left i : Nat) (hl : 0 < left) (hL : left ≤ LM) (hi : i ≤ LM) (w : World) : Calls Try.prog fn_access_below #[ruV r,.int .i64 left,.int .i64 i] w fun e w' => e = .returned (.tuple (if r.k = 3 then #[.int .i64 r.a,.int .i64 (i % left : Nat)] else if i < left then #[.int .i64 r.a,.int .i64 i] else #[.int .i64 r.b,.int .i64 (i - left : Nat)])) ∧ Ext w w' := by
  refine pure_call [.v (ruV r),.v (.int .i64 left),.v (.int .i64 i)] w ok_access_below (by simp) ?_
  unfold LM at hL hi
  have q : (i : Int) % (left : Int) = ((i % left : Nat) : Int) := by omega
  (repeat' ((conv => whnf); first | rw [q] | (refine bcase_prop (fun h => ?_) (fun h => ?_) <;> try (exfalso; omega)) | (refine bcase_nprop (fun h => ?_) (fun h => ?_) <;> try (exfalso; omega)) | (refine bcase_intro (fun h => ?_) (fun h => ?_) <;> (try simp only [Bool.not_eq_true',Bool.not_eq_false',decide_eq_true_eq,decide_eq_false_iff_not,Bool.not_eq_true,Bool.not_eq_false,Decidable.not_not] at h)) | refine pay ?_ | refine And.intro (by first | exact ⟨by omega,by omega,by omega⟩) ?_ | intro _)); (all_goals (conv => whnf))
  · exact ⟨by rw [if_pos (by omega)]⟩
  · exact ⟨by rw [if_neg (by omega),if_pos (by omega)]⟩
  · have q2 : (i : Int) - (left : Int) = ((i - left : Nat) : Int) := by omega
    exact ⟨by rw [if_neg (by omega),if_neg (by omega),q2]⟩
end Go.Proofs.Ytoocnmfodhnpbaa
/- Letters and ways in texts: the program. -/
namespace Go.Proofs.Ytoocnmfodhnpbaa
open Go.EG
attribute [local irreducible] CallK QCall Go.Calls
set_option linter.unusedSimpArgs false
set_option linter.unusedVariables false
set_option maxRecDepth 20000
set_option maxHeartbeats 1000000
def atRes (S : Sto) (n i : Int) : Value := if known S n ∧ 0 ≤ i ∧ i < (tm S.E n).len then .tuple #[.int .u8 ((tm S.E n).txt.getD i.toNat 0 : Nat),.nilIface] else .tuple #[.int .u8 0,errV 1]
structure AtG where
  id : Int
  i : Nat
  fp : List Nat
theorem calls_At (b : Nat) (S : Sto) (hw : WF S) (n i : Int) : SC fn_access_At #[pS b,.int .i64 n,.int .i64 i] b S S (atRes S n i) := by
  intro key fp w hR
  refine part_call [.v (pS b),.v (.int .i64 n),.v (.int .i64 i)] ok_access_At (by simp) (hR.key 77) ?_
  have hsm := hw.small
  have c0 := calls_SWeight b S n hsm
  unfold wtRes at c0
  unfold atRes
  by_cases hk : known S n
  case neg =>
    rw [if_neg hk] at c0
    rw [if_neg (fun h => hk h.1)]
    (repeat' ((conv => whnf); first | refine SC.go 77 c0 rfl fun fp' => ?_ | (refine bcase_prop (fun h => ?_) (fun h => ?_) <;> try (exfalso; omega)) | (refine bcase_nprop (fun h => ?_) (fun h => ?_) <;> try (exfalso; omega)) | (refine bcase_intro (fun h => ?_) (fun h => ?_) <;> (try simp only [Bool.not_eq_true',Bool.not_eq_false',decide_eq_true_eq,decide_eq_false_iff_not,Bool.not_eq_true,Bool.not_eq_false,Decidable.not_not] at h)) | refine pay ?_ | intro _)); (all_goals (conv => whnf))
    exact ⟨endP (by (repeat (first | exact Thin.nil _ | exact Thin.refl _ | refine Thin.keep rfl (fun _ h => h) ?_ | refine Thin.skip ?_))) rfl⟩
  rw [if_pos hk] at c0
  by_cases hi : 0 ≤ i ∧ i < (tm S.E n).len
  case neg =>
    rw [if_neg (fun h => hi h.2)]
    have hi' : ¬ (0 ≤ i ∧ i < ((tm S.E n).txt.length : Nat)) := hi
    (repeat' ((conv => whnf); first | refine SC.go 77 c0 rfl fun fp' => ?_ | (refine bcase_prop (fun h => ?_) (fun h => ?_) <;> try (exfalso; omega)) | (refine bcase_nprop (fun h => ?_) (fun h => ?_) <;> try (exfalso; omega)) | (refine bcase_intro (fun h => ?_) (fun h => ?_) <;> (try simp only [Bool.not_eq_true',Bool.not_eq_false',decide_eq_true_eq,decide_eq_false_iff_not,Bool.not_eq_true,Bool.not_eq_false,Decidable.not_not] at h)) | refine pay ?_ | intro _)); (all_goals (conv => whnf))
    all_goals first | (exfalso; omega) | exact ⟨endP (by (repeat (first | exact Thin.nil _ | exact Thin.refl _ | refine Thin.keep rfl (fun _ h => h) ?_ | refine Thin.skip ?_))) rfl⟩
  rw [if_pos ⟨hk,hi⟩]
  have hi' : 0 ≤ i ∧ i < ((tm S.E n).txt.length : Nat) := hi
  have hn1 : 1 ≤ n := by
    have := hk.1
    by_cases h0 : n = 0
    · subst h0; rw [tm_zero] at hi; simp [Tm.len,Tm.txt] at hi; omega
    · omega
  generalize hL : (tm S.E n).txt.getD i.toNat 0 = l at *
  (repeat' ((conv => whnf); first | refine SC.go 77 c0 rfl fun fp' => ?_ | (refine bcase_prop (fun h => ?_) (fun h => ?_) <;> try (exfalso; omega)) | (refine bcase_nprop (fun h => ?_) (fun h => ?_) <;> try (exfalso; omega)) | (refine bcase_intro (fun h => ?_) (fun h => ?_) <;> (try simp only [Bool.not_eq_true',Bool.not_eq_false',decide_eq_true_eq,decide_eq_false_iff_not,Bool.not_eq_true,Bool.not_eq_false,Decidable.not_not] at h)) | refine pay ?_ | intro _)); (all_goals (conv => whnf))
  refine VC_loop AtG (fun x => [(0,.v (pS b)),(1,.v (.int .i64 x.id)),(2,.v (.int .i64 x.i))]) (fun x => [packE 77 x.fp (fS b S)])
    (fun x => 1 ≤ x.id ∧ x.id ≤ S.E.length ∧ x.i < (tm S.E x.id).len ∧ (tm S.E x.id).txt.getD x.i 0 = l) (fun x => x.id.toNat) ⟨n,i.toNat,fp'⟩ ⟨hn1,hk.2,by dsimp only; omega,hL⟩ (by (repeat ((conv => whnf); refine And.intro (by first | exact rfl | exact vint_eq (by omega) | exact vint_eq (by (dsimp only; omega)) | exact vsl_eq (by omega) | exact vsl_eq (by first | (dsimp only; omega) | (simp; done) | (simp; omega))) ?_)); exact trivial) (Thin.ref (by (repeat (first | exact Thin.nil _ | exact Thin.refl _ | refine Thin.keep rfl (fun _ h => h) ?_ | refine Thin.skip ?_)))) ?_
  rintro ⟨m,j,fpx⟩ ⟨h1,h2,h3,h4⟩
  dsimp only at h1 h2 h3 h4 ⊢
  have c1 := calls_Rule b S m hsm
  rw [ruleV_ok h1 h2] at c1
  have hlm := hw.le h2
  have hlet := (hw.at_ h1 h2).2.1
  rcases hw.below h1 h2 with ⟨hk1,ht⟩ | ⟨hk1,ht,a1,a2,b1,b2⟩ | ⟨hk1,ht,a1,a2,t2⟩
  · rw [ht] at h3 h4
    have hj : j = 0 := by simp only [Tm.len,Tm.txt,List.length_cons,List.length_nil] at h3; omega
    subst hj
    have hl : (l : Int) = (atE S.E m).r.l := by
      simp only [Tm.txt,List.getD_cons_zero] at h4; omega
    (repeat' ((conv => whnf); first | refine SC.go 77 c1 rfl fun fp' => ?_ | (refine bcase_prop (fun h => ?_) (fun h => ?_) <;> try (exfalso; omega)) | (refine bcase_nprop (fun h => ?_) (fun h => ?_) <;> try (exfalso; omega)) | (refine bcase_intro (fun h => ?_) (fun h => ?_) <;> (try simp only [Bool.not_eq_true',Bool.not_eq_false',decide_eq_true_eq,decide_eq_false_iff_not,Bool.not_eq_true,Bool.not_eq_false,Decidable.not_not] at h)) | refine pay ?_ | intro _)); (all_goals (conv => whnf))
    exact ⟨endP (by (repeat (first | exact Thin.nil _ | exact Thin.refl _ | refine Thin.keep rfl (fun _ h => h) ?_ | refine Thin.skip ?_))) (by rw [hl])⟩
  · have c2 := calls_SWeight b S (atE S.E m).r.a hsm
    rw [wtRes_ok ⟨by omega,by omega⟩] at c2
    have hp := hw.pos1 a1 (by omega)
    have hla := hw.le (n := (atE S.E m).r.a) (by omega)
    have c3 := calls_below (atE S.E m).r (tm S.E (atE S.E m).r.a).len j hp hla (by unfold LM at *; omega)
    rw [if_neg (by omega)] at c3
    rw [ht,Tm.len_pr] at h3
    rw [ht] at h4
    by_cases hlt : j < (tm S.E (atE S.E m).r.a).len
    · rw [if_pos hlt] at c3
      rw [Tm.at_left hlt] at h4
      unfold Tm.len at c3 hlt
      (repeat' ((conv => whnf); first | refine SC.go 77 c1 rfl fun fp' => ?_ | refine SC.go 77 c2 rfl fun fp' => ?_ | (first | refine puK c3 ?_ | refine quK c3 ?_) | (refine bcase_prop (fun h => ?_) (fun h => ?_) <;> try (exfalso; omega)) | (refine bcase_nprop (fun h => ?_) (fun h => ?_) <;> try (exfalso; omega)) | (refine bcase_intro (fun h => ?_) (fun h => ?_) <;> (try simp only [Bool.not_eq_true',Bool.not_eq_false',decide_eq_true_eq,decide_eq_false_iff_not,Bool.not_eq_true,Bool.not_eq_false,Decidable.not_not] at h)) | refine pay ?_ | intro _)); (all_goals (conv => whnf))
      refine loop_next ⟨(atE S.E m).r.a,j,fp'⟩ ⟨a1,by dsimp only; omega,hlt,h4⟩ (by ((try dsimp only); omega)) (by (repeat ((conv => whnf); refine And.intro (by first | exact rfl | exact vint_eq (by omega) | exact vint_eq (by (dsimp only; omega)) | exact vsl_eq (by omega) | exact vsl_eq (by first | (dsimp only; omega) | (simp; done) | (simp; omega))) ?_)); exact trivial) (Thin.ref (by (repeat (first | exact Thin.nil _ | exact Thin.refl _ | refine Thin.keep rfl (fun _ h => h) ?_ | refine Thin.skip ?_))))
    · rw [if_neg hlt] at c3
      rw [Tm.at_right hlt] at h4
      have h5 : j - (tm S.E (atE S.E m).r.a).len < (tm S.E (atE S.E m).r.b).len := by omega
      unfold Tm.len at c3
      (repeat' ((conv => whnf); first | refine SC.go 77 c1 rfl fun fp' => ?_ | refine SC.go 77 c2 rfl fun fp' => ?_ | (first | refine puK c3 ?_ | refine quK c3 ?_) | (refine bcase_prop (fun h => ?_) (fun h => ?_) <;> try (exfalso; omega)) | (refine bcase_nprop (fun h => ?_) (fun h => ?_) <;> try (exfalso; omega)) | (refine bcase_intro (fun h => ?_) (fun h => ?_) <;> (try simp only [Bool.not_eq_true',Bool.not_eq_false',decide_eq_true_eq,decide_eq_false_iff_not,Bool.not_eq_true,Bool.not_eq_false,Decidable.not_not] at h)) | refine pay ?_ | intro _)); (all_goals (conv => whnf))
      refine loop_next ⟨(atE S.E m).r.b,j - (tm S.E (atE S.E m).r.a).len,fp'⟩ ⟨b1,by dsimp only; omega,h5,h4⟩ (by ((try dsimp only); omega)) (by (repeat ((conv => whnf); refine And.intro (by first | exact rfl | exact vint_eq (by omega) | exact vint_eq (by (dsimp only; omega)) | exact vsl_eq (by omega) | exact vsl_eq (by first | (dsimp only; omega) | (simp; done) | (simp; omega))) ?_)); exact trivial) (Thin.ref (by (repeat (first | exact Thin.nil _ | exact Thin.refl _ | refine Thin.keep rfl (fun _ h => h) ?_ | refine Thin.skip ?_))))
  · have c2 := calls_SWeight b S (atE S.E m).r.a hsm
    rw [wtRes_ok ⟨by omega,by omega⟩] at c2
    have hp := hw.pos1 a1 (by omega)
    have hla := hw.le (n := (atE S.E m).r.a) (by omega)
    have c3 := calls_below (atE S.E m).r (tm S.E (atE S.E m).r.a).len j hp hla (by unfold LM at *; omega)
    rw [if_pos hk1] at c3
    rw [ht,Tm.len_pw] at h3
    rw [ht,Tm.at_pow h3] at h4
    have h5 := Nat.mod_lt j (show 0 < (tm S.E (atE S.E m).r.a).len by omega)
    unfold Tm.len at c3
    (repeat' ((conv => whnf); first | refine SC.go 77 c1 rfl fun fp' => ?_ | refine SC.go 77 c2 rfl fun fp' => ?_ | (first | refine puK c3 ?_ | refine quK c3 ?_) | (refine bcase_prop (fun h => ?_) (fun h => ?_) <;> try (exfalso; omega)) | (refine bcase_nprop (fun h => ?_) (fun h => ?_) <;> try (exfalso; omega)) | (refine bcase_intro (fun h => ?_) (fun h => ?_) <;> (try simp only [Bool.not_eq_true',Bool.not_eq_false',decide_eq_true_eq,decide_eq_false_iff_not,Bool.not_eq_true,Bool.not_eq_false,Decidable.not_not] at h)) | refine pay ?_ | intro _)); (all_goals (conv => whnf))
    refine loop_next ⟨(atE S.E m).r.a,j % (tm S.E (atE S.E m).r.a).len,fp'⟩ ⟨a1,by dsimp only; omega,h5,h4⟩ (by ((try dsimp only); omega)) (by (repeat ((conv => whnf); refine And.intro (by first | exact rfl | exact vint_eq (by omega) | exact vint_eq (by (dsimp only; omega)) | exact vsl_eq (by omega) | exact vsl_eq (by first | (dsimp only; omega) | (simp; done) | (simp; omega))) ?_)); exact trivial) (Thin.ref (by (repeat (first | exact Thin.nil _ | exact Thin.refl _ | refine Thin.keep rfl (fun _ h => h) ?_ | refine Thin.skip ?_))))
end Go.Proofs.Ytoocnmfodhnpbaa
/- The parts of a range: the program. -/
namespace Go.Proofs.Ytoocnmfodhnpbaa
open Go.EG
attribute [local irreducible] CallK QCall Go.Calls
set_option linter.unusedSimpArgs false
set_option linter.unusedVariables false
set_option maxRecDepth 20000
set_option maxHeartbeats 2000000
structure ParG where
  st : List Spn
  acc : List Nat
  a : Option Addr
  c : Nat
  fp1 : List Nat
  fp2 : List Nat
end Go.Proofs.Ytoocnmfodhnpbaa
/- Lists of makes: the reference's functions. -/
namespace Go.Proofs.Ytoocnmfodhnpbaa
open Go.EG
attribute [local irreducible] CallK QCall Go.Calls
set_option linter.unusedSimpArgs false
set_option linter.unusedVariables false
set_option maxRecDepth 20000
set_option maxHeartbeats 4000000
def lensI (ms : List Tm) : List Int := ms.map fun m => (m.len : Int)
theorem lensI_snoc (ms : List Tm) (m : Tm) : ints .i64 (lensI ms) ++ [.int .i64 (m.len : Int)] = ints .i64 (lensI (ms ++ [m])) := by simp [lensI,ints]
abbrev ruE (E : List Entr) : List Value := rulsC (E.map (·.r))
abbrev leE (E : List Entr) : List Value := ints .i64 (lensI (E.map (·.m)))
abbrev stV (n : Nat) (a1 : Option Addr) (c1 : Nat) (a2 : Option Addr) (c2 : Nat) : Value := .agg #[.slice a1 n c1,.slice a2 n c2]
theorem ruE_length (E : List Entr) : (ruE E).length = E.length * 5 := by rw [rulsC_length]; simp
theorem leE_length (E : List Entr) : (leE E).length = E.length := by simp [leE,lensI,ints_length]
theorem getD_map_r {E : List Entr} {i : Nat} (h : i < E.length) : (E.map (·.r)).getD i rul0 = (E.getD i ent0).r := by
  simp [List.getD_eq_getElem?_getD,h]
theorem ruE_at {E : List Entr} {i : Nat} (h : i < E.length) : ((ruE E).drop (i * 5)).take 5 = ruC (E.getD i ent0).r := by
  rw [rulsC_at (by simpa using h),getD_map_r h]
theorem ruE_snoc (E : List Entr) (x : Entr) : ruE E ++ ruC x.r = ruE (E ++ [x]) := by
  unfold ruE
  rw [rulsC_snoc,List.map_append]; rfl
theorem leE_snoc (E : List Entr) (x : Entr) : leE E ++ [.int .i64 (x.m.len : Int)] = leE (E ++ [x]) := by
  unfold leE
  rw [lensI_snoc,List.map_append]; rfl
theorem leE_at {E : List Entr} {n : Int} (h1 : 1 ≤ n) (h2 : n ≤ E.length) : (leE E)[(n - 1).toNat]? = some (.int .i64 ((tm E n).len : Int)) := by
  have hlt : (n - 1).toNat < E.length := by omega
  unfold leE lensI ints tm
  rw [atE_pos (by omega),List.getElem?_map,List.getElem?_map,List.getElem?_map,List.getElem?_eq_getElem hlt,show n.toNat - 1 = (n - 1).toNat by omega,List.getD_eq_getElem?_getD,List.getElem?_eq_getElem hlt]
  rfl
theorem oneAll_ru (E : List Entr) : oneAll (ruE E) := by
  induction E with
  | nil => exact trivial
  | cons x E ih =>
    show oneAll (ruC x.r ++ rulsC (E.map (·.r)))
    exact ⟨trivial,trivial,trivial,trivial,trivial,ih⟩
theorem oneAll_ints' (k : IntKind) (l : List Int) : oneAll (ints k l) := by
  induction l with
  | nil => exact trivial
  | cons x l ih => exact ⟨trivial,ih⟩
def oneQ (E E' : List Entr) (id : Int) (a1 : Option Addr) (c1 : Nat) (a2 : Option Addr) (c2 : Nat) (v : Value) (L1 : List Ent) : Prop :=
  (E' = E ∧ v = .tuple #[stV E.length a1 c1 a2 c2,.int .i64 id] ∧ L1 = []) ∨
  (∃ a1' c1' a2' c2',v = .tuple #[stV E'.length a1' c1' a2' c2',.int .i64 id] ∧ L1 = [.own 801 a1' E'.length c1' ty_api_Rule 5 (ruE E'),.own 802 a2' E'.length c2' ty_int 1 (leE E')])
theorem endOld {w0 : World} {fp0 : List Nat} {L : List Ent} {E E' : List Entr} {id : Int} {a1 a2 : Option Addr} {c1 c2 : Nat} {v : Value} (hE : E' = E) (hv : v = .tuple #[stV E.length a1 c1 a2 c2,.int .i64 id]) : ∃ L1,Ref w0 fp0 L L1 ∧ oneQ E E' id a1 c1 a2 c2 v L1 :=
  ⟨[],Thin.ref (.nil _),.inl ⟨hE,hv,rfl⟩⟩
theorem endNew {w0 : World} {fp0 : List Nat} {L L1 L2 : List Ent} {E E' : List Entr} {id id' : Int} {a1 a2 a1' a2' : Option Addr} {c1 c2 c1' c2' : Nat} {v : Value} (k1 k2 : Nat) {n1 n2 : Nat} {x1 x2 : List Value} (h1 : pickO k1 L = some (.own k1 a1' n1 c1' ty_api_Rule 5 x1,L1)) (h2 : pickO k2 L1 = some (.own k2 a2' n2 c2' ty_int 1 x2,L2))
    (e1 : n1 = E'.length) (e2 : x1 = ruE E') (e3 : n2 = E'.length) (e4 : x2 = leE E') (hid : id' = id) (hv : v = .tuple #[.agg #[.slice a1' n1 c1',.slice a2' n2 c2'],.int .i64 id']) : ∃ L1,Ref w0 fp0 L L1 ∧ oneQ E E' id a1 c1 a2 c2 v L1 := by
  refine ⟨_,Ref.two k1 k2 (k1' := 801) (k2' := 802) h1 h2 e1 e2 e3 e4,.inr ⟨a1',c1',a2',c2',?_,rfl⟩⟩
  subst hid e1
  rw [hv,e3]
theorem calls_Pick (n : Int) (many : Nat) (h : 0 < many) (hm : many ≤ 9223372036854775807) (hn : -9223372036854775808 ≤ n ∧ n ≤ 9223372036854775807) (w : World) : Calls Try.prog fn_evergreenref12_Pick #[.int .i64 n,.int .i64 many] w fun e w' => e = .returned (.int .i64 (pickF n many : Nat)) ∧ Ext w w' := by
  refine pure_call [.v (.int .i64 n),.v (.int .i64 many)] w ok_evergreenref12_Pick (by simp) ?_
  unfold pickF
  have e1 := Int.emod_nonneg n (show (many : Int) ≠ 0 by omega)
  have e2 := Int.emod_lt_of_pos n (show (0 : Int) < many by omega)
  have e3 : n.tmod many = n % many ∨ n.tmod many + many = n % many := by
    rw [Int.tmod_eq_emod]
    split <;> omega
  have e4 : n.tmod many < many := Int.tmod_lt_of_pos n (by omega)
  generalize n % many = p at *
  (repeat' ((conv => whnf); first | (refine bcase_prop (fun h => ?_) (fun h => ?_) <;> try (exfalso; omega)) | (refine bcase_nprop (fun h => ?_) (fun h => ?_) <;> try (exfalso; omega)) | (refine bcase_intro (fun h => ?_) (fun h => ?_) <;> (try simp only [Bool.not_eq_true',Bool.not_eq_false',decide_eq_true_eq,decide_eq_false_iff_not,Bool.not_eq_true,Bool.not_eq_false,Decidable.not_not] at h)) | refine pay ?_ | refine And.intro (by first | (dsimp only; omega) | (dsimp only at *; omega)) ?_ | intro _)); (all_goals (conv => whnf))
  all_goals (refine ⟨?_⟩; (try dsimp only at *); congr 1; omega)
theorem calls_Length {a1 a2 : Option Addr} {c1 c2 : Nat} (E : List Entr) (hE : E.length ≤ 1048576) {n : Int} (h0 : 0 ≤ n) (h1 : n ≤ E.length) (w : World) (h2 : In w [] a2 (leE E)) : Calls Try.prog fn_evergreenref12_Length #[stV E.length a1 c1 a2 c2,.int .i64 n] w fun e w' => e = .returned (.int .i64 ((tm E n).len : Nat)) ∧ Ext w w' := by
  refine pure_call [.v (stV E.length a1 c1 a2 c2),.v (.int .i64 n)] w ok_evergreenref12_Length (by simp) ?_
  by_cases hz : n = 0
  · subst hz
    (repeat' ((conv => whnf); first | refine ⟨.v _,⟨rfl,trivial⟩,?_⟩ | (refine bcase_prop (fun h => ?_) (fun h => ?_) <;> try (exfalso; omega)) | (refine bcase_nprop (fun h => ?_) (fun h => ?_) <;> try (exfalso; omega)) | (refine bcase_intro (fun h => ?_) (fun h => ?_) <;> (try simp only [Bool.not_eq_true',Bool.not_eq_false',decide_eq_true_eq,decide_eq_false_iff_not,Bool.not_eq_true,Bool.not_eq_false,Decidable.not_not] at h)) | refine pay ?_ | intro _)); (all_goals (conv => whnf))
    exact ⟨rfl⟩
  · have hat := leE_at (E := E) (n := n) (by omega) h1
    have rd := fun {L : List Ent} => h2.rd (L := L) hat
    have hne : a2 ≠ none := h2.ne' (k := (n - 1).toNat) (by rw [leE_length]; omega)
    (repeat' ((conv => whnf); first | rw [Nat.mul_one] | refine ⟨_,rd,?_⟩ | refine ⟨.v _,⟨rfl,trivial⟩,?_⟩ | (refine bcase_prop (fun h => ?_) (fun h => ?_) <;> try (exfalso; omega)) | (refine bcase_nprop (fun h => ?_) (fun h => ?_) <;> try (exfalso; omega)) | (refine bcase_intro (fun h => ?_) (fun h => ?_) <;> (try simp only [Bool.not_eq_true',Bool.not_eq_false',decide_eq_true_eq,decide_eq_false_iff_not,Bool.not_eq_true,Bool.not_eq_false,Decidable.not_not] at h)) | refine pay ?_ | refine And.intro (by first | exact hne) ?_ | intro _)); (all_goals (conv => whnf))
    exact ⟨rfl⟩
theorem refPick {w0 : World} {fp0 : List Nat} {L Lr : List Ent} {e : Ent} (key : Nat) (h : pickE key L = some (e,Lr)) : Ref w0 fp0 L (e :: Lr) := Ref.perm (pickE_perm h)
theorem ints_snoc (k : IntKind) (l : List Int) (x : Int) : ints k l ++ [.int k x] = ints k (l ++ [x]) := by simp [ints]
end Go.Proofs.Ytoocnmfodhnpbaa
/- A rule is added to the reference's list: the last statement,in any order (written by a program,addgen.py). -/
namespace Go.Proofs.Ytoocnmfodhnpbaa
open Go.EG
attribute [local irreducible] CallK QCall Go.Calls
set_option linter.unusedSimpArgs false
set_option linter.unusedVariables false
set_option maxRecDepth 20000
set_option maxHeartbeats 4000000
section
structure AddH (w : World) (K : Env → List Ent → Prop) (Lb Lh : List Ent) (E : List Entr) (r : Rul) (N : Nat) (a1 a2 : Option Addr) (c1 c2 b6 : Nat) (xs ys : List Value) : Prop where
  hE : E.length ≤ 1048576
  th : Thin Lh Lb
  o1 : oneAll xs
  o2 : oneAll ys
  rs : ∀ L,RdS w [] L a1 (E.length * 5) xs
  rl : ∀ L,RdS w [] L a2 (E.length * 1) ys
  lx : xs.length = E.length * 5
  fin : ∀ (q1 : Option Addr) (q2 : Nat) (z1 : Option Addr) (z2 : Nat),VT Try.prog w [] ops_evergreenref12_Add_6 K tr_evergreenref12_Add_0 Lb [(40,.v (.agg #[.slice q1 (E.length + 1) q2,.slice z1 (E.length + 1) z2])),(44,.v (.int .i64 ((E.length : Int) + 1))),(6,.ptr 6 b6 0)] (.own 26 q1 (E.length + 1) q2 ty_api_Rule 5 (xs ++ ruC r) :: .own 33 z1 (E.length + 1) z2 ty_int 1 (ys ++ [.int .i64 N]) :: Lh)
variable {w : World} {K : Env → List Ent → Prop} {Lb Lh : List Ent} {E : List Entr} {r : Rul} {N : Nat} {a1 a2 : Option Addr} {c1 c2 b6 : Nat} {xs ys : List Value}
theorem add_0 (h : AddH w K Lb Lh E r N a1 a2 c1 c2 b6 xs ys) : ∀ (q1 : Option Addr) (q2 : Nat) (z1 : Option Addr) (z2 : Nat),VT Try.prog w [] ops_evergreenref12_Add_6 K tr_evergreenref12_Add_0 Lb [(40,.v (.agg #[.slice q1 (E.length + 1) q2,.slice z1 (E.length + 1) z2])),(44,.v (.int .i64 ((E.length : Int) + 1))),(6,.ptr 6 b6 0)] (.own 26 q1 (E.length + 1) q2 ty_api_Rule 5 (xs ++ ruC r) :: .own 33 z1 (E.length + 1) z2 ty_int 1 (ys ++ [.int .i64 N]) :: Lh) := h.fin
theorem add_1 (h : AddH w K Lb Lh E r N a1 a2 c1 c2 b6 xs ys) : ∀ (q1 : Option Addr) (q2 : Nat) (z1 : Option Addr) (z2 : Nat) (z3 : Option Addr),VT Try.prog w [] ops_evergreenref12_Add_6 K tr_evergreenref12_Add_1 Lb [(32,.sl 26 q1 (E.length + 1) q2),(36,.sl 33 z1 E.length z2),(38,.sl 38 z3 1 1),(28,.v (.slice a1 E.length c1)),(30,.v (ruV r)),(35,.v (.slice a2 E.length c2)),(37,.v (.int .i64 N)),(44,.v (.int .i64 ((E.length : Int) + 1))),(6,.ptr 6 b6 0)] (.own 26 q1 (E.length + 1) q2 ty_api_Rule 5 (xs ++ ruC r) :: .own 33 z1 E.length z2 ty_int 1 ys :: .own 38 z3 1 1 ty_int 1 ([.int .i64 N]) :: Lh) := by
  have hE := h.hE
  have o1 := h.o1
  have o2 := h.o2
  intro q1 q2 z1 z2 z3
  (repeat' ((conv => whnf); first | refine ⟨xs,h.rs _,?_⟩ | refine ⟨ys,h.rl _,?_⟩ | refine And.intro (by first | exact o1 | exact o2 | exact fun _ => Thin.ref (.skip (h.th)) | exact fun _ => Thin.ref (.skip (.skip (h.th))) | exact fun _ => Thin.ref (.skip (.skip (.skip (h.th)))) | exact fun _ => Thin.ref (.skip (.skip (.skip (.skip (h.th))))) | exact Thin.ref (.skip (h.th)) | exact Thin.ref (.skip (.skip (h.th))) | exact Thin.ref (.skip (.skip (.skip (h.th)))) | exact Thin.ref (.skip (.skip (.skip (.skip (h.th))))) | exact ⟨rfl,oneAll_of rfl⟩ | exact oneAll_of rfl | exact rfl | exact ⟨rfl,rfl,rfl,rfl⟩ | exact ⟨rfl,rfl,rfl,rfl,rfl⟩ | exact ⟨by unfold maxLen; omega,by omega⟩ | omega) ?_ | intro _)); refine VC_can (t := tr_evergreenref12_Add_0) _ _ (by (repeat ((conv => whnf); refine And.intro (by first | exact rfl | exact vint_eq (by omega) | exact vint_eq (by (dsimp only; omega)) | exact vsl_eq (by omega) | exact vsl_eq (by first | (dsimp only; omega) | (simp; done) | (simp; omega))) ?_)); exact trivial) (Thin.ref (.own (by omega) rfl (.own (by omega) rfl (.skip (Thin.refl _))))) (add_0 h _ _ _ _)
theorem add_2 (h : AddH w K Lb Lh E r N a1 a2 c1 c2 b6 xs ys) : ∀ (q1 : Option Addr) (q2 : Nat) (z1 : Option Addr) (z2 : Nat),VT Try.prog w [] ops_evergreenref12_Add_6 K tr_evergreenref12_Add_2 Lb [(32,.sl 26 q1 (E.length + 1) q2),(36,.sl 33 z1 E.length z2),(28,.v (.slice a1 E.length c1)),(30,.v (ruV r)),(35,.v (.slice a2 E.length c2)),(37,.v (.int .i64 N)),(44,.v (.int .i64 ((E.length : Int) + 1))),(6,.ptr 6 b6 0)] (.own 26 q1 (E.length + 1) q2 ty_api_Rule 5 (xs ++ ruC r) :: .own 33 z1 E.length z2 ty_int 1 ys :: Lh) := by
  have hE := h.hE
  have o1 := h.o1
  have o2 := h.o2
  intro q1 q2 z1 z2
  (repeat' ((conv => whnf); first | refine ⟨xs,h.rs _,?_⟩ | refine ⟨ys,h.rl _,?_⟩ | refine And.intro (by first | exact o1 | exact o2 | exact fun _ => Thin.ref (.skip (h.th)) | exact fun _ => Thin.ref (.skip (.skip (h.th))) | exact fun _ => Thin.ref (.skip (.skip (.skip (h.th)))) | exact fun _ => Thin.ref (.skip (.skip (.skip (.skip (h.th))))) | exact Thin.ref (.skip (h.th)) | exact Thin.ref (.skip (.skip (h.th))) | exact Thin.ref (.skip (.skip (.skip (h.th)))) | exact Thin.ref (.skip (.skip (.skip (.skip (h.th))))) | exact ⟨rfl,oneAll_of rfl⟩ | exact oneAll_of rfl | exact rfl | exact ⟨rfl,rfl,rfl,rfl⟩ | exact ⟨rfl,rfl,rfl,rfl,rfl⟩ | exact ⟨by unfold maxLen; omega,by omega⟩ | omega) ?_ | intro _)); refine VC_can (t := tr_evergreenref12_Add_1) _ _ (by (repeat ((conv => whnf); refine And.intro (by first | exact rfl | exact vint_eq (by omega) | exact vint_eq (by (dsimp only; omega)) | exact vsl_eq (by omega) | exact vsl_eq (by first | (dsimp only; omega) | (simp; done) | (simp; omega))) ?_)); exact trivial) ((Ref.perm (.trans (.swap _ _ _) (.cons _ (.swap _ _ _)))).trans (Thin.ref (.own (by omega) rfl (.own (by omega) rfl (.own (by omega) rfl (Thin.refl _)))))) (add_1 h _ _ _ _ _)
theorem add_3 (h : AddH w K Lb Lh E r N a1 a2 c1 c2 b6 xs ys) : ∀ (q1 : Option Addr) (q2 : Nat) (z1 : Option Addr) (z2 : Nat) (z3 : Option Addr),VT Try.prog w [] ops_evergreenref12_Add_6 K tr_evergreenref12_Add_3 Lb [(32,.sl 26 q1 (E.length + 1) q2),(33,.sl 33 z1 0 z2),(38,.sl 38 z3 1 1),(28,.v (.slice a1 E.length c1)),(30,.v (ruV r)),(35,.v (.slice a2 E.length c2)),(37,.v (.int .i64 N)),(44,.v (.int .i64 ((E.length : Int) + 1))),(6,.ptr 6 b6 0)] (.own 26 q1 (E.length + 1) q2 ty_api_Rule 5 (xs ++ ruC r) :: .own 33 z1 0 z2 ty_int 1 [] :: .own 38 z3 1 1 ty_int 1 ([.int .i64 N]) :: Lh) := by
  have hE := h.hE
  have o1 := h.o1
  have o2 := h.o2
  intro q1 q2 z1 z2 z3
  (repeat' ((conv => whnf); first | refine ⟨xs,h.rs _,?_⟩ | refine ⟨ys,h.rl _,?_⟩ | refine And.intro (by first | exact o1 | exact o2 | exact fun _ => Thin.ref (.skip (h.th)) | exact fun _ => Thin.ref (.skip (.skip (h.th))) | exact fun _ => Thin.ref (.skip (.skip (.skip (h.th)))) | exact fun _ => Thin.ref (.skip (.skip (.skip (.skip (h.th))))) | exact Thin.ref (.skip (h.th)) | exact Thin.ref (.skip (.skip (h.th))) | exact Thin.ref (.skip (.skip (.skip (h.th)))) | exact Thin.ref (.skip (.skip (.skip (.skip (h.th))))) | exact ⟨rfl,oneAll_of rfl⟩ | exact oneAll_of rfl | exact rfl | exact ⟨rfl,rfl,rfl,rfl⟩ | exact ⟨rfl,rfl,rfl,rfl,rfl⟩ | exact ⟨by unfold maxLen; omega,by omega⟩ | omega) ?_ | intro _)); refine VC_can (t := tr_evergreenref12_Add_1) _ _ (by (repeat ((conv => whnf); refine And.intro (by first | exact rfl | exact vint_eq (by omega) | exact vint_eq (by (dsimp only; omega)) | exact vsl_eq (by omega) | exact vsl_eq (by first | (dsimp only; omega) | (simp; done) | (simp; omega))) ?_)); exact trivial) (Thin.ref (.own (by omega) rfl (.own (by omega) rfl (.own (by omega) rfl (Thin.refl _))))) (add_1 h _ _ _ _ _)
theorem add_4 (h : AddH w K Lb Lh E r N a1 a2 c1 c2 b6 xs ys) : ∀ (q1 : Option Addr) (q2 : Nat) (z1 : Option Addr) (z2 : Nat),VT Try.prog w [] ops_evergreenref12_Add_6 K tr_evergreenref12_Add_4 Lb [(32,.sl 26 q1 (E.length + 1) q2),(33,.sl 33 z1 0 z2),(28,.v (.slice a1 E.length c1)),(30,.v (ruV r)),(35,.v (.slice a2 E.length c2)),(37,.v (.int .i64 N)),(44,.v (.int .i64 ((E.length : Int) + 1))),(6,.ptr 6 b6 0)] (.own 26 q1 (E.length + 1) q2 ty_api_Rule 5 (xs ++ ruC r) :: .own 33 z1 0 z2 ty_int 1 [] :: Lh) := by
  have hE := h.hE
  have o1 := h.o1
  have o2 := h.o2
  intro q1 q2 z1 z2
  (conv => whnf)
  refine stop_and ?_ ?_
  · (repeat' ((conv => whnf); first | refine ⟨xs,h.rs _,?_⟩ | refine ⟨ys,h.rl _,?_⟩ | refine And.intro (by first | exact o1 | exact o2 | exact fun _ => Thin.ref (.skip (h.th)) | exact fun _ => Thin.ref (.skip (.skip (h.th))) | exact fun _ => Thin.ref (.skip (.skip (.skip (h.th)))) | exact fun _ => Thin.ref (.skip (.skip (.skip (.skip (h.th))))) | exact Thin.ref (.skip (h.th)) | exact Thin.ref (.skip (.skip (h.th))) | exact Thin.ref (.skip (.skip (.skip (h.th)))) | exact Thin.ref (.skip (.skip (.skip (.skip (h.th))))) | exact ⟨rfl,oneAll_of rfl⟩ | exact oneAll_of rfl | exact rfl | exact ⟨rfl,rfl,rfl,rfl⟩ | exact ⟨rfl,rfl,rfl,rfl,rfl⟩ | exact ⟨by unfold maxLen; omega,by omega⟩ | omega) ?_ | intro _)); refine VC_can (t := tr_evergreenref12_Add_2) _ _ (by (repeat ((conv => whnf); refine And.intro (by first | exact rfl | exact vint_eq (by omega) | exact vint_eq (by (dsimp only; omega)) | exact vsl_eq (by omega) | exact vsl_eq (by first | (dsimp only; omega) | (simp; done) | (simp; omega))) ?_)); exact trivial) (Thin.ref (.own (by omega) rfl (.own (by omega) rfl (Thin.refl _)))) (add_2 h _ _ _ _)
  (repeat' ((conv => whnf); first | refine ⟨xs,h.rs _,?_⟩ | refine ⟨ys,h.rl _,?_⟩ | refine And.intro (by first | exact o1 | exact o2 | exact fun _ => Thin.ref (.skip (h.th)) | exact fun _ => Thin.ref (.skip (.skip (h.th))) | exact fun _ => Thin.ref (.skip (.skip (.skip (h.th)))) | exact fun _ => Thin.ref (.skip (.skip (.skip (.skip (h.th))))) | exact Thin.ref (.skip (h.th)) | exact Thin.ref (.skip (.skip (h.th))) | exact Thin.ref (.skip (.skip (.skip (h.th)))) | exact Thin.ref (.skip (.skip (.skip (.skip (h.th))))) | exact ⟨rfl,oneAll_of rfl⟩ | exact oneAll_of rfl | exact rfl | exact ⟨rfl,rfl,rfl,rfl⟩ | exact ⟨rfl,rfl,rfl,rfl,rfl⟩ | exact ⟨by unfold maxLen; omega,by omega⟩ | omega) ?_ | intro _)); refine VC_can (t := tr_evergreenref12_Add_3) _ _ (by (repeat ((conv => whnf); refine And.intro (by first | exact rfl | exact vint_eq (by omega) | exact vint_eq (by (dsimp only; omega)) | exact vsl_eq (by omega) | exact vsl_eq (by first | (dsimp only; omega) | (simp; done) | (simp; omega))) ?_)); exact trivial) ((Ref.perm (.trans (.swap _ _ _) (.cons _ (.swap _ _ _)))).trans (Thin.ref (.own (by omega) rfl (.own (by omega) rfl (.own (by omega) rfl (Thin.refl _)))))) (add_3 h _ _ _ _ _)
theorem add_5 (h : AddH w K Lb Lh E r N a1 a2 c1 c2 b6 xs ys) : ∀ (q1 : Option Addr) (q2 : Nat) (z3 : Option Addr),VT Try.prog w [] ops_evergreenref12_Add_6 K tr_evergreenref12_Add_5 Lb [(32,.sl 26 q1 (E.length + 1) q2),(38,.sl 38 z3 1 1),(28,.v (.slice a1 E.length c1)),(30,.v (ruV r)),(35,.v (.slice a2 E.length c2)),(37,.v (.int .i64 N)),(44,.v (.int .i64 ((E.length : Int) + 1))),(6,.ptr 6 b6 0)] (.own 26 q1 (E.length + 1) q2 ty_api_Rule 5 (xs ++ ruC r) :: .own 38 z3 1 1 ty_int 1 ([.int .i64 N]) :: Lh) := by
  have hE := h.hE
  have o1 := h.o1
  have o2 := h.o2
  intro q1 q2 z3
  (repeat' ((conv => whnf); first | refine ⟨xs,h.rs _,?_⟩ | refine ⟨ys,h.rl _,?_⟩ | refine And.intro (by first | exact o1 | exact o2 | exact fun _ => Thin.ref (.skip (h.th)) | exact fun _ => Thin.ref (.skip (.skip (h.th))) | exact fun _ => Thin.ref (.skip (.skip (.skip (h.th)))) | exact fun _ => Thin.ref (.skip (.skip (.skip (.skip (h.th))))) | exact Thin.ref (.skip (h.th)) | exact Thin.ref (.skip (.skip (h.th))) | exact Thin.ref (.skip (.skip (.skip (h.th)))) | exact Thin.ref (.skip (.skip (.skip (.skip (h.th))))) | exact ⟨rfl,oneAll_of rfl⟩ | exact oneAll_of rfl | exact rfl | exact ⟨rfl,rfl,rfl,rfl⟩ | exact ⟨rfl,rfl,rfl,rfl,rfl⟩ | exact ⟨by unfold maxLen; omega,by omega⟩ | omega) ?_ | intro _)); refine VC_can (t := tr_evergreenref12_Add_3) _ _ (by (repeat ((conv => whnf); refine And.intro (by first | exact rfl | exact vint_eq (by omega) | exact vint_eq (by (dsimp only; omega)) | exact vsl_eq (by omega) | exact vsl_eq (by first | (dsimp only; omega) | (simp; done) | (simp; omega))) ?_)); exact trivial) ((Ref.perm (.swap _ _ _)).trans (Thin.ref (.own (by omega) rfl (.own (by omega) rfl (.own (by omega) rfl (Thin.refl _)))))) (add_3 h _ _ _ _ _)
theorem add_6 (h : AddH w K Lb Lh E r N a1 a2 c1 c2 b6 xs ys) : ∀ (q1 : Option Addr) (q2 : Nat),VT Try.prog w [] ops_evergreenref12_Add_6 K tr_evergreenref12_Add_6 Lb [(32,.sl 26 q1 (E.length + 1) q2),(28,.v (.slice a1 E.length c1)),(30,.v (ruV r)),(35,.v (.slice a2 E.length c2)),(37,.v (.int .i64 N)),(44,.v (.int .i64 ((E.length : Int) + 1))),(6,.ptr 6 b6 0)] (.own 26 q1 (E.length + 1) q2 ty_api_Rule 5 (xs ++ ruC r) :: Lh) := by
  have hE := h.hE
  have o1 := h.o1
  have o2 := h.o2
  intro q1 q2
  (conv => whnf)
  refine stop_and ?_ ?_
  · (repeat' ((conv => whnf); first | refine ⟨xs,h.rs _,?_⟩ | refine ⟨ys,h.rl _,?_⟩ | refine And.intro (by first | exact o1 | exact o2 | exact fun _ => Thin.ref (.skip (h.th)) | exact fun _ => Thin.ref (.skip (.skip (h.th))) | exact fun _ => Thin.ref (.skip (.skip (.skip (h.th)))) | exact fun _ => Thin.ref (.skip (.skip (.skip (.skip (h.th))))) | exact Thin.ref (.skip (h.th)) | exact Thin.ref (.skip (.skip (h.th))) | exact Thin.ref (.skip (.skip (.skip (h.th)))) | exact Thin.ref (.skip (.skip (.skip (.skip (h.th))))) | exact ⟨rfl,oneAll_of rfl⟩ | exact oneAll_of rfl | exact rfl | exact ⟨rfl,rfl,rfl,rfl⟩ | exact ⟨rfl,rfl,rfl,rfl,rfl⟩ | exact ⟨by unfold maxLen; omega,by omega⟩ | omega) ?_ | intro _)); refine VC_can (t := tr_evergreenref12_Add_4) _ _ (by (repeat ((conv => whnf); refine And.intro (by first | exact rfl | exact vint_eq (by omega) | exact vint_eq (by (dsimp only; omega)) | exact vsl_eq (by omega) | exact vsl_eq (by first | (dsimp only; omega) | (simp; done) | (simp; omega))) ?_)); exact trivial) ((Ref.perm (.swap _ _ _)).trans (Thin.ref (.own (by omega) rfl (.own (by omega) rfl (Thin.refl _))))) (add_4 h _ _ _ _)
  (repeat' ((conv => whnf); first | refine ⟨xs,h.rs _,?_⟩ | refine ⟨ys,h.rl _,?_⟩ | refine And.intro (by first | exact o1 | exact o2 | exact fun _ => Thin.ref (.skip (h.th)) | exact fun _ => Thin.ref (.skip (.skip (h.th))) | exact fun _ => Thin.ref (.skip (.skip (.skip (h.th)))) | exact fun _ => Thin.ref (.skip (.skip (.skip (.skip (h.th))))) | exact Thin.ref (.skip (h.th)) | exact Thin.ref (.skip (.skip (h.th))) | exact Thin.ref (.skip (.skip (.skip (h.th)))) | exact Thin.ref (.skip (.skip (.skip (.skip (h.th))))) | exact ⟨rfl,oneAll_of rfl⟩ | exact oneAll_of rfl | exact rfl | exact ⟨rfl,rfl,rfl,rfl⟩ | exact ⟨rfl,rfl,rfl,rfl,rfl⟩ | exact ⟨by unfold maxLen; omega,by omega⟩ | omega) ?_ | intro _)); refine VC_can (t := tr_evergreenref12_Add_5) _ _ (by (repeat ((conv => whnf); refine And.intro (by first | exact rfl | exact vint_eq (by omega) | exact vint_eq (by (dsimp only; omega)) | exact vsl_eq (by omega) | exact vsl_eq (by first | (dsimp only; omega) | (simp; done) | (simp; omega))) ?_)); exact trivial) ((Ref.perm (.swap _ _ _)).trans (Thin.ref (.own (by omega) rfl (.own (by omega) rfl (Thin.refl _))))) (add_5 h _ _ _)
theorem add_7 (h : AddH w K Lb Lh E r N a1 a2 c1 c2 b6 xs ys) : ∀ (q1 : Option Addr) (q2 : Nat) (q3 : Option Addr) (z1 : Option Addr) (z2 : Nat) (z3 : Option Addr),VT Try.prog w [] ops_evergreenref12_Add_6 K tr_evergreenref12_Add_7 Lb [(29,.sl 26 q1 E.length q2),(31,.sl 31 q3 1 1),(33,.sl 33 z1 0 z2),(38,.sl 38 z3 1 1),(28,.v (.slice a1 E.length c1)),(30,.v (ruV r)),(35,.v (.slice a2 E.length c2)),(37,.v (.int .i64 N)),(44,.v (.int .i64 ((E.length : Int) + 1))),(6,.ptr 6 b6 0)] (.own 26 q1 E.length q2 ty_api_Rule 5 xs :: .own 31 q3 1 1 ty_api_Rule 5 (ruC r) :: .own 33 z1 0 z2 ty_int 1 [] :: .own 38 z3 1 1 ty_int 1 ([.int .i64 N]) :: Lh) := by
  have hE := h.hE
  have o1 := h.o1
  have o2 := h.o2
  intro q1 q2 q3 z1 z2 z3
  (repeat' ((conv => whnf); first | refine ⟨xs,h.rs _,?_⟩ | refine ⟨ys,h.rl _,?_⟩ | refine And.intro (by first | exact o1 | exact o2 | exact fun _ => Thin.ref (.skip (h.th)) | exact fun _ => Thin.ref (.skip (.skip (h.th))) | exact fun _ => Thin.ref (.skip (.skip (.skip (h.th)))) | exact fun _ => Thin.ref (.skip (.skip (.skip (.skip (h.th))))) | exact Thin.ref (.skip (h.th)) | exact Thin.ref (.skip (.skip (h.th))) | exact Thin.ref (.skip (.skip (.skip (h.th)))) | exact Thin.ref (.skip (.skip (.skip (.skip (h.th))))) | exact ⟨rfl,oneAll_of rfl⟩ | exact oneAll_of rfl | exact rfl | exact ⟨rfl,rfl,rfl,rfl⟩ | exact ⟨rfl,rfl,rfl,rfl,rfl⟩ | exact ⟨by unfold maxLen; omega,by omega⟩ | omega) ?_ | intro _)); refine VC_can (t := tr_evergreenref12_Add_3) _ _ (by (repeat ((conv => whnf); refine And.intro (by first | exact rfl | exact vint_eq (by omega) | exact vint_eq (by (dsimp only; omega)) | exact vsl_eq (by omega) | exact vsl_eq (by first | (dsimp only; omega) | (simp; done) | (simp; omega))) ?_)); exact trivial) (Thin.ref (.own (by omega) rfl (.skip (.own (by omega) rfl (.own (by omega) rfl (Thin.refl _)))))) (add_3 h _ _ _ _ _)
theorem add_8 (h : AddH w K Lb Lh E r N a1 a2 c1 c2 b6 xs ys) : ∀ (q1 : Option Addr) (q2 : Nat) (q3 : Option Addr) (z1 : Option Addr) (z2 : Nat),VT Try.prog w [] ops_evergreenref12_Add_6 K tr_evergreenref12_Add_8 Lb [(29,.sl 26 q1 E.length q2),(31,.sl 31 q3 1 1),(33,.sl 33 z1 0 z2),(28,.v (.slice a1 E.length c1)),(30,.v (ruV r)),(35,.v (.slice a2 E.length c2)),(37,.v (.int .i64 N)),(44,.v (.int .i64 ((E.length : Int) + 1))),(6,.ptr 6 b6 0)] (.own 26 q1 E.length q2 ty_api_Rule 5 xs :: .own 31 q3 1 1 ty_api_Rule 5 (ruC r) :: .own 33 z1 0 z2 ty_int 1 [] :: Lh) := by
  have hE := h.hE
  have o1 := h.o1
  have o2 := h.o2
  intro q1 q2 q3 z1 z2
  (conv => whnf)
  refine stop_and ?_ ?_
  · (repeat' ((conv => whnf); first | refine ⟨xs,h.rs _,?_⟩ | refine ⟨ys,h.rl _,?_⟩ | refine And.intro (by first | exact o1 | exact o2 | exact fun _ => Thin.ref (.skip (h.th)) | exact fun _ => Thin.ref (.skip (.skip (h.th))) | exact fun _ => Thin.ref (.skip (.skip (.skip (h.th)))) | exact fun _ => Thin.ref (.skip (.skip (.skip (.skip (h.th))))) | exact Thin.ref (.skip (h.th)) | exact Thin.ref (.skip (.skip (h.th))) | exact Thin.ref (.skip (.skip (.skip (h.th)))) | exact Thin.ref (.skip (.skip (.skip (.skip (h.th))))) | exact ⟨rfl,oneAll_of rfl⟩ | exact oneAll_of rfl | exact rfl | exact ⟨rfl,rfl,rfl,rfl⟩ | exact ⟨rfl,rfl,rfl,rfl,rfl⟩ | exact ⟨by unfold maxLen; omega,by omega⟩ | omega) ?_ | intro _)); refine VC_can (t := tr_evergreenref12_Add_4) _ _ (by (repeat ((conv => whnf); refine And.intro (by first | exact rfl | exact vint_eq (by omega) | exact vint_eq (by (dsimp only; omega)) | exact vsl_eq (by omega) | exact vsl_eq (by first | (dsimp only; omega) | (simp; done) | (simp; omega))) ?_)); exact trivial) (Thin.ref (.own (by omega) rfl (.skip (.own (by omega) rfl (Thin.refl _))))) (add_4 h _ _ _ _)
  (repeat' ((conv => whnf); first | refine ⟨xs,h.rs _,?_⟩ | refine ⟨ys,h.rl _,?_⟩ | refine And.intro (by first | exact o1 | exact o2 | exact fun _ => Thin.ref (.skip (h.th)) | exact fun _ => Thin.ref (.skip (.skip (h.th))) | exact fun _ => Thin.ref (.skip (.skip (.skip (h.th)))) | exact fun _ => Thin.ref (.skip (.skip (.skip (.skip (h.th))))) | exact Thin.ref (.skip (h.th)) | exact Thin.ref (.skip (.skip (h.th))) | exact Thin.ref (.skip (.skip (.skip (h.th)))) | exact Thin.ref (.skip (.skip (.skip (.skip (h.th))))) | exact ⟨rfl,oneAll_of rfl⟩ | exact oneAll_of rfl | exact rfl | exact ⟨rfl,rfl,rfl,rfl⟩ | exact ⟨rfl,rfl,rfl,rfl,rfl⟩ | exact ⟨by unfold maxLen; omega,by omega⟩ | omega) ?_ | intro _)); refine VC_can (t := tr_evergreenref12_Add_7) _ _ (by (repeat ((conv => whnf); refine And.intro (by first | exact rfl | exact vint_eq (by omega) | exact vint_eq (by (dsimp only; omega)) | exact vsl_eq (by omega) | exact vsl_eq (by first | (dsimp only; omega) | (simp; done) | (simp; omega))) ?_)); exact trivial) ((Ref.perm (.trans (.swap _ _ _) (.trans (.cons _ (.swap _ _ _)) (.cons _ (.cons _ (.swap _ _ _)))))).trans (Thin.ref (.own (by omega) rfl (.own (by omega) rfl (.own (by omega) rfl (.own (by omega) rfl (Thin.refl _))))))) (add_7 h _ _ _ _ _ _)
theorem add_9 (h : AddH w K Lb Lh E r N a1 a2 c1 c2 b6 xs ys) : ∀ (q1 : Option Addr) (q2 : Nat) (q3 : Option Addr) (z3 : Option Addr),VT Try.prog w [] ops_evergreenref12_Add_6 K tr_evergreenref12_Add_9 Lb [(29,.sl 26 q1 E.length q2),(31,.sl 31 q3 1 1),(38,.sl 38 z3 1 1),(28,.v (.slice a1 E.length c1)),(30,.v (ruV r)),(35,.v (.slice a2 E.length c2)),(37,.v (.int .i64 N)),(44,.v (.int .i64 ((E.length : Int) + 1))),(6,.ptr 6 b6 0)] (.own 26 q1 E.length q2 ty_api_Rule 5 xs :: .own 31 q3 1 1 ty_api_Rule 5 (ruC r) :: .own 38 z3 1 1 ty_int 1 ([.int .i64 N]) :: Lh) := by
  have hE := h.hE
  have o1 := h.o1
  have o2 := h.o2
  intro q1 q2 q3 z3
  (conv => whnf)
  refine stop_and ?_ ?_
  · (repeat' ((conv => whnf); first | refine ⟨xs,h.rs _,?_⟩ | refine ⟨ys,h.rl _,?_⟩ | refine And.intro (by first | exact o1 | exact o2 | exact fun _ => Thin.ref (.skip (h.th)) | exact fun _ => Thin.ref (.skip (.skip (h.th))) | exact fun _ => Thin.ref (.skip (.skip (.skip (h.th)))) | exact fun _ => Thin.ref (.skip (.skip (.skip (.skip (h.th))))) | exact Thin.ref (.skip (h.th)) | exact Thin.ref (.skip (.skip (h.th))) | exact Thin.ref (.skip (.skip (.skip (h.th)))) | exact Thin.ref (.skip (.skip (.skip (.skip (h.th))))) | exact ⟨rfl,oneAll_of rfl⟩ | exact oneAll_of rfl | exact rfl | exact ⟨rfl,rfl,rfl,rfl⟩ | exact ⟨rfl,rfl,rfl,rfl,rfl⟩ | exact ⟨by unfold maxLen; omega,by omega⟩ | omega) ?_ | intro _)); refine VC_can (t := tr_evergreenref12_Add_5) _ _ (by (repeat ((conv => whnf); refine And.intro (by first | exact rfl | exact vint_eq (by omega) | exact vint_eq (by (dsimp only; omega)) | exact vsl_eq (by omega) | exact vsl_eq (by first | (dsimp only; omega) | (simp; done) | (simp; omega))) ?_)); exact trivial) (Thin.ref (.own (by omega) rfl (.skip (.own (by omega) rfl (Thin.refl _))))) (add_5 h _ _ _)
  (repeat' ((conv => whnf); first | refine ⟨xs,h.rs _,?_⟩ | refine ⟨ys,h.rl _,?_⟩ | refine And.intro (by first | exact o1 | exact o2 | exact fun _ => Thin.ref (.skip (h.th)) | exact fun _ => Thin.ref (.skip (.skip (h.th))) | exact fun _ => Thin.ref (.skip (.skip (.skip (h.th)))) | exact fun _ => Thin.ref (.skip (.skip (.skip (.skip (h.th))))) | exact Thin.ref (.skip (h.th)) | exact Thin.ref (.skip (.skip (h.th))) | exact Thin.ref (.skip (.skip (.skip (h.th)))) | exact Thin.ref (.skip (.skip (.skip (.skip (h.th))))) | exact ⟨rfl,oneAll_of rfl⟩ | exact oneAll_of rfl | exact rfl | exact ⟨rfl,rfl,rfl,rfl⟩ | exact ⟨rfl,rfl,rfl,rfl,rfl⟩ | exact ⟨by unfold maxLen; omega,by omega⟩ | omega) ?_ | intro _)); refine VC_can (t := tr_evergreenref12_Add_7) _ _ (by (repeat ((conv => whnf); refine And.intro (by first | exact rfl | exact vint_eq (by omega) | exact vint_eq (by (dsimp only; omega)) | exact vsl_eq (by omega) | exact vsl_eq (by first | (dsimp only; omega) | (simp; done) | (simp; omega))) ?_)); exact trivial) ((Ref.perm (.trans (.swap _ _ _) (.cons _ (.swap _ _ _)))).trans (Thin.ref (.own (by omega) rfl (.own (by omega) rfl (.own (by omega) rfl (.own (by omega) rfl (Thin.refl _))))))) (add_7 h _ _ _ _ _ _)
theorem add_10 (h : AddH w K Lb Lh E r N a1 a2 c1 c2 b6 xs ys) : ∀ (q1 : Option Addr) (q2 : Nat) (q3 : Option Addr),VT Try.prog w [] ops_evergreenref12_Add_6 K tr_evergreenref12_Add_10 Lb [(29,.sl 26 q1 E.length q2),(31,.sl 31 q3 1 1),(28,.v (.slice a1 E.length c1)),(30,.v (ruV r)),(35,.v (.slice a2 E.length c2)),(37,.v (.int .i64 N)),(44,.v (.int .i64 ((E.length : Int) + 1))),(6,.ptr 6 b6 0)] (.own 26 q1 E.length q2 ty_api_Rule 5 xs :: .own 31 q3 1 1 ty_api_Rule 5 (ruC r) :: Lh) := by
  have hE := h.hE
  have o1 := h.o1
  have o2 := h.o2
  intro q1 q2 q3
  (conv => whnf)
  refine stop_and ?_ ?_
  · (repeat' ((conv => whnf); first | refine ⟨xs,h.rs _,?_⟩ | refine ⟨ys,h.rl _,?_⟩ | refine And.intro (by first | exact o1 | exact o2 | exact fun _ => Thin.ref (.skip (h.th)) | exact fun _ => Thin.ref (.skip (.skip (h.th))) | exact fun _ => Thin.ref (.skip (.skip (.skip (h.th)))) | exact fun _ => Thin.ref (.skip (.skip (.skip (.skip (h.th))))) | exact Thin.ref (.skip (h.th)) | exact Thin.ref (.skip (.skip (h.th))) | exact Thin.ref (.skip (.skip (.skip (h.th)))) | exact Thin.ref (.skip (.skip (.skip (.skip (h.th))))) | exact ⟨rfl,oneAll_of rfl⟩ | exact oneAll_of rfl | exact rfl | exact ⟨rfl,rfl,rfl,rfl⟩ | exact ⟨rfl,rfl,rfl,rfl,rfl⟩ | exact ⟨by unfold maxLen; omega,by omega⟩ | omega) ?_ | intro _)); refine VC_can (t := tr_evergreenref12_Add_6) _ _ (by (repeat ((conv => whnf); refine And.intro (by first | exact rfl | exact vint_eq (by omega) | exact vint_eq (by (dsimp only; omega)) | exact vsl_eq (by omega) | exact vsl_eq (by first | (dsimp only; omega) | (simp; done) | (simp; omega))) ?_)); exact trivial) (Thin.ref (.own (by omega) rfl (.skip (Thin.refl _)))) (add_6 h _ _)
  (conv => whnf)
  refine stop_and ?_ ?_
  · (repeat' ((conv => whnf); first | refine ⟨xs,h.rs _,?_⟩ | refine ⟨ys,h.rl _,?_⟩ | refine And.intro (by first | exact o1 | exact o2 | exact fun _ => Thin.ref (.skip (h.th)) | exact fun _ => Thin.ref (.skip (.skip (h.th))) | exact fun _ => Thin.ref (.skip (.skip (.skip (h.th)))) | exact fun _ => Thin.ref (.skip (.skip (.skip (.skip (h.th))))) | exact Thin.ref (.skip (h.th)) | exact Thin.ref (.skip (.skip (h.th))) | exact Thin.ref (.skip (.skip (.skip (h.th)))) | exact Thin.ref (.skip (.skip (.skip (.skip (h.th))))) | exact ⟨rfl,oneAll_of rfl⟩ | exact oneAll_of rfl | exact rfl | exact ⟨rfl,rfl,rfl,rfl⟩ | exact ⟨rfl,rfl,rfl,rfl,rfl⟩ | exact ⟨by unfold maxLen; omega,by omega⟩ | omega) ?_ | intro _)); refine VC_can (t := tr_evergreenref12_Add_8) _ _ (by (repeat ((conv => whnf); refine And.intro (by first | exact rfl | exact vint_eq (by omega) | exact vint_eq (by (dsimp only; omega)) | exact vsl_eq (by omega) | exact vsl_eq (by first | (dsimp only; omega) | (simp; done) | (simp; omega))) ?_)); exact trivial) ((Ref.perm (.trans (.swap _ _ _) (.cons _ (.swap _ _ _)))).trans (Thin.ref (.own (by omega) rfl (.own (by omega) rfl (.own (by omega) rfl (Thin.refl _)))))) (add_8 h _ _ _ _ _)
  (repeat' ((conv => whnf); first | refine ⟨xs,h.rs _,?_⟩ | refine ⟨ys,h.rl _,?_⟩ | refine And.intro (by first | exact o1 | exact o2 | exact fun _ => Thin.ref (.skip (h.th)) | exact fun _ => Thin.ref (.skip (.skip (h.th))) | exact fun _ => Thin.ref (.skip (.skip (.skip (h.th)))) | exact fun _ => Thin.ref (.skip (.skip (.skip (.skip (h.th))))) | exact Thin.ref (.skip (h.th)) | exact Thin.ref (.skip (.skip (h.th))) | exact Thin.ref (.skip (.skip (.skip (h.th)))) | exact Thin.ref (.skip (.skip (.skip (.skip (h.th))))) | exact ⟨rfl,oneAll_of rfl⟩ | exact oneAll_of rfl | exact rfl | exact ⟨rfl,rfl,rfl,rfl⟩ | exact ⟨rfl,rfl,rfl,rfl,rfl⟩ | exact ⟨by unfold maxLen; omega,by omega⟩ | omega) ?_ | intro _)); refine VC_can (t := tr_evergreenref12_Add_9) _ _ (by (repeat ((conv => whnf); refine And.intro (by first | exact rfl | exact vint_eq (by omega) | exact vint_eq (by (dsimp only; omega)) | exact vsl_eq (by omega) | exact vsl_eq (by first | (dsimp only; omega) | (simp; done) | (simp; omega))) ?_)); exact trivial) ((Ref.perm (.trans (.swap _ _ _) (.cons _ (.swap _ _ _)))).trans (Thin.ref (.own (by omega) rfl (.own (by omega) rfl (.own (by omega) rfl (Thin.refl _)))))) (add_9 h _ _ _ _)
theorem add_11 (h : AddH w K Lb Lh E r N a1 a2 c1 c2 b6 xs ys) : ∀ (q1 : Option Addr) (q2 : Nat) (z1 : Option Addr) (z2 : Nat) (z3 : Option Addr),VT Try.prog w [] ops_evergreenref12_Add_6 K tr_evergreenref12_Add_11 Lb [(29,.sl 26 q1 E.length q2),(33,.sl 33 z1 0 z2),(38,.sl 38 z3 1 1),(28,.v (.slice a1 E.length c1)),(30,.v (ruV r)),(35,.v (.slice a2 E.length c2)),(37,.v (.int .i64 N)),(44,.v (.int .i64 ((E.length : Int) + 1))),(6,.ptr 6 b6 0)] (.own 26 q1 E.length q2 ty_api_Rule 5 xs :: .own 33 z1 0 z2 ty_int 1 [] :: .own 38 z3 1 1 ty_int 1 ([.int .i64 N]) :: Lh) := by
  have hE := h.hE
  have o1 := h.o1
  have o2 := h.o2
  intro q1 q2 z1 z2 z3
  (repeat' ((conv => whnf); first | refine ⟨xs,h.rs _,?_⟩ | refine ⟨ys,h.rl _,?_⟩ | refine And.intro (by first | exact o1 | exact o2 | exact fun _ => Thin.ref (.skip (h.th)) | exact fun _ => Thin.ref (.skip (.skip (h.th))) | exact fun _ => Thin.ref (.skip (.skip (.skip (h.th)))) | exact fun _ => Thin.ref (.skip (.skip (.skip (.skip (h.th))))) | exact Thin.ref (.skip (h.th)) | exact Thin.ref (.skip (.skip (h.th))) | exact Thin.ref (.skip (.skip (.skip (h.th)))) | exact Thin.ref (.skip (.skip (.skip (.skip (h.th))))) | exact ⟨rfl,oneAll_of rfl⟩ | exact oneAll_of rfl | exact rfl | exact ⟨rfl,rfl,rfl,rfl⟩ | exact ⟨rfl,rfl,rfl,rfl,rfl⟩ | exact ⟨by unfold maxLen; omega,by omega⟩ | omega) ?_ | intro _)); refine VC_can (t := tr_evergreenref12_Add_7) _ _ (by (repeat ((conv => whnf); refine And.intro (by first | exact rfl | exact vint_eq (by omega) | exact vint_eq (by (dsimp only; omega)) | exact vsl_eq (by omega) | exact vsl_eq (by first | (dsimp only; omega) | (simp; done) | (simp; omega))) ?_)); exact trivial) ((Ref.perm (.swap _ _ _)).trans (Thin.ref (.own (by omega) rfl (.own (by omega) rfl (.own (by omega) rfl (.own (by omega) rfl (Thin.refl _))))))) (add_7 h _ _ _ _ _ _)
theorem add_12 (h : AddH w K Lb Lh E r N a1 a2 c1 c2 b6 xs ys) : ∀ (q1 : Option Addr) (q2 : Nat) (z1 : Option Addr) (z2 : Nat),VT Try.prog w [] ops_evergreenref12_Add_6 K tr_evergreenref12_Add_12 Lb [(29,.sl 26 q1 E.length q2),(33,.sl 33 z1 0 z2),(28,.v (.slice a1 E.length c1)),(30,.v (ruV r)),(35,.v (.slice a2 E.length c2)),(37,.v (.int .i64 N)),(44,.v (.int .i64 ((E.length : Int) + 1))),(6,.ptr 6 b6 0)] (.own 26 q1 E.length q2 ty_api_Rule 5 xs :: .own 33 z1 0 z2 ty_int 1 [] :: Lh) := by
  have hE := h.hE
  have o1 := h.o1
  have o2 := h.o2
  intro q1 q2 z1 z2
  (conv => whnf)
  refine stop_and ?_ ?_
  · (repeat' ((conv => whnf); first | refine ⟨xs,h.rs _,?_⟩ | refine ⟨ys,h.rl _,?_⟩ | refine And.intro (by first | exact o1 | exact o2 | exact fun _ => Thin.ref (.skip (h.th)) | exact fun _ => Thin.ref (.skip (.skip (h.th))) | exact fun _ => Thin.ref (.skip (.skip (.skip (h.th)))) | exact fun _ => Thin.ref (.skip (.skip (.skip (.skip (h.th))))) | exact Thin.ref (.skip (h.th)) | exact Thin.ref (.skip (.skip (h.th))) | exact Thin.ref (.skip (.skip (.skip (h.th)))) | exact Thin.ref (.skip (.skip (.skip (.skip (h.th))))) | exact ⟨rfl,oneAll_of rfl⟩ | exact oneAll_of rfl | exact rfl | exact ⟨rfl,rfl,rfl,rfl⟩ | exact ⟨rfl,rfl,rfl,rfl,rfl⟩ | exact ⟨by unfold maxLen; omega,by omega⟩ | omega) ?_ | intro _)); refine VC_can (t := tr_evergreenref12_Add_8) _ _ (by (repeat ((conv => whnf); refine And.intro (by first | exact rfl | exact vint_eq (by omega) | exact vint_eq (by (dsimp only; omega)) | exact vsl_eq (by omega) | exact vsl_eq (by first | (dsimp only; omega) | (simp; done) | (simp; omega))) ?_)); exact trivial) ((Ref.perm (.swap _ _ _)).trans (Thin.ref (.own (by omega) rfl (.own (by omega) rfl (.own (by omega) rfl (Thin.refl _)))))) (add_8 h _ _ _ _ _)
  (repeat' ((conv => whnf); first | refine ⟨xs,h.rs _,?_⟩ | refine ⟨ys,h.rl _,?_⟩ | refine And.intro (by first | exact o1 | exact o2 | exact fun _ => Thin.ref (.skip (h.th)) | exact fun _ => Thin.ref (.skip (.skip (h.th))) | exact fun _ => Thin.ref (.skip (.skip (.skip (h.th)))) | exact fun _ => Thin.ref (.skip (.skip (.skip (.skip (h.th))))) | exact Thin.ref (.skip (h.th)) | exact Thin.ref (.skip (.skip (h.th))) | exact Thin.ref (.skip (.skip (.skip (h.th)))) | exact Thin.ref (.skip (.skip (.skip (.skip (h.th))))) | exact ⟨rfl,oneAll_of rfl⟩ | exact oneAll_of rfl | exact rfl | exact ⟨rfl,rfl,rfl,rfl⟩ | exact ⟨rfl,rfl,rfl,rfl,rfl⟩ | exact ⟨by unfold maxLen; omega,by omega⟩ | omega) ?_ | intro _)); refine VC_can (t := tr_evergreenref12_Add_11) _ _ (by (repeat ((conv => whnf); refine And.intro (by first | exact rfl | exact vint_eq (by omega) | exact vint_eq (by (dsimp only; omega)) | exact vsl_eq (by omega) | exact vsl_eq (by first | (dsimp only; omega) | (simp; done) | (simp; omega))) ?_)); exact trivial) ((Ref.perm (.trans (.swap _ _ _) (.cons _ (.swap _ _ _)))).trans (Thin.ref (.own (by omega) rfl (.own (by omega) rfl (.own (by omega) rfl (Thin.refl _)))))) (add_11 h _ _ _ _ _)
theorem add_13 (h : AddH w K Lb Lh E r N a1 a2 c1 c2 b6 xs ys) : ∀ (q1 : Option Addr) (q2 : Nat) (z3 : Option Addr),VT Try.prog w [] ops_evergreenref12_Add_6 K tr_evergreenref12_Add_13 Lb [(29,.sl 26 q1 E.length q2),(38,.sl 38 z3 1 1),(28,.v (.slice a1 E.length c1)),(30,.v (ruV r)),(35,.v (.slice a2 E.length c2)),(37,.v (.int .i64 N)),(44,.v (.int .i64 ((E.length : Int) + 1))),(6,.ptr 6 b6 0)] (.own 26 q1 E.length q2 ty_api_Rule 5 xs :: .own 38 z3 1 1 ty_int 1 ([.int .i64 N]) :: Lh) := by
  have hE := h.hE
  have o1 := h.o1
  have o2 := h.o2
  intro q1 q2 z3
  (conv => whnf)
  refine stop_and ?_ ?_
  · (repeat' ((conv => whnf); first | refine ⟨xs,h.rs _,?_⟩ | refine ⟨ys,h.rl _,?_⟩ | refine And.intro (by first | exact o1 | exact o2 | exact fun _ => Thin.ref (.skip (h.th)) | exact fun _ => Thin.ref (.skip (.skip (h.th))) | exact fun _ => Thin.ref (.skip (.skip (.skip (h.th)))) | exact fun _ => Thin.ref (.skip (.skip (.skip (.skip (h.th))))) | exact Thin.ref (.skip (h.th)) | exact Thin.ref (.skip (.skip (h.th))) | exact Thin.ref (.skip (.skip (.skip (h.th)))) | exact Thin.ref (.skip (.skip (.skip (.skip (h.th))))) | exact ⟨rfl,oneAll_of rfl⟩ | exact oneAll_of rfl | exact rfl | exact ⟨rfl,rfl,rfl,rfl⟩ | exact ⟨rfl,rfl,rfl,rfl,rfl⟩ | exact ⟨by unfold maxLen; omega,by omega⟩ | omega) ?_ | intro _)); refine VC_can (t := tr_evergreenref12_Add_9) _ _ (by (repeat ((conv => whnf); refine And.intro (by first | exact rfl | exact vint_eq (by omega) | exact vint_eq (by (dsimp only; omega)) | exact vsl_eq (by omega) | exact vsl_eq (by first | (dsimp only; omega) | (simp; done) | (simp; omega))) ?_)); exact trivial) ((Ref.perm (.swap _ _ _)).trans (Thin.ref (.own (by omega) rfl (.own (by omega) rfl (.own (by omega) rfl (Thin.refl _)))))) (add_9 h _ _ _ _)
  (repeat' ((conv => whnf); first | refine ⟨xs,h.rs _,?_⟩ | refine ⟨ys,h.rl _,?_⟩ | refine And.intro (by first | exact o1 | exact o2 | exact fun _ => Thin.ref (.skip (h.th)) | exact fun _ => Thin.ref (.skip (.skip (h.th))) | exact fun _ => Thin.ref (.skip (.skip (.skip (h.th)))) | exact fun _ => Thin.ref (.skip (.skip (.skip (.skip (h.th))))) | exact Thin.ref (.skip (h.th)) | exact Thin.ref (.skip (.skip (h.th))) | exact Thin.ref (.skip (.skip (.skip (h.th)))) | exact Thin.ref (.skip (.skip (.skip (.skip (h.th))))) | exact ⟨rfl,oneAll_of rfl⟩ | exact oneAll_of rfl | exact rfl | exact ⟨rfl,rfl,rfl,rfl⟩ | exact ⟨rfl,rfl,rfl,rfl,rfl⟩ | exact ⟨by unfold maxLen; omega,by omega⟩ | omega) ?_ | intro _)); refine VC_can (t := tr_evergreenref12_Add_11) _ _ (by (repeat ((conv => whnf); refine And.intro (by first | exact rfl | exact vint_eq (by omega) | exact vint_eq (by (dsimp only; omega)) | exact vsl_eq (by omega) | exact vsl_eq (by first | (dsimp only; omega) | (simp; done) | (simp; omega))) ?_)); exact trivial) ((Ref.perm (.swap _ _ _)).trans (Thin.ref (.own (by omega) rfl (.own (by omega) rfl (.own (by omega) rfl (Thin.refl _)))))) (add_11 h _ _ _ _ _)
theorem add_14 (h : AddH w K Lb Lh E r N a1 a2 c1 c2 b6 xs ys) : ∀ (q1 : Option Addr) (q2 : Nat),VT Try.prog w [] ops_evergreenref12_Add_6 K tr_evergreenref12_Add_14 Lb [(29,.sl 26 q1 E.length q2),(28,.v (.slice a1 E.length c1)),(30,.v (ruV r)),(35,.v (.slice a2 E.length c2)),(37,.v (.int .i64 N)),(44,.v (.int .i64 ((E.length : Int) + 1))),(6,.ptr 6 b6 0)] (.own 26 q1 E.length q2 ty_api_Rule 5 xs :: Lh) := by
  have hE := h.hE
  have o1 := h.o1
  have o2 := h.o2
  intro q1 q2
  (conv => whnf)
  refine stop_and ?_ ?_
  · (repeat' ((conv => whnf); first | refine ⟨xs,h.rs _,?_⟩ | refine ⟨ys,h.rl _,?_⟩ | refine And.intro (by first | exact o1 | exact o2 | exact fun _ => Thin.ref (.skip (h.th)) | exact fun _ => Thin.ref (.skip (.skip (h.th))) | exact fun _ => Thin.ref (.skip (.skip (.skip (h.th)))) | exact fun _ => Thin.ref (.skip (.skip (.skip (.skip (h.th))))) | exact Thin.ref (.skip (h.th)) | exact Thin.ref (.skip (.skip (h.th))) | exact Thin.ref (.skip (.skip (.skip (h.th)))) | exact Thin.ref (.skip (.skip (.skip (.skip (h.th))))) | exact ⟨rfl,oneAll_of rfl⟩ | exact oneAll_of rfl | exact rfl | exact ⟨rfl,rfl,rfl,rfl⟩ | exact ⟨rfl,rfl,rfl,rfl,rfl⟩ | exact ⟨by unfold maxLen; omega,by omega⟩ | omega) ?_ | intro _)); refine VC_can (t := tr_evergreenref12_Add_10) _ _ (by (repeat ((conv => whnf); refine And.intro (by first | exact rfl | exact vint_eq (by omega) | exact vint_eq (by (dsimp only; omega)) | exact vsl_eq (by omega) | exact vsl_eq (by first | (dsimp only; omega) | (simp; done) | (simp; omega))) ?_)); exact trivial) ((Ref.perm (.swap _ _ _)).trans (Thin.ref (.own (by omega) rfl (.own (by omega) rfl (Thin.refl _))))) (add_10 h _ _ _)
  (conv => whnf)
  refine stop_and ?_ ?_
  · (repeat' ((conv => whnf); first | refine ⟨xs,h.rs _,?_⟩ | refine ⟨ys,h.rl _,?_⟩ | refine And.intro (by first | exact o1 | exact o2 | exact fun _ => Thin.ref (.skip (h.th)) | exact fun _ => Thin.ref (.skip (.skip (h.th))) | exact fun _ => Thin.ref (.skip (.skip (.skip (h.th)))) | exact fun _ => Thin.ref (.skip (.skip (.skip (.skip (h.th))))) | exact Thin.ref (.skip (h.th)) | exact Thin.ref (.skip (.skip (h.th))) | exact Thin.ref (.skip (.skip (.skip (h.th)))) | exact Thin.ref (.skip (.skip (.skip (.skip (h.th))))) | exact ⟨rfl,oneAll_of rfl⟩ | exact oneAll_of rfl | exact rfl | exact ⟨rfl,rfl,rfl,rfl⟩ | exact ⟨rfl,rfl,rfl,rfl,rfl⟩ | exact ⟨by unfold maxLen; omega,by omega⟩ | omega) ?_ | intro _)); refine VC_can (t := tr_evergreenref12_Add_12) _ _ (by (repeat ((conv => whnf); refine And.intro (by first | exact rfl | exact vint_eq (by omega) | exact vint_eq (by (dsimp only; omega)) | exact vsl_eq (by omega) | exact vsl_eq (by first | (dsimp only; omega) | (simp; done) | (simp; omega))) ?_)); exact trivial) ((Ref.perm (.swap _ _ _)).trans (Thin.ref (.own (by omega) rfl (.own (by omega) rfl (Thin.refl _))))) (add_12 h _ _ _ _)
  (repeat' ((conv => whnf); first | refine ⟨xs,h.rs _,?_⟩ | refine ⟨ys,h.rl _,?_⟩ | refine And.intro (by first | exact o1 | exact o2 | exact fun _ => Thin.ref (.skip (h.th)) | exact fun _ => Thin.ref (.skip (.skip (h.th))) | exact fun _ => Thin.ref (.skip (.skip (.skip (h.th)))) | exact fun _ => Thin.ref (.skip (.skip (.skip (.skip (h.th))))) | exact Thin.ref (.skip (h.th)) | exact Thin.ref (.skip (.skip (h.th))) | exact Thin.ref (.skip (.skip (.skip (h.th)))) | exact Thin.ref (.skip (.skip (.skip (.skip (h.th))))) | exact ⟨rfl,oneAll_of rfl⟩ | exact oneAll_of rfl | exact rfl | exact ⟨rfl,rfl,rfl,rfl⟩ | exact ⟨rfl,rfl,rfl,rfl,rfl⟩ | exact ⟨by unfold maxLen; omega,by omega⟩ | omega) ?_ | intro _)); refine VC_can (t := tr_evergreenref12_Add_13) _ _ (by (repeat ((conv => whnf); refine And.intro (by first | exact rfl | exact vint_eq (by omega) | exact vint_eq (by (dsimp only; omega)) | exact vsl_eq (by omega) | exact vsl_eq (by first | (dsimp only; omega) | (simp; done) | (simp; omega))) ?_)); exact trivial) ((Ref.perm (.swap _ _ _)).trans (Thin.ref (.own (by omega) rfl (.own (by omega) rfl (Thin.refl _))))) (add_13 h _ _ _)
theorem add_15 (h : AddH w K Lb Lh E r N a1 a2 c1 c2 b6 xs ys) : ∀ (q1 : Option Addr) (q2 : Nat) (q3 : Option Addr) (z1 : Option Addr) (z2 : Nat) (z3 : Option Addr),VT Try.prog w [] ops_evergreenref12_Add_6 K tr_evergreenref12_Add_15 Lb [(26,.sl 26 q1 0 q2),(31,.sl 31 q3 1 1),(33,.sl 33 z1 0 z2),(38,.sl 38 z3 1 1),(28,.v (.slice a1 E.length c1)),(30,.v (ruV r)),(35,.v (.slice a2 E.length c2)),(37,.v (.int .i64 N)),(44,.v (.int .i64 ((E.length : Int) + 1))),(6,.ptr 6 b6 0)] (.own 26 q1 0 q2 ty_api_Rule 5 [] :: .own 31 q3 1 1 ty_api_Rule 5 (ruC r) :: .own 33 z1 0 z2 ty_int 1 [] :: .own 38 z3 1 1 ty_int 1 ([.int .i64 N]) :: Lh) := by
  have hE := h.hE
  have o1 := h.o1
  have o2 := h.o2
  intro q1 q2 q3 z1 z2 z3
  (repeat' ((conv => whnf); first | refine ⟨xs,h.rs _,?_⟩ | refine ⟨ys,h.rl _,?_⟩ | refine And.intro (by first | exact o1 | exact o2 | exact fun _ => Thin.ref (.skip (h.th)) | exact fun _ => Thin.ref (.skip (.skip (h.th))) | exact fun _ => Thin.ref (.skip (.skip (.skip (h.th)))) | exact fun _ => Thin.ref (.skip (.skip (.skip (.skip (h.th))))) | exact Thin.ref (.skip (h.th)) | exact Thin.ref (.skip (.skip (h.th))) | exact Thin.ref (.skip (.skip (.skip (h.th)))) | exact Thin.ref (.skip (.skip (.skip (.skip (h.th))))) | exact ⟨rfl,oneAll_of rfl⟩ | exact oneAll_of rfl | exact rfl | exact ⟨rfl,rfl,rfl,rfl⟩ | exact ⟨rfl,rfl,rfl,rfl,rfl⟩ | exact ⟨by unfold maxLen; omega,by omega⟩ | omega) ?_ | intro _)); refine VC_can (t := tr_evergreenref12_Add_7) _ _ (by (repeat ((conv => whnf); refine And.intro (by first | exact rfl | exact vint_eq (by omega) | exact vint_eq (by (dsimp only; omega)) | exact vsl_eq (by omega) | exact vsl_eq (by first | (dsimp only; omega) | (simp; done) | (simp; omega))) ?_)); exact trivial) (Thin.ref (.own (by omega) rfl (.own (by omega) rfl (.own (by omega) rfl (.own (by omega) rfl (Thin.refl _)))))) (add_7 h _ _ _ _ _ _)
theorem add_16 (h : AddH w K Lb Lh E r N a1 a2 c1 c2 b6 xs ys) : ∀ (q1 : Option Addr) (q2 : Nat) (q3 : Option Addr) (z1 : Option Addr) (z2 : Nat),VT Try.prog w [] ops_evergreenref12_Add_6 K tr_evergreenref12_Add_16 Lb [(26,.sl 26 q1 0 q2),(31,.sl 31 q3 1 1),(33,.sl 33 z1 0 z2),(28,.v (.slice a1 E.length c1)),(30,.v (ruV r)),(35,.v (.slice a2 E.length c2)),(37,.v (.int .i64 N)),(44,.v (.int .i64 ((E.length : Int) + 1))),(6,.ptr 6 b6 0)] (.own 26 q1 0 q2 ty_api_Rule 5 [] :: .own 31 q3 1 1 ty_api_Rule 5 (ruC r) :: .own 33 z1 0 z2 ty_int 1 [] :: Lh) := by
  have hE := h.hE
  have o1 := h.o1
  have o2 := h.o2
  intro q1 q2 q3 z1 z2
  (conv => whnf)
  refine stop_and ?_ ?_
  · (repeat' ((conv => whnf); first | refine ⟨xs,h.rs _,?_⟩ | refine ⟨ys,h.rl _,?_⟩ | refine And.intro (by first | exact o1 | exact o2 | exact fun _ => Thin.ref (.skip (h.th)) | exact fun _ => Thin.ref (.skip (.skip (h.th))) | exact fun _ => Thin.ref (.skip (.skip (.skip (h.th)))) | exact fun _ => Thin.ref (.skip (.skip (.skip (.skip (h.th))))) | exact Thin.ref (.skip (h.th)) | exact Thin.ref (.skip (.skip (h.th))) | exact Thin.ref (.skip (.skip (.skip (h.th)))) | exact Thin.ref (.skip (.skip (.skip (.skip (h.th))))) | exact ⟨rfl,oneAll_of rfl⟩ | exact oneAll_of rfl | exact rfl | exact ⟨rfl,rfl,rfl,rfl⟩ | exact ⟨rfl,rfl,rfl,rfl,rfl⟩ | exact ⟨by unfold maxLen; omega,by omega⟩ | omega) ?_ | intro _)); refine VC_can (t := tr_evergreenref12_Add_8) _ _ (by (repeat ((conv => whnf); refine And.intro (by first | exact rfl | exact vint_eq (by omega) | exact vint_eq (by (dsimp only; omega)) | exact vsl_eq (by omega) | exact vsl_eq (by first | (dsimp only; omega) | (simp; done) | (simp; omega))) ?_)); exact trivial) (Thin.ref (.own (by omega) rfl (.own (by omega) rfl (.own (by omega) rfl (Thin.refl _))))) (add_8 h _ _ _ _ _)
  (repeat' ((conv => whnf); first | refine ⟨xs,h.rs _,?_⟩ | refine ⟨ys,h.rl _,?_⟩ | refine And.intro (by first | exact o1 | exact o2 | exact fun _ => Thin.ref (.skip (h.th)) | exact fun _ => Thin.ref (.skip (.skip (h.th))) | exact fun _ => Thin.ref (.skip (.skip (.skip (h.th)))) | exact fun _ => Thin.ref (.skip (.skip (.skip (.skip (h.th))))) | exact Thin.ref (.skip (h.th)) | exact Thin.ref (.skip (.skip (h.th))) | exact Thin.ref (.skip (.skip (.skip (h.th)))) | exact Thin.ref (.skip (.skip (.skip (.skip (h.th))))) | exact ⟨rfl,oneAll_of rfl⟩ | exact oneAll_of rfl | exact rfl | exact ⟨rfl,rfl,rfl,rfl⟩ | exact ⟨rfl,rfl,rfl,rfl,rfl⟩ | exact ⟨by unfold maxLen; omega,by omega⟩ | omega) ?_ | intro _)); refine VC_can (t := tr_evergreenref12_Add_15) _ _ (by (repeat ((conv => whnf); refine And.intro (by first | exact rfl | exact vint_eq (by omega) | exact vint_eq (by (dsimp only; omega)) | exact vsl_eq (by omega) | exact vsl_eq (by first | (dsimp only; omega) | (simp; done) | (simp; omega))) ?_)); exact trivial) ((Ref.perm (.trans (.swap _ _ _) (.trans (.cons _ (.swap _ _ _)) (.cons _ (.cons _ (.swap _ _ _)))))).trans (Thin.ref (.own (by omega) rfl (.own (by omega) rfl (.own (by omega) rfl (.own (by omega) rfl (Thin.refl _))))))) (add_15 h _ _ _ _ _ _)
theorem add_17 (h : AddH w K Lb Lh E r N a1 a2 c1 c2 b6 xs ys) : ∀ (q1 : Option Addr) (q2 : Nat) (q3 : Option Addr) (z3 : Option Addr),VT Try.prog w [] ops_evergreenref12_Add_6 K tr_evergreenref12_Add_17 Lb [(26,.sl 26 q1 0 q2),(31,.sl 31 q3 1 1),(38,.sl 38 z3 1 1),(28,.v (.slice a1 E.length c1)),(30,.v (ruV r)),(35,.v (.slice a2 E.length c2)),(37,.v (.int .i64 N)),(44,.v (.int .i64 ((E.length : Int) + 1))),(6,.ptr 6 b6 0)] (.own 26 q1 0 q2 ty_api_Rule 5 [] :: .own 31 q3 1 1 ty_api_Rule 5 (ruC r) :: .own 38 z3 1 1 ty_int 1 ([.int .i64 N]) :: Lh) := by
  have hE := h.hE
  have o1 := h.o1
  have o2 := h.o2
  intro q1 q2 q3 z3
  (conv => whnf)
  refine stop_and ?_ ?_
  · (repeat' ((conv => whnf); first | refine ⟨xs,h.rs _,?_⟩ | refine ⟨ys,h.rl _,?_⟩ | refine And.intro (by first | exact o1 | exact o2 | exact fun _ => Thin.ref (.skip (h.th)) | exact fun _ => Thin.ref (.skip (.skip (h.th))) | exact fun _ => Thin.ref (.skip (.skip (.skip (h.th)))) | exact fun _ => Thin.ref (.skip (.skip (.skip (.skip (h.th))))) | exact Thin.ref (.skip (h.th)) | exact Thin.ref (.skip (.skip (h.th))) | exact Thin.ref (.skip (.skip (.skip (h.th)))) | exact Thin.ref (.skip (.skip (.skip (.skip (h.th))))) | exact ⟨rfl,oneAll_of rfl⟩ | exact oneAll_of rfl | exact rfl | exact ⟨rfl,rfl,rfl,rfl⟩ | exact ⟨rfl,rfl,rfl,rfl,rfl⟩ | exact ⟨by unfold maxLen; omega,by omega⟩ | omega) ?_ | intro _)); refine VC_can (t := tr_evergreenref12_Add_9) _ _ (by (repeat ((conv => whnf); refine And.intro (by first | exact rfl | exact vint_eq (by omega) | exact vint_eq (by (dsimp only; omega)) | exact vsl_eq (by omega) | exact vsl_eq (by first | (dsimp only; omega) | (simp; done) | (simp; omega))) ?_)); exact trivial) (Thin.ref (.own (by omega) rfl (.own (by omega) rfl (.own (by omega) rfl (Thin.refl _))))) (add_9 h _ _ _ _)
  (repeat' ((conv => whnf); first | refine ⟨xs,h.rs _,?_⟩ | refine ⟨ys,h.rl _,?_⟩ | refine And.intro (by first | exact o1 | exact o2 | exact fun _ => Thin.ref (.skip (h.th)) | exact fun _ => Thin.ref (.skip (.skip (h.th))) | exact fun _ => Thin.ref (.skip (.skip (.skip (h.th)))) | exact fun _ => Thin.ref (.skip (.skip (.skip (.skip (h.th))))) | exact Thin.ref (.skip (h.th)) | exact Thin.ref (.skip (.skip (h.th))) | exact Thin.ref (.skip (.skip (.skip (h.th)))) | exact Thin.ref (.skip (.skip (.skip (.skip (h.th))))) | exact ⟨rfl,oneAll_of rfl⟩ | exact oneAll_of rfl | exact rfl | exact ⟨rfl,rfl,rfl,rfl⟩ | exact ⟨rfl,rfl,rfl,rfl,rfl⟩ | exact ⟨by unfold maxLen; omega,by omega⟩ | omega) ?_ | intro _)); refine VC_can (t := tr_evergreenref12_Add_15) _ _ (by (repeat ((conv => whnf); refine And.intro (by first | exact rfl | exact vint_eq (by omega) | exact vint_eq (by (dsimp only; omega)) | exact vsl_eq (by omega) | exact vsl_eq (by first | (dsimp only; omega) | (simp; done) | (simp; omega))) ?_)); exact trivial) ((Ref.perm (.trans (.swap _ _ _) (.cons _ (.swap _ _ _)))).trans (Thin.ref (.own (by omega) rfl (.own (by omega) rfl (.own (by omega) rfl (.own (by omega) rfl (Thin.refl _))))))) (add_15 h _ _ _ _ _ _)
theorem add_18 (h : AddH w K Lb Lh E r N a1 a2 c1 c2 b6 xs ys) : ∀ (q1 : Option Addr) (q2 : Nat) (q3 : Option Addr),VT Try.prog w [] ops_evergreenref12_Add_6 K tr_evergreenref12_Add_18 Lb [(26,.sl 26 q1 0 q2),(31,.sl 31 q3 1 1),(28,.v (.slice a1 E.length c1)),(30,.v (ruV r)),(35,.v (.slice a2 E.length c2)),(37,.v (.int .i64 N)),(44,.v (.int .i64 ((E.length : Int) + 1))),(6,.ptr 6 b6 0)] (.own 26 q1 0 q2 ty_api_Rule 5 [] :: .own 31 q3 1 1 ty_api_Rule 5 (ruC r) :: Lh) := by
  have hE := h.hE
  have o1 := h.o1
  have o2 := h.o2
  intro q1 q2 q3
  (conv => whnf)
  refine stop_and ?_ ?_
  · (repeat' ((conv => whnf); first | refine ⟨xs,h.rs _,?_⟩ | refine ⟨ys,h.rl _,?_⟩ | refine And.intro (by first | exact o1 | exact o2 | exact fun _ => Thin.ref (.skip (h.th)) | exact fun _ => Thin.ref (.skip (.skip (h.th))) | exact fun _ => Thin.ref (.skip (.skip (.skip (h.th)))) | exact fun _ => Thin.ref (.skip (.skip (.skip (.skip (h.th))))) | exact Thin.ref (.skip (h.th)) | exact Thin.ref (.skip (.skip (h.th))) | exact Thin.ref (.skip (.skip (.skip (h.th)))) | exact Thin.ref (.skip (.skip (.skip (.skip (h.th))))) | exact ⟨rfl,oneAll_of rfl⟩ | exact oneAll_of rfl | exact rfl | exact ⟨rfl,rfl,rfl,rfl⟩ | exact ⟨rfl,rfl,rfl,rfl,rfl⟩ | exact ⟨by unfold maxLen; omega,by omega⟩ | omega) ?_ | intro _)); refine VC_can (t := tr_evergreenref12_Add_10) _ _ (by (repeat ((conv => whnf); refine And.intro (by first | exact rfl | exact vint_eq (by omega) | exact vint_eq (by (dsimp only; omega)) | exact vsl_eq (by omega) | exact vsl_eq (by first | (dsimp only; omega) | (simp; done) | (simp; omega))) ?_)); exact trivial) (Thin.ref (.own (by omega) rfl (.own (by omega) rfl (Thin.refl _)))) (add_10 h _ _ _)
  (conv => whnf)
  refine stop_and ?_ ?_
  · (repeat' ((conv => whnf); first | refine ⟨xs,h.rs _,?_⟩ | refine ⟨ys,h.rl _,?_⟩ | refine And.intro (by first | exact o1 | exact o2 | exact fun _ => Thin.ref (.skip (h.th)) | exact fun _ => Thin.ref (.skip (.skip (h.th))) | exact fun _ => Thin.ref (.skip (.skip (.skip (h.th)))) | exact fun _ => Thin.ref (.skip (.skip (.skip (.skip (h.th))))) | exact Thin.ref (.skip (h.th)) | exact Thin.ref (.skip (.skip (h.th))) | exact Thin.ref (.skip (.skip (.skip (h.th)))) | exact Thin.ref (.skip (.skip (.skip (.skip (h.th))))) | exact ⟨rfl,oneAll_of rfl⟩ | exact oneAll_of rfl | exact rfl | exact ⟨rfl,rfl,rfl,rfl⟩ | exact ⟨rfl,rfl,rfl,rfl,rfl⟩ | exact ⟨by unfold maxLen; omega,by omega⟩ | omega) ?_ | intro _)); refine VC_can (t := tr_evergreenref12_Add_16) _ _ (by (repeat ((conv => whnf); refine And.intro (by first | exact rfl | exact vint_eq (by omega) | exact vint_eq (by (dsimp only; omega)) | exact vsl_eq (by omega) | exact vsl_eq (by first | (dsimp only; omega) | (simp; done) | (simp; omega))) ?_)); exact trivial) ((Ref.perm (.trans (.swap _ _ _) (.cons _ (.swap _ _ _)))).trans (Thin.ref (.own (by omega) rfl (.own (by omega) rfl (.own (by omega) rfl (Thin.refl _)))))) (add_16 h _ _ _ _ _)
  (repeat' ((conv => whnf); first | refine ⟨xs,h.rs _,?_⟩ | refine ⟨ys,h.rl _,?_⟩ | refine And.intro (by first | exact o1 | exact o2 | exact fun _ => Thin.ref (.skip (h.th)) | exact fun _ => Thin.ref (.skip (.skip (h.th))) | exact fun _ => Thin.ref (.skip (.skip (.skip (h.th)))) | exact fun _ => Thin.ref (.skip (.skip (.skip (.skip (h.th))))) | exact Thin.ref (.skip (h.th)) | exact Thin.ref (.skip (.skip (h.th))) | exact Thin.ref (.skip (.skip (.skip (h.th)))) | exact Thin.ref (.skip (.skip (.skip (.skip (h.th))))) | exact ⟨rfl,oneAll_of rfl⟩ | exact oneAll_of rfl | exact rfl | exact ⟨rfl,rfl,rfl,rfl⟩ | exact ⟨rfl,rfl,rfl,rfl,rfl⟩ | exact ⟨by unfold maxLen; omega,by omega⟩ | omega) ?_ | intro _)); refine VC_can (t := tr_evergreenref12_Add_17) _ _ (by (repeat ((conv => whnf); refine And.intro (by first | exact rfl | exact vint_eq (by omega) | exact vint_eq (by (dsimp only; omega)) | exact vsl_eq (by omega) | exact vsl_eq (by first | (dsimp only; omega) | (simp; done) | (simp; omega))) ?_)); exact trivial) ((Ref.perm (.trans (.swap _ _ _) (.cons _ (.swap _ _ _)))).trans (Thin.ref (.own (by omega) rfl (.own (by omega) rfl (.own (by omega) rfl (Thin.refl _)))))) (add_17 h _ _ _ _)
theorem add_19 (h : AddH w K Lb Lh E r N a1 a2 c1 c2 b6 xs ys) : ∀ (q1 : Option Addr) (q2 : Nat) (z1 : Option Addr) (z2 : Nat) (z3 : Option Addr),VT Try.prog w [] ops_evergreenref12_Add_6 K tr_evergreenref12_Add_19 Lb [(26,.sl 26 q1 0 q2),(33,.sl 33 z1 0 z2),(38,.sl 38 z3 1 1),(28,.v (.slice a1 E.length c1)),(30,.v (ruV r)),(35,.v (.slice a2 E.length c2)),(37,.v (.int .i64 N)),(44,.v (.int .i64 ((E.length : Int) + 1))),(6,.ptr 6 b6 0)] (.own 26 q1 0 q2 ty_api_Rule 5 [] :: .own 33 z1 0 z2 ty_int 1 [] :: .own 38 z3 1 1 ty_int 1 ([.int .i64 N]) :: Lh) := by
  have hE := h.hE
  have o1 := h.o1
  have o2 := h.o2
  intro q1 q2 z1 z2 z3
  (conv => whnf)
  refine stop_and ?_ ?_
  · (repeat' ((conv => whnf); first | refine ⟨xs,h.rs _,?_⟩ | refine ⟨ys,h.rl _,?_⟩ | refine And.intro (by first | exact o1 | exact o2 | exact fun _ => Thin.ref (.skip (h.th)) | exact fun _ => Thin.ref (.skip (.skip (h.th))) | exact fun _ => Thin.ref (.skip (.skip (.skip (h.th)))) | exact fun _ => Thin.ref (.skip (.skip (.skip (.skip (h.th))))) | exact Thin.ref (.skip (h.th)) | exact Thin.ref (.skip (.skip (h.th))) | exact Thin.ref (.skip (.skip (.skip (h.th)))) | exact Thin.ref (.skip (.skip (.skip (.skip (h.th))))) | exact ⟨rfl,oneAll_of rfl⟩ | exact oneAll_of rfl | exact rfl | exact ⟨rfl,rfl,rfl,rfl⟩ | exact ⟨rfl,rfl,rfl,rfl,rfl⟩ | exact ⟨by unfold maxLen; omega,by omega⟩ | omega) ?_ | intro _)); refine VC_can (t := tr_evergreenref12_Add_11) _ _ (by (repeat ((conv => whnf); refine And.intro (by first | exact rfl | exact vint_eq (by omega) | exact vint_eq (by (dsimp only; omega)) | exact vsl_eq (by omega) | exact vsl_eq (by first | (dsimp only; omega) | (simp; done) | (simp; omega))) ?_)); exact trivial) (Thin.ref (.own (by omega) rfl (.own (by omega) rfl (.own (by omega) rfl (Thin.refl _))))) (add_11 h _ _ _ _ _)
  (repeat' ((conv => whnf); first | refine ⟨xs,h.rs _,?_⟩ | refine ⟨ys,h.rl _,?_⟩ | refine And.intro (by first | exact o1 | exact o2 | exact fun _ => Thin.ref (.skip (h.th)) | exact fun _ => Thin.ref (.skip (.skip (h.th))) | exact fun _ => Thin.ref (.skip (.skip (.skip (h.th)))) | exact fun _ => Thin.ref (.skip (.skip (.skip (.skip (h.th))))) | exact Thin.ref (.skip (h.th)) | exact Thin.ref (.skip (.skip (h.th))) | exact Thin.ref (.skip (.skip (.skip (h.th)))) | exact Thin.ref (.skip (.skip (.skip (.skip (h.th))))) | exact ⟨rfl,oneAll_of rfl⟩ | exact oneAll_of rfl | exact rfl | exact ⟨rfl,rfl,rfl,rfl⟩ | exact ⟨rfl,rfl,rfl,rfl,rfl⟩ | exact ⟨by unfold maxLen; omega,by omega⟩ | omega) ?_ | intro _)); refine VC_can (t := tr_evergreenref12_Add_15) _ _ (by (repeat ((conv => whnf); refine And.intro (by first | exact rfl | exact vint_eq (by omega) | exact vint_eq (by (dsimp only; omega)) | exact vsl_eq (by omega) | exact vsl_eq (by first | (dsimp only; omega) | (simp; done) | (simp; omega))) ?_)); exact trivial) ((Ref.perm (.swap _ _ _)).trans (Thin.ref (.own (by omega) rfl (.own (by omega) rfl (.own (by omega) rfl (.own (by omega) rfl (Thin.refl _))))))) (add_15 h _ _ _ _ _ _)
theorem add_20 (h : AddH w K Lb Lh E r N a1 a2 c1 c2 b6 xs ys) : ∀ (q1 : Option Addr) (q2 : Nat) (z1 : Option Addr) (z2 : Nat),VT Try.prog w [] ops_evergreenref12_Add_6 K tr_evergreenref12_Add_20 Lb [(26,.sl 26 q1 0 q2),(33,.sl 33 z1 0 z2),(28,.v (.slice a1 E.length c1)),(30,.v (ruV r)),(35,.v (.slice a2 E.length c2)),(37,.v (.int .i64 N)),(44,.v (.int .i64 ((E.length : Int) + 1))),(6,.ptr 6 b6 0)] (.own 26 q1 0 q2 ty_api_Rule 5 [] :: .own 33 z1 0 z2 ty_int 1 [] :: Lh) := by
  have hE := h.hE
  have o1 := h.o1
  have o2 := h.o2
  intro q1 q2 z1 z2
  (conv => whnf)
  refine stop_and ?_ ?_
  · (repeat' ((conv => whnf); first | refine ⟨xs,h.rs _,?_⟩ | refine ⟨ys,h.rl _,?_⟩ | refine And.intro (by first | exact o1 | exact o2 | exact fun _ => Thin.ref (.skip (h.th)) | exact fun _ => Thin.ref (.skip (.skip (h.th))) | exact fun _ => Thin.ref (.skip (.skip (.skip (h.th)))) | exact fun _ => Thin.ref (.skip (.skip (.skip (.skip (h.th))))) | exact Thin.ref (.skip (h.th)) | exact Thin.ref (.skip (.skip (h.th))) | exact Thin.ref (.skip (.skip (.skip (h.th)))) | exact Thin.ref (.skip (.skip (.skip (.skip (h.th))))) | exact ⟨rfl,oneAll_of rfl⟩ | exact oneAll_of rfl | exact rfl | exact ⟨rfl,rfl,rfl,rfl⟩ | exact ⟨rfl,rfl,rfl,rfl,rfl⟩ | exact ⟨by unfold maxLen; omega,by omega⟩ | omega) ?_ | intro _)); refine VC_can (t := tr_evergreenref12_Add_12) _ _ (by (repeat ((conv => whnf); refine And.intro (by first | exact rfl | exact vint_eq (by omega) | exact vint_eq (by (dsimp only; omega)) | exact vsl_eq (by omega) | exact vsl_eq (by first | (dsimp only; omega) | (simp; done) | (simp; omega))) ?_)); exact trivial) (Thin.ref (.own (by omega) rfl (.own (by omega) rfl (Thin.refl _)))) (add_12 h _ _ _ _)
  (conv => whnf)
  refine stop_and ?_ ?_
  · (repeat' ((conv => whnf); first | refine ⟨xs,h.rs _,?_⟩ | refine ⟨ys,h.rl _,?_⟩ | refine And.intro (by first | exact o1 | exact o2 | exact fun _ => Thin.ref (.skip (h.th)) | exact fun _ => Thin.ref (.skip (.skip (h.th))) | exact fun _ => Thin.ref (.skip (.skip (.skip (h.th)))) | exact fun _ => Thin.ref (.skip (.skip (.skip (.skip (h.th))))) | exact Thin.ref (.skip (h.th)) | exact Thin.ref (.skip (.skip (h.th))) | exact Thin.ref (.skip (.skip (.skip (h.th)))) | exact Thin.ref (.skip (.skip (.skip (.skip (h.th))))) | exact ⟨rfl,oneAll_of rfl⟩ | exact oneAll_of rfl | exact rfl | exact ⟨rfl,rfl,rfl,rfl⟩ | exact ⟨rfl,rfl,rfl,rfl,rfl⟩ | exact ⟨by unfold maxLen; omega,by omega⟩ | omega) ?_ | intro _)); refine VC_can (t := tr_evergreenref12_Add_16) _ _ (by (repeat ((conv => whnf); refine And.intro (by first | exact rfl | exact vint_eq (by omega) | exact vint_eq (by (dsimp only; omega)) | exact vsl_eq (by omega) | exact vsl_eq (by first | (dsimp only; omega) | (simp; done) | (simp; omega))) ?_)); exact trivial) ((Ref.perm (.swap _ _ _)).trans (Thin.ref (.own (by omega) rfl (.own (by omega) rfl (.own (by omega) rfl (Thin.refl _)))))) (add_16 h _ _ _ _ _)
  (repeat' ((conv => whnf); first | refine ⟨xs,h.rs _,?_⟩ | refine ⟨ys,h.rl _,?_⟩ | refine And.intro (by first | exact o1 | exact o2 | exact fun _ => Thin.ref (.skip (h.th)) | exact fun _ => Thin.ref (.skip (.skip (h.th))) | exact fun _ => Thin.ref (.skip (.skip (.skip (h.th)))) | exact fun _ => Thin.ref (.skip (.skip (.skip (.skip (h.th))))) | exact Thin.ref (.skip (h.th)) | exact Thin.ref (.skip (.skip (h.th))) | exact Thin.ref (.skip (.skip (.skip (h.th)))) | exact Thin.ref (.skip (.skip (.skip (.skip (h.th))))) | exact ⟨rfl,oneAll_of rfl⟩ | exact oneAll_of rfl | exact rfl | exact ⟨rfl,rfl,rfl,rfl⟩ | exact ⟨rfl,rfl,rfl,rfl,rfl⟩ | exact ⟨by unfold maxLen; omega,by omega⟩ | omega) ?_ | intro _)); refine VC_can (t := tr_evergreenref12_Add_19) _ _ (by (repeat ((conv => whnf); refine And.intro (by first | exact rfl | exact vint_eq (by omega) | exact vint_eq (by (dsimp only; omega)) | exact vsl_eq (by omega) | exact vsl_eq (by first | (dsimp only; omega) | (simp; done) | (simp; omega))) ?_)); exact trivial) ((Ref.perm (.trans (.swap _ _ _) (.cons _ (.swap _ _ _)))).trans (Thin.ref (.own (by omega) rfl (.own (by omega) rfl (.own (by omega) rfl (Thin.refl _)))))) (add_19 h _ _ _ _ _)
theorem add_21 (h : AddH w K Lb Lh E r N a1 a2 c1 c2 b6 xs ys) : ∀ (q1 : Option Addr) (q2 : Nat) (z3 : Option Addr),VT Try.prog w [] ops_evergreenref12_Add_6 K tr_evergreenref12_Add_21 Lb [(26,.sl 26 q1 0 q2),(38,.sl 38 z3 1 1),(28,.v (.slice a1 E.length c1)),(30,.v (ruV r)),(35,.v (.slice a2 E.length c2)),(37,.v (.int .i64 N)),(44,.v (.int .i64 ((E.length : Int) + 1))),(6,.ptr 6 b6 0)] (.own 26 q1 0 q2 ty_api_Rule 5 [] :: .own 38 z3 1 1 ty_int 1 ([.int .i64 N]) :: Lh) := by
  have hE := h.hE
  have o1 := h.o1
  have o2 := h.o2
  intro q1 q2 z3
  (conv => whnf)
  refine stop_and ?_ ?_
  · (repeat' ((conv => whnf); first | refine ⟨xs,h.rs _,?_⟩ | refine ⟨ys,h.rl _,?_⟩ | refine And.intro (by first | exact o1 | exact o2 | exact fun _ => Thin.ref (.skip (h.th)) | exact fun _ => Thin.ref (.skip (.skip (h.th))) | exact fun _ => Thin.ref (.skip (.skip (.skip (h.th)))) | exact fun _ => Thin.ref (.skip (.skip (.skip (.skip (h.th))))) | exact Thin.ref (.skip (h.th)) | exact Thin.ref (.skip (.skip (h.th))) | exact Thin.ref (.skip (.skip (.skip (h.th)))) | exact Thin.ref (.skip (.skip (.skip (.skip (h.th))))) | exact ⟨rfl,oneAll_of rfl⟩ | exact oneAll_of rfl | exact rfl | exact ⟨rfl,rfl,rfl,rfl⟩ | exact ⟨rfl,rfl,rfl,rfl,rfl⟩ | exact ⟨by unfold maxLen; omega,by omega⟩ | omega) ?_ | intro _)); refine VC_can (t := tr_evergreenref12_Add_13) _ _ (by (repeat ((conv => whnf); refine And.intro (by first | exact rfl | exact vint_eq (by omega) | exact vint_eq (by (dsimp only; omega)) | exact vsl_eq (by omega) | exact vsl_eq (by first | (dsimp only; omega) | (simp; done) | (simp; omega))) ?_)); exact trivial) (Thin.ref (.own (by omega) rfl (.own (by omega) rfl (Thin.refl _)))) (add_13 h _ _ _)
  (conv => whnf)
  refine stop_and ?_ ?_
  · (repeat' ((conv => whnf); first | refine ⟨xs,h.rs _,?_⟩ | refine ⟨ys,h.rl _,?_⟩ | refine And.intro (by first | exact o1 | exact o2 | exact fun _ => Thin.ref (.skip (h.th)) | exact fun _ => Thin.ref (.skip (.skip (h.th))) | exact fun _ => Thin.ref (.skip (.skip (.skip (h.th)))) | exact fun _ => Thin.ref (.skip (.skip (.skip (.skip (h.th))))) | exact Thin.ref (.skip (h.th)) | exact Thin.ref (.skip (.skip (h.th))) | exact Thin.ref (.skip (.skip (.skip (h.th)))) | exact Thin.ref (.skip (.skip (.skip (.skip (h.th))))) | exact ⟨rfl,oneAll_of rfl⟩ | exact oneAll_of rfl | exact rfl | exact ⟨rfl,rfl,rfl,rfl⟩ | exact ⟨rfl,rfl,rfl,rfl,rfl⟩ | exact ⟨by unfold maxLen; omega,by omega⟩ | omega) ?_ | intro _)); refine VC_can (t := tr_evergreenref12_Add_17) _ _ (by (repeat ((conv => whnf); refine And.intro (by first | exact rfl | exact vint_eq (by omega) | exact vint_eq (by (dsimp only; omega)) | exact vsl_eq (by omega) | exact vsl_eq (by first | (dsimp only; omega) | (simp; done) | (simp; omega))) ?_)); exact trivial) ((Ref.perm (.swap _ _ _)).trans (Thin.ref (.own (by omega) rfl (.own (by omega) rfl (.own (by omega) rfl (Thin.refl _)))))) (add_17 h _ _ _ _)
  (repeat' ((conv => whnf); first | refine ⟨xs,h.rs _,?_⟩ | refine ⟨ys,h.rl _,?_⟩ | refine And.intro (by first | exact o1 | exact o2 | exact fun _ => Thin.ref (.skip (h.th)) | exact fun _ => Thin.ref (.skip (.skip (h.th))) | exact fun _ => Thin.ref (.skip (.skip (.skip (h.th)))) | exact fun _ => Thin.ref (.skip (.skip (.skip (.skip (h.th))))) | exact Thin.ref (.skip (h.th)) | exact Thin.ref (.skip (.skip (h.th))) | exact Thin.ref (.skip (.skip (.skip (h.th)))) | exact Thin.ref (.skip (.skip (.skip (.skip (h.th))))) | exact ⟨rfl,oneAll_of rfl⟩ | exact oneAll_of rfl | exact rfl | exact ⟨rfl,rfl,rfl,rfl⟩ | exact ⟨rfl,rfl,rfl,rfl,rfl⟩ | exact ⟨by unfold maxLen; omega,by omega⟩ | omega) ?_ | intro _)); refine VC_can (t := tr_evergreenref12_Add_19) _ _ (by (repeat ((conv => whnf); refine And.intro (by first | exact rfl | exact vint_eq (by omega) | exact vint_eq (by (dsimp only; omega)) | exact vsl_eq (by omega) | exact vsl_eq (by first | (dsimp only; omega) | (simp; done) | (simp; omega))) ?_)); exact trivial) ((Ref.perm (.swap _ _ _)).trans (Thin.ref (.own (by omega) rfl (.own (by omega) rfl (.own (by omega) rfl (Thin.refl _)))))) (add_19 h _ _ _ _ _)
theorem add_22 (h : AddH w K Lb Lh E r N a1 a2 c1 c2 b6 xs ys) : ∀ (q1 : Option Addr) (q2 : Nat),VT Try.prog w [] ops_evergreenref12_Add_6 K tr_evergreenref12_Add_22 Lb [(26,.sl 26 q1 0 q2),(28,.v (.slice a1 E.length c1)),(30,.v (ruV r)),(35,.v (.slice a2 E.length c2)),(37,.v (.int .i64 N)),(44,.v (.int .i64 ((E.length : Int) + 1))),(6,.ptr 6 b6 0)] (.own 26 q1 0 q2 ty_api_Rule 5 [] :: Lh) := by
  have hE := h.hE
  have o1 := h.o1
  have o2 := h.o2
  intro q1 q2
  (conv => whnf)
  refine stop_and ?_ ?_
  · (repeat' ((conv => whnf); first | refine ⟨xs,h.rs _,?_⟩ | refine ⟨ys,h.rl _,?_⟩ | refine And.intro (by first | exact o1 | exact o2 | exact fun _ => Thin.ref (.skip (h.th)) | exact fun _ => Thin.ref (.skip (.skip (h.th))) | exact fun _ => Thin.ref (.skip (.skip (.skip (h.th)))) | exact fun _ => Thin.ref (.skip (.skip (.skip (.skip (h.th))))) | exact Thin.ref (.skip (h.th)) | exact Thin.ref (.skip (.skip (h.th))) | exact Thin.ref (.skip (.skip (.skip (h.th)))) | exact Thin.ref (.skip (.skip (.skip (.skip (h.th))))) | exact ⟨rfl,oneAll_of rfl⟩ | exact oneAll_of rfl | exact rfl | exact ⟨rfl,rfl,rfl,rfl⟩ | exact ⟨rfl,rfl,rfl,rfl,rfl⟩ | exact ⟨by unfold maxLen; omega,by omega⟩ | omega) ?_ | intro _)); refine VC_can (t := tr_evergreenref12_Add_14) _ _ (by (repeat ((conv => whnf); refine And.intro (by first | exact rfl | exact vint_eq (by omega) | exact vint_eq (by (dsimp only; omega)) | exact vsl_eq (by omega) | exact vsl_eq (by first | (dsimp only; omega) | (simp; done) | (simp; omega))) ?_)); exact trivial) (Thin.ref (.own (by omega) rfl (Thin.refl _))) (add_14 h _ _)
  (conv => whnf)
  refine stop_and ?_ ?_
  · (repeat' ((conv => whnf); first | refine ⟨xs,h.rs _,?_⟩ | refine ⟨ys,h.rl _,?_⟩ | refine And.intro (by first | exact o1 | exact o2 | exact fun _ => Thin.ref (.skip (h.th)) | exact fun _ => Thin.ref (.skip (.skip (h.th))) | exact fun _ => Thin.ref (.skip (.skip (.skip (h.th)))) | exact fun _ => Thin.ref (.skip (.skip (.skip (.skip (h.th))))) | exact Thin.ref (.skip (h.th)) | exact Thin.ref (.skip (.skip (h.th))) | exact Thin.ref (.skip (.skip (.skip (h.th)))) | exact Thin.ref (.skip (.skip (.skip (.skip (h.th))))) | exact ⟨rfl,oneAll_of rfl⟩ | exact oneAll_of rfl | exact rfl | exact ⟨rfl,rfl,rfl,rfl⟩ | exact ⟨rfl,rfl,rfl,rfl,rfl⟩ | exact ⟨by unfold maxLen; omega,by omega⟩ | omega) ?_ | intro _)); refine VC_can (t := tr_evergreenref12_Add_18) _ _ (by (repeat ((conv => whnf); refine And.intro (by first | exact rfl | exact vint_eq (by omega) | exact vint_eq (by (dsimp only; omega)) | exact vsl_eq (by omega) | exact vsl_eq (by first | (dsimp only; omega) | (simp; done) | (simp; omega))) ?_)); exact trivial) ((Ref.perm (.swap _ _ _)).trans (Thin.ref (.own (by omega) rfl (.own (by omega) rfl (Thin.refl _))))) (add_18 h _ _ _)
  (conv => whnf)
  refine stop_and ?_ ?_
  · (repeat' ((conv => whnf); first | refine ⟨xs,h.rs _,?_⟩ | refine ⟨ys,h.rl _,?_⟩ | refine And.intro (by first | exact o1 | exact o2 | exact fun _ => Thin.ref (.skip (h.th)) | exact fun _ => Thin.ref (.skip (.skip (h.th))) | exact fun _ => Thin.ref (.skip (.skip (.skip (h.th)))) | exact fun _ => Thin.ref (.skip (.skip (.skip (.skip (h.th))))) | exact Thin.ref (.skip (h.th)) | exact Thin.ref (.skip (.skip (h.th))) | exact Thin.ref (.skip (.skip (.skip (h.th)))) | exact Thin.ref (.skip (.skip (.skip (.skip (h.th))))) | exact ⟨rfl,oneAll_of rfl⟩ | exact oneAll_of rfl | exact rfl | exact ⟨rfl,rfl,rfl,rfl⟩ | exact ⟨rfl,rfl,rfl,rfl,rfl⟩ | exact ⟨by unfold maxLen; omega,by omega⟩ | omega) ?_ | intro _)); refine VC_can (t := tr_evergreenref12_Add_20) _ _ (by (repeat ((conv => whnf); refine And.intro (by first | exact rfl | exact vint_eq (by omega) | exact vint_eq (by (dsimp only; omega)) | exact vsl_eq (by omega) | exact vsl_eq (by first | (dsimp only; omega) | (simp; done) | (simp; omega))) ?_)); exact trivial) ((Ref.perm (.swap _ _ _)).trans (Thin.ref (.own (by omega) rfl (.own (by omega) rfl (Thin.refl _))))) (add_20 h _ _ _ _)
  (repeat' ((conv => whnf); first | refine ⟨xs,h.rs _,?_⟩ | refine ⟨ys,h.rl _,?_⟩ | refine And.intro (by first | exact o1 | exact o2 | exact fun _ => Thin.ref (.skip (h.th)) | exact fun _ => Thin.ref (.skip (.skip (h.th))) | exact fun _ => Thin.ref (.skip (.skip (.skip (h.th)))) | exact fun _ => Thin.ref (.skip (.skip (.skip (.skip (h.th))))) | exact Thin.ref (.skip (h.th)) | exact Thin.ref (.skip (.skip (h.th))) | exact Thin.ref (.skip (.skip (.skip (h.th)))) | exact Thin.ref (.skip (.skip (.skip (.skip (h.th))))) | exact ⟨rfl,oneAll_of rfl⟩ | exact oneAll_of rfl | exact rfl | exact ⟨rfl,rfl,rfl,rfl⟩ | exact ⟨rfl,rfl,rfl,rfl,rfl⟩ | exact ⟨by unfold maxLen; omega,by omega⟩ | omega) ?_ | intro _)); refine VC_can (t := tr_evergreenref12_Add_21) _ _ (by (repeat ((conv => whnf); refine And.intro (by first | exact rfl | exact vint_eq (by omega) | exact vint_eq (by (dsimp only; omega)) | exact vsl_eq (by omega) | exact vsl_eq (by first | (dsimp only; omega) | (simp; done) | (simp; omega))) ?_)); exact trivial) ((Ref.perm (.swap _ _ _)).trans (Thin.ref (.own (by omega) rfl (.own (by omega) rfl (Thin.refl _))))) (add_21 h _ _ _)
theorem add_23 (h : AddH w K Lb Lh E r N a1 a2 c1 c2 b6 xs ys) : ∀ (q3 : Option Addr) (z1 : Option Addr) (z2 : Nat) (z3 : Option Addr),VT Try.prog w [] ops_evergreenref12_Add_6 K tr_evergreenref12_Add_23 Lb [(31,.sl 31 q3 1 1),(33,.sl 33 z1 0 z2),(38,.sl 38 z3 1 1),(28,.v (.slice a1 E.length c1)),(30,.v (ruV r)),(35,.v (.slice a2 E.length c2)),(37,.v (.int .i64 N)),(44,.v (.int .i64 ((E.length : Int) + 1))),(6,.ptr 6 b6 0)] (.own 31 q3 1 1 ty_api_Rule 5 (ruC r) :: .own 33 z1 0 z2 ty_int 1 [] :: .own 38 z3 1 1 ty_int 1 ([.int .i64 N]) :: Lh) := by
  have hE := h.hE
  have o1 := h.o1
  have o2 := h.o2
  intro q3 z1 z2 z3
  (repeat' ((conv => whnf); first | refine ⟨xs,h.rs _,?_⟩ | refine ⟨ys,h.rl _,?_⟩ | refine And.intro (by first | exact o1 | exact o2 | exact fun _ => Thin.ref (.skip (h.th)) | exact fun _ => Thin.ref (.skip (.skip (h.th))) | exact fun _ => Thin.ref (.skip (.skip (.skip (h.th)))) | exact fun _ => Thin.ref (.skip (.skip (.skip (.skip (h.th))))) | exact Thin.ref (.skip (h.th)) | exact Thin.ref (.skip (.skip (h.th))) | exact Thin.ref (.skip (.skip (.skip (h.th)))) | exact Thin.ref (.skip (.skip (.skip (.skip (h.th))))) | exact ⟨rfl,oneAll_of rfl⟩ | exact oneAll_of rfl | exact rfl | exact ⟨rfl,rfl,rfl,rfl⟩ | exact ⟨rfl,rfl,rfl,rfl,rfl⟩ | exact ⟨by unfold maxLen; omega,by omega⟩ | omega) ?_ | intro _)); refine VC_can (t := tr_evergreenref12_Add_15) _ _ (by (repeat ((conv => whnf); refine And.intro (by first | exact rfl | exact vint_eq (by omega) | exact vint_eq (by (dsimp only; omega)) | exact vsl_eq (by omega) | exact vsl_eq (by first | (dsimp only; omega) | (simp; done) | (simp; omega))) ?_)); exact trivial) (Thin.ref (.own (by omega) rfl (.own (by omega) rfl (.own (by omega) rfl (.own (by omega) rfl (Thin.refl _)))))) (add_15 h _ _ _ _ _ _)
theorem add_24 (h : AddH w K Lb Lh E r N a1 a2 c1 c2 b6 xs ys) : ∀ (q3 : Option Addr) (z1 : Option Addr) (z2 : Nat),VT Try.prog w [] ops_evergreenref12_Add_6 K tr_evergreenref12_Add_24 Lb [(31,.sl 31 q3 1 1),(33,.sl 33 z1 0 z2),(28,.v (.slice a1 E.length c1)),(30,.v (ruV r)),(35,.v (.slice a2 E.length c2)),(37,.v (.int .i64 N)),(44,.v (.int .i64 ((E.length : Int) + 1))),(6,.ptr 6 b6 0)] (.own 31 q3 1 1 ty_api_Rule 5 (ruC r) :: .own 33 z1 0 z2 ty_int 1 [] :: Lh) := by
  have hE := h.hE
  have o1 := h.o1
  have o2 := h.o2
  intro q3 z1 z2
  (conv => whnf)
  refine stop_and ?_ ?_
  · (repeat' ((conv => whnf); first | refine ⟨xs,h.rs _,?_⟩ | refine ⟨ys,h.rl _,?_⟩ | refine And.intro (by first | exact o1 | exact o2 | exact fun _ => Thin.ref (.skip (h.th)) | exact fun _ => Thin.ref (.skip (.skip (h.th))) | exact fun _ => Thin.ref (.skip (.skip (.skip (h.th)))) | exact fun _ => Thin.ref (.skip (.skip (.skip (.skip (h.th))))) | exact Thin.ref (.skip (h.th)) | exact Thin.ref (.skip (.skip (h.th))) | exact Thin.ref (.skip (.skip (.skip (h.th)))) | exact Thin.ref (.skip (.skip (.skip (.skip (h.th))))) | exact ⟨rfl,oneAll_of rfl⟩ | exact oneAll_of rfl | exact rfl | exact ⟨rfl,rfl,rfl,rfl⟩ | exact ⟨rfl,rfl,rfl,rfl,rfl⟩ | exact ⟨by unfold maxLen; omega,by omega⟩ | omega) ?_ | intro _)); refine VC_can (t := tr_evergreenref12_Add_16) _ _ (by (repeat ((conv => whnf); refine And.intro (by first | exact rfl | exact vint_eq (by omega) | exact vint_eq (by (dsimp only; omega)) | exact vsl_eq (by omega) | exact vsl_eq (by first | (dsimp only; omega) | (simp; done) | (simp; omega))) ?_)); exact trivial) (Thin.ref (.own (by omega) rfl (.own (by omega) rfl (.own (by omega) rfl (Thin.refl _))))) (add_16 h _ _ _ _ _)
  (repeat' ((conv => whnf); first | refine ⟨xs,h.rs _,?_⟩ | refine ⟨ys,h.rl _,?_⟩ | refine And.intro (by first | exact o1 | exact o2 | exact fun _ => Thin.ref (.skip (h.th)) | exact fun _ => Thin.ref (.skip (.skip (h.th))) | exact fun _ => Thin.ref (.skip (.skip (.skip (h.th)))) | exact fun _ => Thin.ref (.skip (.skip (.skip (.skip (h.th))))) | exact Thin.ref (.skip (h.th)) | exact Thin.ref (.skip (.skip (h.th))) | exact Thin.ref (.skip (.skip (.skip (h.th)))) | exact Thin.ref (.skip (.skip (.skip (.skip (h.th))))) | exact ⟨rfl,oneAll_of rfl⟩ | exact oneAll_of rfl | exact rfl | exact ⟨rfl,rfl,rfl,rfl⟩ | exact ⟨rfl,rfl,rfl,rfl,rfl⟩ | exact ⟨by unfold maxLen; omega,by omega⟩ | omega) ?_ | intro _)); refine VC_can (t := tr_evergreenref12_Add_23) _ _ (by (repeat ((conv => whnf); refine And.intro (by first | exact rfl | exact vint_eq (by omega) | exact vint_eq (by (dsimp only; omega)) | exact vsl_eq (by omega) | exact vsl_eq (by first | (dsimp only; omega) | (simp; done) | (simp; omega))) ?_)); exact trivial) ((Ref.perm (.trans (.swap _ _ _) (.cons _ (.swap _ _ _)))).trans (Thin.ref (.own (by omega) rfl (.own (by omega) rfl (.own (by omega) rfl (Thin.refl _)))))) (add_23 h _ _ _ _)
theorem add_25 (h : AddH w K Lb Lh E r N a1 a2 c1 c2 b6 xs ys) : ∀ (q3 : Option Addr) (z3 : Option Addr),VT Try.prog w [] ops_evergreenref12_Add_6 K tr_evergreenref12_Add_25 Lb [(31,.sl 31 q3 1 1),(38,.sl 38 z3 1 1),(28,.v (.slice a1 E.length c1)),(30,.v (ruV r)),(35,.v (.slice a2 E.length c2)),(37,.v (.int .i64 N)),(44,.v (.int .i64 ((E.length : Int) + 1))),(6,.ptr 6 b6 0)] (.own 31 q3 1 1 ty_api_Rule 5 (ruC r) :: .own 38 z3 1 1 ty_int 1 ([.int .i64 N]) :: Lh) := by
  have hE := h.hE
  have o1 := h.o1
  have o2 := h.o2
  intro q3 z3
  (conv => whnf)
  refine stop_and ?_ ?_
  · (repeat' ((conv => whnf); first | refine ⟨xs,h.rs _,?_⟩ | refine ⟨ys,h.rl _,?_⟩ | refine And.intro (by first | exact o1 | exact o2 | exact fun _ => Thin.ref (.skip (h.th)) | exact fun _ => Thin.ref (.skip (.skip (h.th))) | exact fun _ => Thin.ref (.skip (.skip (.skip (h.th)))) | exact fun _ => Thin.ref (.skip (.skip (.skip (.skip (h.th))))) | exact Thin.ref (.skip (h.th)) | exact Thin.ref (.skip (.skip (h.th))) | exact Thin.ref (.skip (.skip (.skip (h.th)))) | exact Thin.ref (.skip (.skip (.skip (.skip (h.th))))) | exact ⟨rfl,oneAll_of rfl⟩ | exact oneAll_of rfl | exact rfl | exact ⟨rfl,rfl,rfl,rfl⟩ | exact ⟨rfl,rfl,rfl,rfl,rfl⟩ | exact ⟨by unfold maxLen; omega,by omega⟩ | omega) ?_ | intro _)); refine VC_can (t := tr_evergreenref12_Add_17) _ _ (by (repeat ((conv => whnf); refine And.intro (by first | exact rfl | exact vint_eq (by omega) | exact vint_eq (by (dsimp only; omega)) | exact vsl_eq (by omega) | exact vsl_eq (by first | (dsimp only; omega) | (simp; done) | (simp; omega))) ?_)); exact trivial) (Thin.ref (.own (by omega) rfl (.own (by omega) rfl (.own (by omega) rfl (Thin.refl _))))) (add_17 h _ _ _ _)
  (repeat' ((conv => whnf); first | refine ⟨xs,h.rs _,?_⟩ | refine ⟨ys,h.rl _,?_⟩ | refine And.intro (by first | exact o1 | exact o2 | exact fun _ => Thin.ref (.skip (h.th)) | exact fun _ => Thin.ref (.skip (.skip (h.th))) | exact fun _ => Thin.ref (.skip (.skip (.skip (h.th)))) | exact fun _ => Thin.ref (.skip (.skip (.skip (.skip (h.th))))) | exact Thin.ref (.skip (h.th)) | exact Thin.ref (.skip (.skip (h.th))) | exact Thin.ref (.skip (.skip (.skip (h.th)))) | exact Thin.ref (.skip (.skip (.skip (.skip (h.th))))) | exact ⟨rfl,oneAll_of rfl⟩ | exact oneAll_of rfl | exact rfl | exact ⟨rfl,rfl,rfl,rfl⟩ | exact ⟨rfl,rfl,rfl,rfl,rfl⟩ | exact ⟨by unfold maxLen; omega,by omega⟩ | omega) ?_ | intro _)); refine VC_can (t := tr_evergreenref12_Add_23) _ _ (by (repeat ((conv => whnf); refine And.intro (by first | exact rfl | exact vint_eq (by omega) | exact vint_eq (by (dsimp only; omega)) | exact vsl_eq (by omega) | exact vsl_eq (by first | (dsimp only; omega) | (simp; done) | (simp; omega))) ?_)); exact trivial) ((Ref.perm (.swap _ _ _)).trans (Thin.ref (.own (by omega) rfl (.own (by omega) rfl (.own (by omega) rfl (Thin.refl _)))))) (add_23 h _ _ _ _)
theorem add_26 (h : AddH w K Lb Lh E r N a1 a2 c1 c2 b6 xs ys) : ∀ (q3 : Option Addr),VT Try.prog w [] ops_evergreenref12_Add_6 K tr_evergreenref12_Add_26 Lb [(31,.sl 31 q3 1 1),(28,.v (.slice a1 E.length c1)),(30,.v (ruV r)),(35,.v (.slice a2 E.length c2)),(37,.v (.int .i64 N)),(44,.v (.int .i64 ((E.length : Int) + 1))),(6,.ptr 6 b6 0)] (.own 31 q3 1 1 ty_api_Rule 5 (ruC r) :: Lh) := by
  have hE := h.hE
  have o1 := h.o1
  have o2 := h.o2
  intro q3
  (conv => whnf)
  refine stop_and ?_ ?_
  · (repeat' ((conv => whnf); first | refine ⟨xs,h.rs _,?_⟩ | refine ⟨ys,h.rl _,?_⟩ | refine And.intro (by first | exact o1 | exact o2 | exact fun _ => Thin.ref (.skip (h.th)) | exact fun _ => Thin.ref (.skip (.skip (h.th))) | exact fun _ => Thin.ref (.skip (.skip (.skip (h.th)))) | exact fun _ => Thin.ref (.skip (.skip (.skip (.skip (h.th))))) | exact Thin.ref (.skip (h.th)) | exact Thin.ref (.skip (.skip (h.th))) | exact Thin.ref (.skip (.skip (.skip (h.th)))) | exact Thin.ref (.skip (.skip (.skip (.skip (h.th))))) | exact ⟨rfl,oneAll_of rfl⟩ | exact oneAll_of rfl | exact rfl | exact ⟨rfl,rfl,rfl,rfl⟩ | exact ⟨rfl,rfl,rfl,rfl,rfl⟩ | exact ⟨by unfold maxLen; omega,by omega⟩ | omega) ?_ | intro _)); refine VC_can (t := tr_evergreenref12_Add_18) _ _ (by (repeat ((conv => whnf); refine And.intro (by first | exact rfl | exact vint_eq (by omega) | exact vint_eq (by (dsimp only; omega)) | exact vsl_eq (by omega) | exact vsl_eq (by first | (dsimp only; omega) | (simp; done) | (simp; omega))) ?_)); exact trivial) (Thin.ref (.own (by omega) rfl (.own (by omega) rfl (Thin.refl _)))) (add_18 h _ _ _)
  (conv => whnf)
  refine stop_and ?_ ?_
  · (repeat' ((conv => whnf); first | refine ⟨xs,h.rs _,?_⟩ | refine ⟨ys,h.rl _,?_⟩ | refine And.intro (by first | exact o1 | exact o2 | exact fun _ => Thin.ref (.skip (h.th)) | exact fun _ => Thin.ref (.skip (.skip (h.th))) | exact fun _ => Thin.ref (.skip (.skip (.skip (h.th)))) | exact fun _ => Thin.ref (.skip (.skip (.skip (.skip (h.th))))) | exact Thin.ref (.skip (h.th)) | exact Thin.ref (.skip (.skip (h.th))) | exact Thin.ref (.skip (.skip (.skip (h.th)))) | exact Thin.ref (.skip (.skip (.skip (.skip (h.th))))) | exact ⟨rfl,oneAll_of rfl⟩ | exact oneAll_of rfl | exact rfl | exact ⟨rfl,rfl,rfl,rfl⟩ | exact ⟨rfl,rfl,rfl,rfl,rfl⟩ | exact ⟨by unfold maxLen; omega,by omega⟩ | omega) ?_ | intro _)); refine VC_can (t := tr_evergreenref12_Add_24) _ _ (by (repeat ((conv => whnf); refine And.intro (by first | exact rfl | exact vint_eq (by omega) | exact vint_eq (by (dsimp only; omega)) | exact vsl_eq (by omega) | exact vsl_eq (by first | (dsimp only; omega) | (simp; done) | (simp; omega))) ?_)); exact trivial) ((Ref.perm (.swap _ _ _)).trans (Thin.ref (.own (by omega) rfl (.own (by omega) rfl (Thin.refl _))))) (add_24 h _ _ _)
  (repeat' ((conv => whnf); first | refine ⟨xs,h.rs _,?_⟩ | refine ⟨ys,h.rl _,?_⟩ | refine And.intro (by first | exact o1 | exact o2 | exact fun _ => Thin.ref (.skip (h.th)) | exact fun _ => Thin.ref (.skip (.skip (h.th))) | exact fun _ => Thin.ref (.skip (.skip (.skip (h.th)))) | exact fun _ => Thin.ref (.skip (.skip (.skip (.skip (h.th))))) | exact Thin.ref (.skip (h.th)) | exact Thin.ref (.skip (.skip (h.th))) | exact Thin.ref (.skip (.skip (.skip (h.th)))) | exact Thin.ref (.skip (.skip (.skip (.skip (h.th))))) | exact ⟨rfl,oneAll_of rfl⟩ | exact oneAll_of rfl | exact rfl | exact ⟨rfl,rfl,rfl,rfl⟩ | exact ⟨rfl,rfl,rfl,rfl,rfl⟩ | exact ⟨by unfold maxLen; omega,by omega⟩ | omega) ?_ | intro _)); refine VC_can (t := tr_evergreenref12_Add_25) _ _ (by (repeat ((conv => whnf); refine And.intro (by first | exact rfl | exact vint_eq (by omega) | exact vint_eq (by (dsimp only; omega)) | exact vsl_eq (by omega) | exact vsl_eq (by first | (dsimp only; omega) | (simp; done) | (simp; omega))) ?_)); exact trivial) ((Ref.perm (.swap _ _ _)).trans (Thin.ref (.own (by omega) rfl (.own (by omega) rfl (Thin.refl _))))) (add_25 h _ _)
theorem add_27 (h : AddH w K Lb Lh E r N a1 a2 c1 c2 b6 xs ys) : ∀ (z1 : Option Addr) (z2 : Nat) (z3 : Option Addr),VT Try.prog w [] ops_evergreenref12_Add_6 K tr_evergreenref12_Add_27 Lb [(33,.sl 33 z1 0 z2),(38,.sl 38 z3 1 1),(28,.v (.slice a1 E.length c1)),(30,.v (ruV r)),(35,.v (.slice a2 E.length c2)),(37,.v (.int .i64 N)),(44,.v (.int .i64 ((E.length : Int) + 1))),(6,.ptr 6 b6 0)] (.own 33 z1 0 z2 ty_int 1 [] :: .own 38 z3 1 1 ty_int 1 ([.int .i64 N]) :: Lh) := by
  have hE := h.hE
  have o1 := h.o1
  have o2 := h.o2
  intro z1 z2 z3
  (conv => whnf)
  refine stop_and ?_ ?_
  · (repeat' ((conv => whnf); first | refine ⟨xs,h.rs _,?_⟩ | refine ⟨ys,h.rl _,?_⟩ | refine And.intro (by first | exact o1 | exact o2 | exact fun _ => Thin.ref (.skip (h.th)) | exact fun _ => Thin.ref (.skip (.skip (h.th))) | exact fun _ => Thin.ref (.skip (.skip (.skip (h.th)))) | exact fun _ => Thin.ref (.skip (.skip (.skip (.skip (h.th))))) | exact Thin.ref (.skip (h.th)) | exact Thin.ref (.skip (.skip (h.th))) | exact Thin.ref (.skip (.skip (.skip (h.th)))) | exact Thin.ref (.skip (.skip (.skip (.skip (h.th))))) | exact ⟨rfl,oneAll_of rfl⟩ | exact oneAll_of rfl | exact rfl | exact ⟨rfl,rfl,rfl,rfl⟩ | exact ⟨rfl,rfl,rfl,rfl,rfl⟩ | exact ⟨by unfold maxLen; omega,by omega⟩ | omega) ?_ | intro _)); refine VC_can (t := tr_evergreenref12_Add_19) _ _ (by (repeat ((conv => whnf); refine And.intro (by first | exact rfl | exact vint_eq (by omega) | exact vint_eq (by (dsimp only; omega)) | exact vsl_eq (by omega) | exact vsl_eq (by first | (dsimp only; omega) | (simp; done) | (simp; omega))) ?_)); exact trivial) (Thin.ref (.own (by omega) rfl (.own (by omega) rfl (.own (by omega) rfl (Thin.refl _))))) (add_19 h _ _ _ _ _)
  (repeat' ((conv => whnf); first | refine ⟨xs,h.rs _,?_⟩ | refine ⟨ys,h.rl _,?_⟩ | refine And.intro (by first | exact o1 | exact o2 | exact fun _ => Thin.ref (.skip (h.th)) | exact fun _ => Thin.ref (.skip (.skip (h.th))) | exact fun _ => Thin.ref (.skip (.skip (.skip (h.th)))) | exact fun _ => Thin.ref (.skip (.skip (.skip (.skip (h.th))))) | exact Thin.ref (.skip (h.th)) | exact Thin.ref (.skip (.skip (h.th))) | exact Thin.ref (.skip (.skip (.skip (h.th)))) | exact Thin.ref (.skip (.skip (.skip (.skip (h.th))))) | exact ⟨rfl,oneAll_of rfl⟩ | exact oneAll_of rfl | exact rfl | exact ⟨rfl,rfl,rfl,rfl⟩ | exact ⟨rfl,rfl,rfl,rfl,rfl⟩ | exact ⟨by unfold maxLen; omega,by omega⟩ | omega) ?_ | intro _)); refine VC_can (t := tr_evergreenref12_Add_23) _ _ (by (repeat ((conv => whnf); refine And.intro (by first | exact rfl | exact vint_eq (by omega) | exact vint_eq (by (dsimp only; omega)) | exact vsl_eq (by omega) | exact vsl_eq (by first | (dsimp only; omega) | (simp; done) | (simp; omega))) ?_)); exact trivial) (Thin.ref (.own (by omega) rfl (.own (by omega) rfl (.own (by omega) rfl (Thin.refl _))))) (add_23 h _ _ _ _)
theorem add_28 (h : AddH w K Lb Lh E r N a1 a2 c1 c2 b6 xs ys) : ∀ (z1 : Option Addr) (z2 : Nat),VT Try.prog w [] ops_evergreenref12_Add_6 K tr_evergreenref12_Add_28 Lb [(33,.sl 33 z1 0 z2),(28,.v (.slice a1 E.length c1)),(30,.v (ruV r)),(35,.v (.slice a2 E.length c2)),(37,.v (.int .i64 N)),(44,.v (.int .i64 ((E.length : Int) + 1))),(6,.ptr 6 b6 0)] (.own 33 z1 0 z2 ty_int 1 [] :: Lh) := by
  have hE := h.hE
  have o1 := h.o1
  have o2 := h.o2
  intro z1 z2
  (conv => whnf)
  refine stop_and ?_ ?_
  · (repeat' ((conv => whnf); first | refine ⟨xs,h.rs _,?_⟩ | refine ⟨ys,h.rl _,?_⟩ | refine And.intro (by first | exact o1 | exact o2 | exact fun _ => Thin.ref (.skip (h.th)) | exact fun _ => Thin.ref (.skip (.skip (h.th))) | exact fun _ => Thin.ref (.skip (.skip (.skip (h.th)))) | exact fun _ => Thin.ref (.skip (.skip (.skip (.skip (h.th))))) | exact Thin.ref (.skip (h.th)) | exact Thin.ref (.skip (.skip (h.th))) | exact Thin.ref (.skip (.skip (.skip (h.th)))) | exact Thin.ref (.skip (.skip (.skip (.skip (h.th))))) | exact ⟨rfl,oneAll_of rfl⟩ | exact oneAll_of rfl | exact rfl | exact ⟨rfl,rfl,rfl,rfl⟩ | exact ⟨rfl,rfl,rfl,rfl,rfl⟩ | exact ⟨by unfold maxLen; omega,by omega⟩ | omega) ?_ | intro _)); refine VC_can (t := tr_evergreenref12_Add_20) _ _ (by (repeat ((conv => whnf); refine And.intro (by first | exact rfl | exact vint_eq (by omega) | exact vint_eq (by (dsimp only; omega)) | exact vsl_eq (by omega) | exact vsl_eq (by first | (dsimp only; omega) | (simp; done) | (simp; omega))) ?_)); exact trivial) (Thin.ref (.own (by omega) rfl (.own (by omega) rfl (Thin.refl _)))) (add_20 h _ _ _ _)
  (conv => whnf)
  refine stop_and ?_ ?_
  · (repeat' ((conv => whnf); first | refine ⟨xs,h.rs _,?_⟩ | refine ⟨ys,h.rl _,?_⟩ | refine And.intro (by first | exact o1 | exact o2 | exact fun _ => Thin.ref (.skip (h.th)) | exact fun _ => Thin.ref (.skip (.skip (h.th))) | exact fun _ => Thin.ref (.skip (.skip (.skip (h.th)))) | exact fun _ => Thin.ref (.skip (.skip (.skip (.skip (h.th))))) | exact Thin.ref (.skip (h.th)) | exact Thin.ref (.skip (.skip (h.th))) | exact Thin.ref (.skip (.skip (.skip (h.th)))) | exact Thin.ref (.skip (.skip (.skip (.skip (h.th))))) | exact ⟨rfl,oneAll_of rfl⟩ | exact oneAll_of rfl | exact rfl | exact ⟨rfl,rfl,rfl,rfl⟩ | exact ⟨rfl,rfl,rfl,rfl,rfl⟩ | exact ⟨by unfold maxLen; omega,by omega⟩ | omega) ?_ | intro _)); refine VC_can (t := tr_evergreenref12_Add_24) _ _ (by (repeat ((conv => whnf); refine And.intro (by first | exact rfl | exact vint_eq (by omega) | exact vint_eq (by (dsimp only; omega)) | exact vsl_eq (by omega) | exact vsl_eq (by first | (dsimp only; omega) | (simp; done) | (simp; omega))) ?_)); exact trivial) (Thin.ref (.own (by omega) rfl (.own (by omega) rfl (Thin.refl _)))) (add_24 h _ _ _)
  (repeat' ((conv => whnf); first | refine ⟨xs,h.rs _,?_⟩ | refine ⟨ys,h.rl _,?_⟩ | refine And.intro (by first | exact o1 | exact o2 | exact fun _ => Thin.ref (.skip (h.th)) | exact fun _ => Thin.ref (.skip (.skip (h.th))) | exact fun _ => Thin.ref (.skip (.skip (.skip (h.th)))) | exact fun _ => Thin.ref (.skip (.skip (.skip (.skip (h.th))))) | exact Thin.ref (.skip (h.th)) | exact Thin.ref (.skip (.skip (h.th))) | exact Thin.ref (.skip (.skip (.skip (h.th)))) | exact Thin.ref (.skip (.skip (.skip (.skip (h.th))))) | exact ⟨rfl,oneAll_of rfl⟩ | exact oneAll_of rfl | exact rfl | exact ⟨rfl,rfl,rfl,rfl⟩ | exact ⟨rfl,rfl,rfl,rfl,rfl⟩ | exact ⟨by unfold maxLen; omega,by omega⟩ | omega) ?_ | intro _)); refine VC_can (t := tr_evergreenref12_Add_27) _ _ (by (repeat ((conv => whnf); refine And.intro (by first | exact rfl | exact vint_eq (by omega) | exact vint_eq (by (dsimp only; omega)) | exact vsl_eq (by omega) | exact vsl_eq (by first | (dsimp only; omega) | (simp; done) | (simp; omega))) ?_)); exact trivial) ((Ref.perm (.swap _ _ _)).trans (Thin.ref (.own (by omega) rfl (.own (by omega) rfl (Thin.refl _))))) (add_27 h _ _ _)
theorem add_29 (h : AddH w K Lb Lh E r N a1 a2 c1 c2 b6 xs ys) : ∀ (z3 : Option Addr),VT Try.prog w [] ops_evergreenref12_Add_6 K tr_evergreenref12_Add_29 Lb [(38,.sl 38 z3 1 1),(28,.v (.slice a1 E.length c1)),(30,.v (ruV r)),(35,.v (.slice a2 E.length c2)),(37,.v (.int .i64 N)),(44,.v (.int .i64 ((E.length : Int) + 1))),(6,.ptr 6 b6 0)] (.own 38 z3 1 1 ty_int 1 ([.int .i64 N]) :: Lh) := by
  have hE := h.hE
  have o1 := h.o1
  have o2 := h.o2
  intro z3
  (conv => whnf)
  refine stop_and ?_ ?_
  · (repeat' ((conv => whnf); first | refine ⟨xs,h.rs _,?_⟩ | refine ⟨ys,h.rl _,?_⟩ | refine And.intro (by first | exact o1 | exact o2 | exact fun _ => Thin.ref (.skip (h.th)) | exact fun _ => Thin.ref (.skip (.skip (h.th))) | exact fun _ => Thin.ref (.skip (.skip (.skip (h.th)))) | exact fun _ => Thin.ref (.skip (.skip (.skip (.skip (h.th))))) | exact Thin.ref (.skip (h.th)) | exact Thin.ref (.skip (.skip (h.th))) | exact Thin.ref (.skip (.skip (.skip (h.th)))) | exact Thin.ref (.skip (.skip (.skip (.skip (h.th))))) | exact ⟨rfl,oneAll_of rfl⟩ | exact oneAll_of rfl | exact rfl | exact ⟨rfl,rfl,rfl,rfl⟩ | exact ⟨rfl,rfl,rfl,rfl,rfl⟩ | exact ⟨by unfold maxLen; omega,by omega⟩ | omega) ?_ | intro _)); refine VC_can (t := tr_evergreenref12_Add_21) _ _ (by (repeat ((conv => whnf); refine And.intro (by first | exact rfl | exact vint_eq (by omega) | exact vint_eq (by (dsimp only; omega)) | exact vsl_eq (by omega) | exact vsl_eq (by first | (dsimp only; omega) | (simp; done) | (simp; omega))) ?_)); exact trivial) (Thin.ref (.own (by omega) rfl (.own (by omega) rfl (Thin.refl _)))) (add_21 h _ _ _)
  (conv => whnf)
  refine stop_and ?_ ?_
  · (repeat' ((conv => whnf); first | refine ⟨xs,h.rs _,?_⟩ | refine ⟨ys,h.rl _,?_⟩ | refine And.intro (by first | exact o1 | exact o2 | exact fun _ => Thin.ref (.skip (h.th)) | exact fun _ => Thin.ref (.skip (.skip (h.th))) | exact fun _ => Thin.ref (.skip (.skip (.skip (h.th)))) | exact fun _ => Thin.ref (.skip (.skip (.skip (.skip (h.th))))) | exact Thin.ref (.skip (h.th)) | exact Thin.ref (.skip (.skip (h.th))) | exact Thin.ref (.skip (.skip (.skip (h.th)))) | exact Thin.ref (.skip (.skip (.skip (.skip (h.th))))) | exact ⟨rfl,oneAll_of rfl⟩ | exact oneAll_of rfl | exact rfl | exact ⟨rfl,rfl,rfl,rfl⟩ | exact ⟨rfl,rfl,rfl,rfl,rfl⟩ | exact ⟨by unfold maxLen; omega,by omega⟩ | omega) ?_ | intro _)); refine VC_can (t := tr_evergreenref12_Add_25) _ _ (by (repeat ((conv => whnf); refine And.intro (by first | exact rfl | exact vint_eq (by omega) | exact vint_eq (by (dsimp only; omega)) | exact vsl_eq (by omega) | exact vsl_eq (by first | (dsimp only; omega) | (simp; done) | (simp; omega))) ?_)); exact trivial) (Thin.ref (.own (by omega) rfl (.own (by omega) rfl (Thin.refl _)))) (add_25 h _ _)
  (repeat' ((conv => whnf); first | refine ⟨xs,h.rs _,?_⟩ | refine ⟨ys,h.rl _,?_⟩ | refine And.intro (by first | exact o1 | exact o2 | exact fun _ => Thin.ref (.skip (h.th)) | exact fun _ => Thin.ref (.skip (.skip (h.th))) | exact fun _ => Thin.ref (.skip (.skip (.skip (h.th)))) | exact fun _ => Thin.ref (.skip (.skip (.skip (.skip (h.th))))) | exact Thin.ref (.skip (h.th)) | exact Thin.ref (.skip (.skip (h.th))) | exact Thin.ref (.skip (.skip (.skip (h.th)))) | exact Thin.ref (.skip (.skip (.skip (.skip (h.th))))) | exact ⟨rfl,oneAll_of rfl⟩ | exact oneAll_of rfl | exact rfl | exact ⟨rfl,rfl,rfl,rfl⟩ | exact ⟨rfl,rfl,rfl,rfl,rfl⟩ | exact ⟨by unfold maxLen; omega,by omega⟩ | omega) ?_ | intro _)); refine VC_can (t := tr_evergreenref12_Add_27) _ _ (by (repeat ((conv => whnf); refine And.intro (by first | exact rfl | exact vint_eq (by omega) | exact vint_eq (by (dsimp only; omega)) | exact vsl_eq (by omega) | exact vsl_eq (by first | (dsimp only; omega) | (simp; done) | (simp; omega))) ?_)); exact trivial) (Thin.ref (.own (by omega) rfl (.own (by omega) rfl (Thin.refl _)))) (add_27 h _ _ _)
theorem add_30 (h : AddH w K Lb Lh E r N a1 a2 c1 c2 b6 xs ys) : VT Try.prog w [] ops_evergreenref12_Add_6 K tr_evergreenref12_Add_30 Lb [(28,.v (.slice a1 E.length c1)),(30,.v (ruV r)),(35,.v (.slice a2 E.length c2)),(37,.v (.int .i64 N)),(44,.v (.int .i64 ((E.length : Int) + 1))),(6,.ptr 6 b6 0)] (Lh) := by
  have hE := h.hE
  have o1 := h.o1
  have o2 := h.o2
  (conv => whnf)
  refine stop_and ?_ ?_
  · (repeat' ((conv => whnf); first | refine ⟨xs,h.rs _,?_⟩ | refine ⟨ys,h.rl _,?_⟩ | refine And.intro (by first | exact o1 | exact o2 | exact fun _ => Thin.ref (.skip (h.th)) | exact fun _ => Thin.ref (.skip (.skip (h.th))) | exact fun _ => Thin.ref (.skip (.skip (.skip (h.th)))) | exact fun _ => Thin.ref (.skip (.skip (.skip (.skip (h.th))))) | exact Thin.ref (.skip (h.th)) | exact Thin.ref (.skip (.skip (h.th))) | exact Thin.ref (.skip (.skip (.skip (h.th)))) | exact Thin.ref (.skip (.skip (.skip (.skip (h.th))))) | exact ⟨rfl,oneAll_of rfl⟩ | exact oneAll_of rfl | exact rfl | exact ⟨rfl,rfl,rfl,rfl⟩ | exact ⟨rfl,rfl,rfl,rfl,rfl⟩ | exact ⟨by unfold maxLen; omega,by omega⟩ | omega) ?_ | intro _)); refine VC_can (t := tr_evergreenref12_Add_22) _ _ (by (repeat ((conv => whnf); refine And.intro (by first | exact rfl | exact vint_eq (by omega) | exact vint_eq (by (dsimp only; omega)) | exact vsl_eq (by omega) | exact vsl_eq (by first | (dsimp only; omega) | (simp; done) | (simp; omega))) ?_)); exact trivial) (Thin.ref (.own (by omega) rfl (Thin.refl _))) (add_22 h _ _)
  (conv => whnf)
  refine stop_and ?_ ?_
  · (repeat' ((conv => whnf); first | refine ⟨xs,h.rs _,?_⟩ | refine ⟨ys,h.rl _,?_⟩ | refine And.intro (by first | exact o1 | exact o2 | exact fun _ => Thin.ref (.skip (h.th)) | exact fun _ => Thin.ref (.skip (.skip (h.th))) | exact fun _ => Thin.ref (.skip (.skip (.skip (h.th)))) | exact fun _ => Thin.ref (.skip (.skip (.skip (.skip (h.th))))) | exact Thin.ref (.skip (h.th)) | exact Thin.ref (.skip (.skip (h.th))) | exact Thin.ref (.skip (.skip (.skip (h.th)))) | exact Thin.ref (.skip (.skip (.skip (.skip (h.th))))) | exact ⟨rfl,oneAll_of rfl⟩ | exact oneAll_of rfl | exact rfl | exact ⟨rfl,rfl,rfl,rfl⟩ | exact ⟨rfl,rfl,rfl,rfl,rfl⟩ | exact ⟨by unfold maxLen; omega,by omega⟩ | omega) ?_ | intro _)); refine VC_can (t := tr_evergreenref12_Add_26) _ _ (by (repeat ((conv => whnf); refine And.intro (by first | exact rfl | exact vint_eq (by omega) | exact vint_eq (by (dsimp only; omega)) | exact vsl_eq (by omega) | exact vsl_eq (by first | (dsimp only; omega) | (simp; done) | (simp; omega))) ?_)); exact trivial) (Thin.ref (.own (by omega) rfl (Thin.refl _))) (add_26 h _)
  (conv => whnf)
  refine stop_and ?_ ?_
  · (repeat' ((conv => whnf); first | refine ⟨xs,h.rs _,?_⟩ | refine ⟨ys,h.rl _,?_⟩ | refine And.intro (by first | exact o1 | exact o2 | exact fun _ => Thin.ref (.skip (h.th)) | exact fun _ => Thin.ref (.skip (.skip (h.th))) | exact fun _ => Thin.ref (.skip (.skip (.skip (h.th)))) | exact fun _ => Thin.ref (.skip (.skip (.skip (.skip (h.th))))) | exact Thin.ref (.skip (h.th)) | exact Thin.ref (.skip (.skip (h.th))) | exact Thin.ref (.skip (.skip (.skip (h.th)))) | exact Thin.ref (.skip (.skip (.skip (.skip (h.th))))) | exact ⟨rfl,oneAll_of rfl⟩ | exact oneAll_of rfl | exact rfl | exact ⟨rfl,rfl,rfl,rfl⟩ | exact ⟨rfl,rfl,rfl,rfl,rfl⟩ | exact ⟨by unfold maxLen; omega,by omega⟩ | omega) ?_ | intro _)); refine VC_can (t := tr_evergreenref12_Add_28) _ _ (by (repeat ((conv => whnf); refine And.intro (by first | exact rfl | exact vint_eq (by omega) | exact vint_eq (by (dsimp only; omega)) | exact vsl_eq (by omega) | exact vsl_eq (by first | (dsimp only; omega) | (simp; done) | (simp; omega))) ?_)); exact trivial) (Thin.ref (.own (by omega) rfl (Thin.refl _))) (add_28 h _ _)
  (repeat' ((conv => whnf); first | refine ⟨xs,h.rs _,?_⟩ | refine ⟨ys,h.rl _,?_⟩ | refine And.intro (by first | exact o1 | exact o2 | exact fun _ => Thin.ref (.skip (h.th)) | exact fun _ => Thin.ref (.skip (.skip (h.th))) | exact fun _ => Thin.ref (.skip (.skip (.skip (h.th)))) | exact fun _ => Thin.ref (.skip (.skip (.skip (.skip (h.th))))) | exact Thin.ref (.skip (h.th)) | exact Thin.ref (.skip (.skip (h.th))) | exact Thin.ref (.skip (.skip (.skip (h.th)))) | exact Thin.ref (.skip (.skip (.skip (.skip (h.th))))) | exact ⟨rfl,oneAll_of rfl⟩ | exact oneAll_of rfl | exact rfl | exact ⟨rfl,rfl,rfl,rfl⟩ | exact ⟨rfl,rfl,rfl,rfl,rfl⟩ | exact ⟨by unfold maxLen; omega,by omega⟩ | omega) ?_ | intro _)); refine VC_can (t := tr_evergreenref12_Add_29) _ _ (by (repeat ((conv => whnf); refine And.intro (by first | exact rfl | exact vint_eq (by omega) | exact vint_eq (by (dsimp only; omega)) | exact vsl_eq (by omega) | exact vsl_eq (by first | (dsimp only; omega) | (simp; done) | (simp; omega))) ?_)); exact trivial) (Thin.ref (.own (by omega) rfl (Thin.refl _))) (add_29 h _)
end
end Go.Proofs.Ytoocnmfodhnpbaa
