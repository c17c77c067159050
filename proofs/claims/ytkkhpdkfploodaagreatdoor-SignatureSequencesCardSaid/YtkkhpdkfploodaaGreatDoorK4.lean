/- Arithmetic modulo 2^61 - 1, of numbers. Plain Lean: no program in sight. -/
import Derived.Test.YtkkhpdkfploodaaGreatDoorK2
import Derived.Test.YtkkhpdkfploodaaGreatDoorK3
import Derived.Lib.TrailingZeros
namespace Go.Proofs.YtkkhpdkfploodaaGreatDoor
open Go.EG
abbrev PP : Nat := 2305843009213693951
theorem fold61 (q r : Nat) : (q * 2305843009213693952 + r) % PP = (q + r) % PP := by
  rw [show q * 2305843009213693952 + r = PP * q + (q + r) by unfold PP; omega,Nat.mul_add_mod]
theorem red_eq (x : Nat) : x % PP = (x / 2305843009213693952 + x % 2305843009213693952) % PP := by
  rw [← fold61]
  congr 1
  omega
theorem red_small {x s : Nat} (hx : x < 18446744073709551616) (hs : s = x % 2305843009213693952 + x / 2305843009213693952) : x % PP = if PP ≤ s then s - PP else s := by
  rw [red_eq,Nat.add_comm,← hs]
  have h1 : s < PP + 8 := by unfold PP; omega
  split
  · rename_i h
    rw [Nat.mod_eq_sub_mod h,Nat.mod_eq_of_lt (by unfold PP at *; omega)]
  · rename_i h
    exact Nat.mod_eq_of_lt (by omega)
theorem mul_split (a b : Nat) : a * b = (a / 4294967296 * (b / 4294967296)) * 18446744073709551616 + (a / 4294967296 * (b % 4294967296) + a % 4294967296 * (b / 4294967296)) * 4294967296 + a % 4294967296 * (b % 4294967296) := by
  conv => lhs; rw [← Nat.div_add_mod a 4294967296,← Nat.div_add_mod b 4294967296]
  generalize a / 4294967296 = x1
  generalize a % 4294967296 = x0
  generalize b / 4294967296 = y1
  generalize b % 4294967296 = y0
  rw [Nat.add_mul,Nat.mul_add,Nat.mul_add]
  have e1 : 4294967296 * x1 * (4294967296 * y1) = x1 * y1 * 18446744073709551616 := by
    rw [Nat.mul_mul_mul_comm]; omega
  have e2 : 4294967296 * x1 * y0 = x1 * y0 * 4294967296 := by rw [Nat.mul_assoc,Nat.mul_comm]
  have e3 : x0 * (4294967296 * y1) = x0 * y1 * 4294967296 := by rw [Nat.mul_left_comm,Nat.mul_comm]
  rw [e1,e2,e3]
  omega
theorem mul_lt {a b c d : Nat} (h : a ≤ c) (k : b ≤ d) : a * b ≤ c * d := Nat.mul_le_mul h k
theorem mul64 {a b x0 x1 y0 y1 w0 t w1 w2 v1 : Nat} (ha : a < 18446744073709551616) (hb : b < 18446744073709551616) (hx0 : x0 = a % 4294967296) (hx1 : x1 = a / 4294967296) (hy0 : y0 = b % 4294967296) (hy1 : y1 = b / 4294967296)
    (hw0 : w0 = x0 * y0) (ht : t = x1 * y0 + w0 / 4294967296) (hw1 : w1 = t % 4294967296) (hw2 : w2 = t / 4294967296) (hv1 : v1 = w1 + x0 * y1) :
    t < 18446744073709551616 ∧ v1 < 18446744073709551616 ∧ x1 * y1 + w2 + v1 / 4294967296 = a * b / 18446744073709551616 ∧ x0 * y0 < 18446744073709551616 ∧ x1 * y0 < 18446744073709551616 ∧ x0 * y1 < 18446744073709551616 ∧ x1 * y1 + w2 + v1 / 4294967296 < 18446744073709551616 ∧ x1 * y1 + w2 < 18446744073709551616 ∧ x1 * y1 < 18446744073709551616 := by
  have hs := mul_split a b
  rw [← hx0,← hx1,← hy0,← hy1] at hs
  have h00 : x0 * y0 ≤ 4294967295 * 4294967295 := mul_lt (by omega) (by omega)
  have h10 : x1 * y0 ≤ 4294967295 * 4294967295 := mul_lt (by omega) (by omega)
  have h01 : x0 * y1 ≤ 4294967295 * 4294967295 := mul_lt (by omega) (by omega)
  have h11 : x1 * y1 ≤ 4294967295 * 4294967295 := mul_lt (by omega) (by omega)
  generalize x0 * y0 = p00 at *
  generalize x1 * y0 = p10 at *
  generalize x0 * y1 = p01 at *
  generalize x1 * y1 = p11 at *
  generalize a * b = m at *
  omega
theorem mulP {x y hi lo : Nat} (hx : x < PP) (hy : y < PP) (hhi : hi = x * y / 18446744073709551616) (hlo : lo = x * y % 18446744073709551616) :
    hi * 8 + lo / 2305843009213693952 + lo % 2305843009213693952 < 18446744073709551616 ∧ hi * 8 < 18446744073709551616 ∧ hi * 8 + lo / 2305843009213693952 < 18446744073709551616 ∧ (hi * 8 + lo / 2305843009213693952 + lo % 2305843009213693952) % PP = x * y % PP := by
  have h1 : x * y ≤ 2305843009213693950 * 2305843009213693950 := mul_lt (by unfold PP at hx; omega) (by unfold PP at hy; omega)
  refine ⟨by omega,by omega,by omega,?_⟩
  rw [← fold61]
  congr 1
  generalize x * y = m at *
  omega
theorem pow_half (a n : Nat) : a ^ n = (a * a) ^ (n / 2) * a ^ (n % 2) := by
  conv => lhs; rw [← Nat.div_add_mod n 2]
  rw [Nat.pow_add,Nat.pow_mul,Nat.pow_two]
theorem mod_mul_mod (a b : Nat) : (a % PP) * (b % PP) % PP = a * b % PP := (Nat.mul_mod a b PP).symm
theorem mod_mul_left (a b : Nat) : (a % PP) * b % PP = a * b % PP := by rw [Nat.mul_mod,Nat.mod_mod,← Nat.mul_mod]
theorem mod_mul_right (a b : Nat) : a * (b % PP) % PP = a * b % PP := by rw [Nat.mul_mod,Nat.mod_mod,← Nat.mul_mod]
theorem mod_pow (a n : Nat) : (a % PP) ^ n % PP = a ^ n % PP := (Nat.pow_mod a n PP).symm
theorem mod_add_mod' (a b : Nat) : (a % PP + b % PP) % PP = (a + b) % PP := (Nat.add_mod a b PP).symm
theorem pow_round1 {r a n t : Nat} (h : r * a ^ n % PP = t) (hn : n % 2 = 1) : (r * a % PP) * (a * a % PP) ^ (n / 2) % PP = t := by
  rw [← h,mod_mul_left,← mod_mul_right,mod_pow,mod_mul_right]
  rw [pow_half a n,hn,Nat.pow_one]
  congr 1
  ac_rfl
theorem pow_round0 {r a n t : Nat} (h : r * a ^ n % PP = t) (hn : n % 2 ≠ 1) : r * (a * a % PP) ^ (n / 2) % PP = t := by
  rw [← h,← mod_mul_right,mod_pow,mod_mul_right]
  rw [pow_half a n,show n % 2 = 0 by omega,Nat.pow_zero,Nat.mul_one]
theorem shr_bit (n i : Nat) : n / 2 ^ i = 2 * (n / 2 ^ (i + 1)) + n / 2 ^ i % 2 := by
  rw [Nat.pow_succ,← Nat.div_div_eq_div_mul]
  omega
theorem dbl_round {a b i : Nat} : ((a * (b / 2 ^ (i + 1)) % PP + a * (b / 2 ^ (i + 1)) % PP) % PP + (if b / 2 ^ i % 2 = 1 then a else 0)) % PP = a * (b / 2 ^ i) % PP := by
  have h := shr_bit b i
  generalize b / 2 ^ (i + 1) = q at *
  generalize hr : b / 2 ^ i % 2 = r at *
  rw [h,Nat.mul_add]
  have e : a * (2 * q) = a * q + a * q := by rw [Nat.mul_left_comm]; omega
  rw [e,mod_add_mod']
  have hr2 : r < 2 := by omega
  rw [Nat.add_mod,Nat.mod_mod,← Nat.add_mod]
  congr 2
  rcases (show r = 0 ∨ r = 1 by omega) with rfl | rfl <;> simp
theorem sq_round {a n i : Nat} : ((a ^ (n / 2 ^ (i + 1)) % PP) * (a ^ (n / 2 ^ (i + 1)) % PP) % PP * (if n / 2 ^ i % 2 = 1 then a else 1)) % PP = a ^ (n / 2 ^ i) % PP := by
  have h := shr_bit n i
  generalize n / 2 ^ (i + 1) = q at *
  generalize hr : n / 2 ^ i % 2 = r at *
  rw [h,Nat.pow_add,mod_mul_mod,mod_mul_left]
  have e : a ^ (2 * q) = a ^ q * a ^ q := by rw [Nat.mul_comm 2 q,Nat.pow_mul,Nat.pow_two]
  rw [e]
  have hr2 : r < 2 := by omega
  rcases (show r = 0 ∨ r = 1 by omega) with rfl | rfl <;> simp
end Go.Proofs.YtkkhpdkfploodaaGreatDoor
/- Texts,their weights and digests. Plain Lean: no program in sight. -/
namespace Go.Proofs.YtkkhpdkfploodaaGreatDoor
open Go.EG
abbrev BB : Nat := 1103515245
def polyF (v : Nat) (t : List Nat) : Nat := t.foldl (fun v b => v * BB + (b + 1)) v
def poly (t : List Nat) : Nat := polyF 0 t
theorem polyF_eq : ∀ (t : List Nat) (v : Nat),polyF v t = v * BB ^ t.length + poly t
  | [],v => by simp [polyF,poly]
  | b :: t,v => by
    have h1 := polyF_eq t (v * BB + (b + 1))
    have h2 := polyF_eq t (0 * BB + (b + 1))
    have e1 : polyF v (b :: t) = polyF (v * BB + (b + 1)) t := rfl
    have e2 : poly (b :: t) = polyF (0 * BB + (b + 1)) t := rfl
    rw [e1,e2,h1,h2,List.length_cons,Nat.pow_succ,Nat.add_mul,Nat.zero_mul,Nat.zero_add,Nat.mul_assoc,Nat.mul_comm BB,Nat.add_assoc]
theorem poly_append (s t : List Nat) : poly (s ++ t) = poly s * BB ^ t.length + poly t := by
  rw [← polyF_eq]
  simp [poly,polyF,List.foldl_append]
def linesN (t : List Nat) : Nat := t.count 10
def headN (t : List Nat) : Nat := (t.takeWhile (· != 10)).length
def tailN (t : List Nat) : Nat := (t.reverse.takeWhile (· != 10)).length
theorem lines_append (s t : List Nat) : linesN (s ++ t) = linesN s + linesN t := List.count_append
theorem takeWhile_all {p : Nat → Bool} : ∀ {s : List Nat},(∀ x ∈ s,p x = true) → ∀ t,(s ++ t).takeWhile p = s ++ t.takeWhile p
  | [],_,t => rfl
  | x :: s,h,t => by
    rw [List.cons_append,List.takeWhile_cons,if_pos (h x List.mem_cons_self),takeWhile_all (fun y hy => h y (List.mem_cons_of_mem _ hy)),List.cons_append]
theorem takeWhile_stop {p : Nat → Bool} : ∀ {s : List Nat} {x : Nat},x ∈ s → p x = false → ∀ t,(s ++ t).takeWhile p = s.takeWhile p
  | y :: s,x,hx,hp,t => by
    rw [List.cons_append,List.takeWhile_cons,List.takeWhile_cons]
    by_cases hy : p y = true
    · rw [if_pos hy,if_pos hy]
      rcases List.mem_cons.1 hx with rfl | hx
      · rw [hp] at hy; cases hy
      · rw [takeWhile_stop hx hp]
    · rw [if_neg hy,if_neg hy]
theorem noLine {s : List Nat} (h : linesN s = 0) : ∀ x ∈ s,(x != 10) = true := fun x hx => by
  have : x ≠ 10 := fun hx10 => by
    subst hx10
    exact absurd hx (List.count_eq_zero.1 h)
  simpa using this
theorem hasLine {s : List Nat} (h : linesN s ≠ 0) : 10 ∈ s := by
  apply Classical.byContradiction
  intro hn
  exact h (List.count_eq_zero.2 hn)
theorem head_append (s t : List Nat) : headN (s ++ t) = if linesN s = 0 then s.length + headN t else headN s := by
  unfold headN
  split
  · rename_i h
    rw [takeWhile_all (noLine h),List.length_append]
  · rename_i h
    rw [takeWhile_stop (hasLine h) rfl]
theorem lines_reverse (s : List Nat) : linesN s.reverse = linesN s := List.count_reverse
theorem tail_append (s t : List Nat) : tailN (s ++ t) = if linesN t = 0 then t.length + tailN s else tailN t := by
  have := head_append t.reverse s.reverse
  unfold headN at this
  unfold tailN
  rw [List.reverse_append,this,lines_reverse,List.length_reverse]
theorem head_zero {t : List Nat} (h : linesN t = 0) : headN t = t.length := by
  have := head_append t []
  rw [if_pos h,List.append_nil] at this
  simpa [headN] using this
theorem tail_zero {t : List Nat} (h : linesN t = 0) : tailN t = t.length := by
  have := tail_append [] t
  rw [if_pos h,List.nil_append] at this
  simpa [tailN] using this
theorem fit_lines : ∀ t : List Nat,linesN t ≠ 0 → headN t + linesN t + tailN t ≤ t.length ∧ (linesN t = 1 → headN t + 1 + tailN t = t.length)
  | [],h => absurd rfl h
  | x :: t,h => by
    by_cases hx : x = 10
    · subst hx
      have e1 : headN (10 :: t) = 0 := rfl
      have e2 : linesN (10 :: t) = linesN t + 1 := by simp [linesN]
      have e3 : tailN (10 :: t) = if linesN t = 0 then t.length + tailN [10] else tailN t := tail_append [10] t
      have e4 : tailN [10] = 0 := rfl
      by_cases h0 : linesN t = 0
      · rw [if_pos h0,e4] at e3
        rw [e1,e2,e3,h0,List.length_cons]; omega
      · rw [if_neg h0] at e3
        have := fit_lines t h0
        rw [e1,e2,e3,List.length_cons]; omega
    · have e1 : headN (x :: t) = headN t + 1 := by
        unfold headN
        rw [List.takeWhile_cons,if_pos (by simpa using hx),List.length_cons]
      have e2 : linesN (x :: t) = linesN t := by simp [linesN,hx]
      have e3 : tailN (x :: t) = if linesN t = 0 then t.length + tailN [x] else tailN t := tail_append [x] t
      rw [e2] at h ⊢
      rw [if_neg h] at e3
      have := fit_lines t h
      rw [e1,e3,List.length_cons]; omega
def rep (k : Nat) (t : List Nat) : List Nat := (List.replicate k t).flatten
theorem rep_zero (t : List Nat) : rep 0 t = [] := rfl
theorem rep_one (t : List Nat) : rep 1 t = t := by simp [rep]
theorem rep_succ (k : Nat) (t : List Nat) : rep (k + 1) t = t ++ rep k t := by simp [rep,List.replicate_succ]
theorem rep_add (j k : Nat) (t : List Nat) : rep (j + k) t = rep j t ++ rep k t := by
  rw [rep,← List.replicate_append_replicate,List.flatten_append]; rfl
theorem rep_length (k : Nat) (t : List Nat) : (rep k t).length = k * t.length := by simp [rep]
theorem rep_lines (k : Nat) (t : List Nat) : linesN (rep k t) = k * linesN t := by
  induction k with
  | zero => simp [rep_zero,linesN]
  | succ k ih => rw [rep_succ,lines_append,ih,Nat.succ_mul]; omega
theorem rep_head {k : Nat} (hk : 0 < k) (t : List Nat) (h : linesN t ≠ 0) : headN (rep k t) = headN t := by
  obtain ⟨j,rfl⟩ : ∃ j,k = j + 1 := ⟨k - 1,by omega⟩
  rw [rep_succ,head_append,if_neg h]
theorem rep_tail {k : Nat} (hk : 0 < k) (t : List Nat) (h : linesN t ≠ 0) : tailN (rep k t) = tailN t := by
  obtain ⟨j,rfl⟩ : ∃ j,k = j + 1 := ⟨k - 1,by omega⟩
  rw [rep_add,rep_one,tail_append,if_neg h]
structure Wt where
  len : Nat
  lines : Nat
  head : Nat
  tail : Nat
  val : Nat
  scale : Nat
def valN (t : List Nat) : Nat := poly t % PP
def scaleN (t : List Nat) : Nat := BB ^ t.length % PP
theorem valN_lt (t : List Nat) : valN t < PP := Nat.mod_lt _ (by decide)
theorem valN_append (s t : List Nat) : (valN s * scaleN t % PP + valN t) % PP = valN (s ++ t) := by
  unfold valN scaleN
  rw [poly_append,mod_mul_mod,mod_add_mod']
theorem scaleN_append (s t : List Nat) : scaleN s * scaleN t % PP = scaleN (s ++ t) := by
  unfold scaleN
  rw [mod_mul_mod,List.length_append,Nat.pow_add]
end Go.Proofs.YtkkhpdkfploodaaGreatDoor
/- Arithmetic modulo 2^61 - 1: program and reference. No condition. -/
namespace Go.Proofs.YtkkhpdkfploodaaGreatDoor
open Go.EG
attribute [local irreducible] CallK QCall Go.Calls
set_option linter.unusedSimpArgs false
set_option linter.unusedVariables false
set_option maxRecDepth 20000
theorem and_mask (x : Nat) : x &&& 2305843009213693951 = x % 2305843009213693952 := Nat.and_two_pow_sub_one_eq_mod x 61
theorem and_mask32 (x : Nat) : x &&& 4294967295 = x % 4294967296 := Nat.and_two_pow_sub_one_eq_mod x 32
theorem calls_Reduce (x : Nat) (hx : x < 18446744073709551616) (w : World) : Calls Tryz.prog fn_modular_Reduce #[.int .u64 x] w fun e w' => e = .returned (.int .u64 (x % PP : Nat)) ∧ Ext w w' := by
  refine pure_call [.v (.int .u64 x)] w ok_modular_Reduce (by simp) ?_
  have e1 : (((x : Int).toNat &&& (2305843009213693951 : Int).toNat : Nat) : Int) = ((x % 2305843009213693952 : Nat) : Int) := by
    rw [Int.toNat_natCast]; exact congrArg _ (and_mask x)
  have e2 : (x : Int) / ((2 ^ (61 : Int).toNat : Nat) : Int) = ((x / 2305843009213693952 : Nat) : Int) := by
    rw [Int.natCast_ediv]; rfl
  have hr := red_small hx rfl
  generalize hs : x % 2305843009213693952 + x / 2305843009213693952 = s at *
  have hss : ((x % 2305843009213693952 : Nat) : Int) + ((x / 2305843009213693952 : Nat) : Int) = (s : Int) := by omega
  have hsb : s < 2305843009213693960 := by omega
  unfold PP at hr
  (repeat' ((conv => whnf); first | rw [e1] | rw [e2] | rw [hss] | (refine bcase_prop (fun h => ?_) (fun h => ?_) <;> try (exfalso; omega)) | (refine bcase_nprop (fun h => ?_) (fun h => ?_) <;> try (exfalso; omega)) | (refine bcase_intro (fun h => ?_) (fun h => ?_) <;> (try simp only [Bool.not_eq_true',Bool.not_eq_false',decide_eq_true_eq,decide_eq_false_iff_not,Bool.not_eq_true,Bool.not_eq_false,Decidable.not_not] at h)) | refine And.intro (by first | omega | exact rfl | assumption | exact ⟨rfl,rfl,rfl,rfl,rfl⟩ | exact ⟨rfl,rfl,rfl,rfl⟩ | exact ⟨rfl,by omega⟩ | exact oneAll_of rfl | exact ⟨rfl,oneAll_of rfl⟩ | exact Ref.refl _ | exact Thin.ref (.skip (Thin.refl _)) | exact Thin.ref (.skip (.skip (Thin.refl _))) | exact ⟨by omega,by omega,by decide,by decide⟩ | exact ⟨by decide,by show _ ≤ (64 : Int); decide⟩ | exact ⟨rfl,Nat.le_of_ble_eq_true rfl⟩ | ((try unfold maxLen); (try simp only [List.length_nil,List.length_cons,List.length_append]); omega) | (refine ⟨rfl,?_⟩; (try simp only [List.length_nil,List.length_cons,List.length_append]); omega)) ?_ | intro _)); (all_goals (conv => whnf))
  all_goals (refine ⟨?_⟩; rw [hr]; congr 1; split <;> omega)
theorem calls_Mul64 (a b : Nat) (ha : a < 18446744073709551616) (hb : b < 18446744073709551616) (w : World) : Calls Tryz.prog fn_math_bits_Mul64 #[.int .u64 a,.int .u64 b] w fun e w' => e = .returned (.tuple #[.int .u64 (a * b / 18446744073709551616 : Nat),.int .u64 (a * b % 18446744073709551616 : Nat)]) ∧ Ext w w' := by
  refine pure_call [.v (.int .u64 a),.v (.int .u64 b)] w ok_math_bits_Mul64 (by simp) ?_
  have hand : ∀ x : Nat,(((x : Int).toNat &&& (4294967295 : Int).toNat : Nat) : Int) = ((x % 4294967296 : Nat) : Int) := fun x => by
    rw [Int.toNat_natCast]; exact congrArg _ (and_mask32 x)
  have hsh : ∀ x : Nat,(x : Int) / ((2 ^ (32 : Int).toNat : Nat) : Int) = ((x / 4294967296 : Nat) : Int) := fun x => by
    rw [Int.natCast_ediv]; rfl
  obtain ⟨x0,hx0⟩ : ∃ x0,x0 = a % 4294967296 := ⟨_,rfl⟩
  obtain ⟨x1,hx1⟩ : ∃ x1,x1 = a / 4294967296 := ⟨_,rfl⟩
  obtain ⟨y0,hy0⟩ : ∃ y0,y0 = b % 4294967296 := ⟨_,rfl⟩
  obtain ⟨y1,hy1⟩ : ∃ y1,y1 = b / 4294967296 := ⟨_,rfl⟩
  obtain ⟨w0,hw0⟩ : ∃ w0,w0 = x0 * y0 := ⟨_,rfl⟩
  obtain ⟨t,ht⟩ : ∃ t,t = x1 * y0 + w0 / 4294967296 := ⟨_,rfl⟩
  obtain ⟨w1,hw1⟩ : ∃ w1,w1 = t % 4294967296 := ⟨_,rfl⟩
  obtain ⟨w2,hw2⟩ : ∃ w2,w2 = t / 4294967296 := ⟨_,rfl⟩
  obtain ⟨v1,hv1⟩ : ∃ v1,v1 = w1 + x0 * y1 := ⟨_,rfl⟩
  obtain ⟨k1,k2,k3,k4,k5,k6,k7,k8,k9⟩ := mul64 ha hb hx0 hx1 hy0 hy1 hw0 ht hw1 hw2 hv1
  have wr : ∀ n : Nat,n < 18446744073709551616 → (n : Int) % 18446744073709551616 = n := fun n hn => by omega
  have q1 := hand a
  have q2 := hsh a
  have q3 := hand b
  have q4 := hsh b
  rw [← hx0] at q1
  rw [← hx1] at q2
  rw [← hy0] at q3
  rw [← hy1] at q4
  have q5 : (x0 : Int) * (y0 : Int) % 18446744073709551616 = (w0 : Int) := by rw [hw0,← Int.natCast_mul,wr _ k4]
  have q6 : (x1 : Int) * (y0 : Int) % 18446744073709551616 = ((x1 * y0 : Nat) : Int) := by rw [← Int.natCast_mul,wr _ k5]
  have q7 := hsh w0
  have q8 : (((x1 * y0 : Nat) : Int) + ((w0 / 4294967296 : Nat) : Int)) % 18446744073709551616 = (t : Int) := by rw [← Int.natCast_add,← ht,wr _ k1]
  have q9 := hand t
  have q10 := hsh t
  rw [← hw1] at q9
  rw [← hw2] at q10
  have q11 : (x0 : Int) * (y1 : Int) % 18446744073709551616 = ((x0 * y1 : Nat) : Int) := by rw [← Int.natCast_mul,wr _ k6]
  have q12 : ((w1 : Int) + ((x0 * y1 : Nat) : Int)) % 18446744073709551616 = (v1 : Int) := by rw [← Int.natCast_add,← hv1,wr _ k2]
  have q13 : (x1 : Int) * (y1 : Int) % 18446744073709551616 = ((x1 * y1 : Nat) : Int) := by rw [← Int.natCast_mul,wr _ k9]
  have q14 : (((x1 * y1 : Nat) : Int) + (w2 : Int)) % 18446744073709551616 = ((x1 * y1 + w2 : Nat) : Int) := by rw [← Int.natCast_add,wr _ k8]
  have q15 := hsh v1
  have q16 : (((x1 * y1 + w2 : Nat) : Int) + ((v1 / 4294967296 : Nat) : Int)) % 18446744073709551616 = ((a * b / 18446744073709551616 : Nat) : Int) := by rw [← Int.natCast_add,k3,wr _ (by omega)]
  have q17 : (a : Int) * (b : Int) % 18446744073709551616 = ((a * b % 18446744073709551616 : Nat) : Int) := by rw [← Int.natCast_mul]; omega
  have bx0 : x0 ≤ 4294967295 := by omega
  clear hw0 ht hv1 hx0 hx1 hy0 hy1 hw1 hw2
  (repeat' ((conv => whnf); first | rw [q1] | rw [q2] | rw [q3] | rw [q4] | rw [q5] | rw [q6] | rw [q7] | rw [q8] | rw [q9] | rw [q10] | rw [q11] | rw [q12] | rw [q13] | rw [q14] | rw [q15] | rw [q16] | rw [q17] | (refine bcase_prop (fun h => ?_) (fun h => ?_) <;> try (exfalso; omega)) | (refine bcase_nprop (fun h => ?_) (fun h => ?_) <;> try (exfalso; omega)) | (refine bcase_intro (fun h => ?_) (fun h => ?_) <;> (try simp only [Bool.not_eq_true',Bool.not_eq_false',decide_eq_true_eq,decide_eq_false_iff_not,Bool.not_eq_true,Bool.not_eq_false,Decidable.not_not] at h)) | refine And.intro (by first | omega | exact rfl | assumption | exact ⟨rfl,rfl,rfl,rfl,rfl⟩ | exact ⟨rfl,rfl,rfl,rfl⟩ | exact ⟨rfl,by omega⟩ | exact oneAll_of rfl | exact ⟨rfl,oneAll_of rfl⟩ | exact Ref.refl _ | exact Thin.ref (.skip (Thin.refl _)) | exact Thin.ref (.skip (.skip (Thin.refl _))) | exact ⟨by omega,by omega,by decide,by decide⟩ | exact ⟨by decide,by show _ ≤ (64 : Int); decide⟩ | exact ⟨rfl,Nat.le_of_ble_eq_true rfl⟩ | ((try unfold maxLen); (try simp only [List.length_nil,List.length_cons,List.length_append]); omega) | (refine ⟨rfl,?_⟩; (try simp only [List.length_nil,List.length_cons,List.length_append]); omega)) ?_ | intro _)); (all_goals (conv => whnf))
  exact ⟨rfl⟩
theorem calls_mAdd (a b : Nat) (ha : a < 18446744073709551616) (hb : b < 18446744073709551616) (w : World) : Calls Tryz.prog fn_modular_Add #[.int .u64 a,.int .u64 b] w fun e w' => e = .returned (.int .u64 ((a + b) % PP : Nat)) ∧ Ext w w' := by
  refine pure_call [.v (.int .u64 a),.v (.int .u64 b)] w ok_modular_Add (by simp) ?_
  have h1 : a % PP < PP := Nat.mod_lt _ (by decide)
  have h2 : b % PP < PP := Nat.mod_lt _ (by decide)
  have hs : (((a % PP : Nat) : Int) + ((b % PP : Nat) : Int)) % 18446744073709551616 = ((a % PP + b % PP : Nat) : Int) := by unfold PP at *; omega
  rw [← mod_add_mod']
  have hlt : a % PP + b % PP < 18446744073709551616 := by unfold PP at *; omega
  generalize a % PP + b % PP = s at *
  (repeat' ((conv => whnf); first | rw [hs] | refine CallK_pure (.v _) (fun w hR => calls_Reduce a ha w) ?_ | refine CallK_pure (.v _) (fun w hR => calls_Reduce b hb w) ?_ | refine CallK_pure (.v _) (fun w hR => calls_Reduce s hlt w) ?_ | (refine bcase_prop (fun h => ?_) (fun h => ?_) <;> try (exfalso; omega)) | (refine bcase_nprop (fun h => ?_) (fun h => ?_) <;> try (exfalso; omega)) | (refine bcase_intro (fun h => ?_) (fun h => ?_) <;> (try simp only [Bool.not_eq_true',Bool.not_eq_false',decide_eq_true_eq,decide_eq_false_iff_not,Bool.not_eq_true,Bool.not_eq_false,Decidable.not_not] at h)) | refine And.intro (by first | omega | exact rfl | assumption | exact ⟨rfl,rfl,rfl,rfl,rfl⟩ | exact ⟨rfl,rfl,rfl,rfl⟩ | exact ⟨rfl,by omega⟩ | exact oneAll_of rfl | exact ⟨rfl,oneAll_of rfl⟩ | exact Ref.refl _ | exact Thin.ref (.skip (Thin.refl _)) | exact Thin.ref (.skip (.skip (Thin.refl _))) | exact ⟨rfl,Nat.le_of_ble_eq_true rfl⟩ | ((try unfold maxLen); (try simp only [List.length_nil,List.length_cons,List.length_append]); omega) | (refine ⟨rfl,?_⟩; (try simp only [List.length_nil,List.length_cons,List.length_append]); omega)) ?_ | intro _)); (all_goals (conv => whnf))
  exact ⟨rfl⟩
theorem calls_mMul (a b : Nat) (ha : a < 18446744073709551616) (hb : b < 18446744073709551616) (w : World) : Calls Tryz.prog fn_modular_Mul #[.int .u64 a,.int .u64 b] w fun e w' => e = .returned (.int .u64 (a * b % PP : Nat)) ∧ Ext w w' := by
  refine pure_call [.v (.int .u64 a),.v (.int .u64 b)] w ok_modular_Mul (by simp) ?_
  rw [← mod_mul_mod]
  have h1 : a % PP < PP := Nat.mod_lt _ (by decide)
  have h2 : b % PP < PP := Nat.mod_lt _ (by decide)
  have c1 := calls_Reduce a ha
  have c2 := calls_Reduce b hb
  generalize a % PP = x at *
  generalize b % PP = y at *
  have c3 := calls_Mul64 x y (Nat.lt_trans h1 (by decide)) (Nat.lt_trans h2 (by decide))
  obtain ⟨k1,k2,k3,k4⟩ := mulP h1 h2 rfl rfl
  rw [← k4]
  generalize hhi : x * y / 18446744073709551616 = hi at *
  generalize hlo : x * y % 18446744073709551616 = lo at *
  have hlo2 : lo < 18446744073709551616 := by omega
  have c4 := calls_Reduce _ k1
  have q1 : (hi : Int) * ((2 ^ (3 : Int).toNat : Nat) : Int) % 18446744073709551616 = ((hi * 8 : Nat) : Int) := by
    show (hi : Int) * 8 % 18446744073709551616 = _
    omega
  have q2 : (lo : Int) / ((2 ^ (61 : Int).toNat : Nat) : Int) = ((lo / 2305843009213693952 : Nat) : Int) := by rw [Int.natCast_ediv]; rfl
  have q3 : (((hi * 8 : Nat) : Int) + ((lo / 2305843009213693952 : Nat) : Int)) % 18446744073709551616 = ((hi * 8 + lo / 2305843009213693952 : Nat) : Int) := by omega
  have q4 : (((lo : Int).toNat &&& (2305843009213693951 : Int).toNat : Nat) : Int) = ((lo % 2305843009213693952 : Nat) : Int) := by rw [Int.toNat_natCast]; exact congrArg _ (and_mask lo)
  have q5 : (((hi * 8 + lo / 2305843009213693952 : Nat) : Int) + ((lo % 2305843009213693952 : Nat) : Int)) % 18446744073709551616 = ((hi * 8 + lo / 2305843009213693952 + lo % 2305843009213693952 : Nat) : Int) := by omega
  (repeat' ((conv => whnf); first | rw [q1] | rw [q2] | rw [q3] | rw [q4] | rw [q5] | refine CallK_pure (.v _) (fun w hR => c1 w) ?_ | refine CallK_pure (.v _) (fun w hR => c2 w) ?_ | refine CallK_pure (.v _) (fun w hR => c3 w) ?_ | refine CallK_pure (.v _) (fun w hR => c4 w) ?_ | (refine bcase_prop (fun h => ?_) (fun h => ?_) <;> try (exfalso; omega)) | (refine bcase_nprop (fun h => ?_) (fun h => ?_) <;> try (exfalso; omega)) | (refine bcase_intro (fun h => ?_) (fun h => ?_) <;> (try simp only [Bool.not_eq_true',Bool.not_eq_false',decide_eq_true_eq,decide_eq_false_iff_not,Bool.not_eq_true,Bool.not_eq_false,Decidable.not_not] at h)) | refine And.intro (by first | omega | exact rfl | assumption | exact ⟨rfl,rfl,rfl,rfl,rfl⟩ | exact ⟨rfl,rfl,rfl,rfl⟩ | exact ⟨rfl,by omega⟩ | exact oneAll_of rfl | exact ⟨rfl,oneAll_of rfl⟩ | exact Ref.refl _ | exact Thin.ref (.skip (Thin.refl _)) | exact Thin.ref (.skip (.skip (Thin.refl _))) | exact ⟨by omega,by omega,by decide,by decide⟩ | exact ⟨by decide,by show _ ≤ (64 : Int); decide⟩ | exact ⟨rfl,Nat.le_of_ble_eq_true rfl⟩ | ((try unfold maxLen); (try simp only [List.length_nil,List.length_cons,List.length_append]); omega) | (refine ⟨rfl,?_⟩; (try simp only [List.length_nil,List.length_cons,List.length_append]); omega)) ?_ | intro _)); (all_goals (conv => whnf))
  exact ⟨rfl⟩
structure PowG where
  r : Nat
  a : Nat
  n : Nat
theorem calls_mPow (a n : Nat) (ha : a < 18446744073709551616) (hn : n < 18446744073709551616) (w : World) : Calls Tryz.prog fn_modular_Pow #[.int .u64 a,.int .u64 n] w fun e w' => e = .returned (.int .u64 (a ^ n % PP : Nat)) ∧ Ext w w' := by
  refine pure_call [.v (.int .u64 a),.v (.int .u64 n)] w ok_modular_Pow (by simp) ?_
  (repeat' ((conv => whnf); first | refine CallK_pure (.v _) (fun w hR => calls_Reduce a ha w) ?_ | (refine bcase_prop (fun h => ?_) (fun h => ?_) <;> try (exfalso; omega)) | (refine bcase_nprop (fun h => ?_) (fun h => ?_) <;> try (exfalso; omega)) | (refine bcase_intro (fun h => ?_) (fun h => ?_) <;> (try simp only [Bool.not_eq_true',Bool.not_eq_false',decide_eq_true_eq,decide_eq_false_iff_not,Bool.not_eq_true,Bool.not_eq_false,Decidable.not_not] at h)) | refine And.intro (by first | omega | exact rfl | assumption | exact ⟨rfl,rfl,rfl,rfl,rfl⟩ | exact ⟨rfl,rfl,rfl,rfl⟩ | exact ⟨rfl,by omega⟩ | exact oneAll_of rfl | exact ⟨rfl,oneAll_of rfl⟩ | exact Ref.refl _ | exact Thin.ref (.skip (Thin.refl _)) | exact Thin.ref (.skip (.skip (Thin.refl _))) | exact ⟨rfl,Nat.le_of_ble_eq_true rfl⟩ | ((try unfold maxLen); (try simp only [List.length_nil,List.length_cons,List.length_append]); omega) | (refine ⟨rfl,?_⟩; (try simp only [List.length_nil,List.length_cons,List.length_append]); omega)) ?_ | intro _)); (all_goals (conv => whnf))
  refine VC_loop PowG (fun g => [(0,.v (.int .u64 g.a)),(1,.v (.int .u64 g.n)),(5,.v (.int .u64 g.r))]) (fun _ => []) (fun g => g.r < PP ∧ g.a < PP ∧ g.n < 18446744073709551616 ∧ g.r * g.a ^ g.n % PP = a ^ n % PP) (fun g => g.n) ⟨1,a % PP,n⟩ ⟨by dsimp only; decide,Nat.mod_lt _ (by decide),hn,by dsimp only; rw [Nat.one_mul,mod_pow]⟩ (by (repeat ((conv => whnf); refine And.intro (by first | exact rfl | exact vint_eq (by omega) | exact vint_eq (by (dsimp only; omega)) | exact vsl_eq (by omega) | exact vsl_eq (by first | (dsimp only; omega) | (simp; done) | (simp; omega))) ?_)); exact trivial) (Ref.refl _) ?_
  rintro ⟨r,x,m⟩ ⟨hr,hx,hm,hi⟩
  dsimp only at hr hx hm hi ⊢
  have c1 := calls_mMul r x (Nat.lt_trans hr (by decide)) (Nat.lt_trans hx (by decide))
  have c2 := calls_mMul x x (Nat.lt_trans hx (by decide)) (Nat.lt_trans hx (by decide))
  have hm2 : (m : Int) / 2 = ((m / 2 : Nat) : Int) := by omega
  (repeat' ((conv => whnf); first | refine CallK_pure (.v _) (fun w hR => c1 w) ?_ | refine CallK_pure (.v _) (fun w hR => c2 w) ?_ | rw [hm2] | (refine bcase_prop (fun h => ?_) (fun h => ?_) <;> try (exfalso; omega)) | (refine bcase_nprop (fun h => ?_) (fun h => ?_) <;> try (exfalso; omega)) | (refine bcase_intro (fun h => ?_) (fun h => ?_) <;> (try simp only [Bool.not_eq_true',Bool.not_eq_false',decide_eq_true_eq,decide_eq_false_iff_not,Bool.not_eq_true,Bool.not_eq_false,Decidable.not_not] at h)) | refine And.intro (by first | omega | exact rfl | assumption | exact ⟨rfl,rfl,rfl,rfl,rfl⟩ | exact ⟨rfl,rfl,rfl,rfl⟩ | exact ⟨rfl,by omega⟩ | exact oneAll_of rfl | exact ⟨rfl,oneAll_of rfl⟩ | exact Ref.refl _ | exact Thin.ref (.skip (Thin.refl _)) | exact Thin.ref (.skip (.skip (Thin.refl _))) | exact ⟨rfl,Nat.le_of_ble_eq_true rfl⟩ | ((try unfold maxLen); (try simp only [List.length_nil,List.length_cons,List.length_append]); omega) | (refine ⟨rfl,?_⟩; (try simp only [List.length_nil,List.length_cons,List.length_append]); omega)) ?_ | intro _)); (all_goals (conv => whnf))
  · refine loop_next ⟨r * x % PP,x * x % PP,m / 2⟩ (by dsimp only; exact ⟨Nat.mod_lt _ (by decide),Nat.mod_lt _ (by decide),by omega,pow_round1 hi (by omega)⟩) (by ((try dsimp only); omega)) (by (repeat ((conv => whnf); refine And.intro (by first | exact rfl | exact vint_eq (by omega) | exact vint_eq (by (dsimp only; omega)) | exact vsl_eq (by omega) | exact vsl_eq (by first | (dsimp only; omega) | (simp; done) | (simp; omega))) ?_)); exact trivial) (Ref.refl _)
  · refine loop_next ⟨r,x * x % PP,m / 2⟩ (by dsimp only; exact ⟨hr,Nat.mod_lt _ (by decide),by omega,pow_round0 hi (by omega)⟩) (by ((try dsimp only); omega)) (by (repeat ((conv => whnf); refine And.intro (by first | exact rfl | exact vint_eq (by omega) | exact vint_eq (by (dsimp only; omega)) | exact vsl_eq (by omega) | exact vsl_eq (by first | (dsimp only; omega) | (simp; done) | (simp; omega))) ?_)); exact trivial) (Ref.refl _)
  · have hm0 : m = 0 := by omega
    subst hm0
    rw [Nat.pow_zero,Nat.mul_one,Nat.mod_eq_of_lt hr] at hi
    rw [← hi]
    exact ⟨rfl⟩
def mixN (k x y : Nat) : Nat := (k + (1234567890123456789 * x + 987654321987654321 * y)) ^ 17 % PP
theorem mixN_lt (k x y : Nat) : mixN k x y < PP := Nat.mod_lt _ (by decide)
theorem mixN_eq (k x y : Nat) : ((k + (1234567890123456789 * x % PP + 987654321987654321 * y % PP) % PP) % PP) ^ 17 % PP = mixN k x y := by
  unfold mixN
  rw [mod_add_mod',mod_pow]
  conv => lhs; rw [Nat.pow_mod,Nat.add_mod,Nat.mod_mod,← Nat.add_mod,← Nat.pow_mod]
theorem calls_mMix (k x y : Nat) (hk : k < 18446744073709551616) (hx : x < 18446744073709551616) (hy : y < 18446744073709551616) (w : World) : Calls Tryz.prog fn_modular_Mix #[.int .u64 k,.int .u64 x,.int .u64 y] w fun e w' => e = .returned (.int .u64 (mixN k x y)) ∧ Ext w w' := by
  refine pure_call [.v (.int .u64 k),.v (.int .u64 x),.v (.int .u64 y)] w ok_modular_Mix (by simp) ?_
  rw [← mixN_eq]
  have c1 := calls_mMul 1234567890123456789 x (by decide) hx
  have c2 := calls_mMul 987654321987654321 y (by decide) hy
  have h1 : 1234567890123456789 * x % PP < PP := Nat.mod_lt _ (by decide)
  have h2 : 987654321987654321 * y % PP < PP := Nat.mod_lt _ (by decide)
  generalize 1234567890123456789 * x % PP = p at *
  generalize 987654321987654321 * y % PP = q at *
  have c3 := calls_mAdd p q (Nat.lt_trans h1 (by decide)) (Nat.lt_trans h2 (by decide))
  have h3 : (p + q) % PP < PP := Nat.mod_lt _ (by decide)
  generalize (p + q) % PP = s at *
  have c4 := calls_mAdd k s hk (Nat.lt_trans h3 (by decide))
  have h4 : (k + s) % PP < PP := Nat.mod_lt _ (by decide)
  generalize (k + s) % PP = t at *
  have c5 := calls_mPow t 17 (Nat.lt_trans h4 (by decide)) (by decide)
  (repeat' ((conv => whnf); first | refine CallK_pure (.v _) (fun w hR => c1 w) ?_ | refine CallK_pure (.v _) (fun w hR => c2 w) ?_ | refine CallK_pure (.v _) (fun w hR => c3 w) ?_ | refine CallK_pure (.v _) (fun w hR => c4 w) ?_ | refine CallK_pure (.v _) (fun w hR => c5 w) ?_ | (refine bcase_prop (fun h => ?_) (fun h => ?_) <;> try (exfalso; omega)) | (refine bcase_nprop (fun h => ?_) (fun h => ?_) <;> try (exfalso; omega)) | (refine bcase_intro (fun h => ?_) (fun h => ?_) <;> (try simp only [Bool.not_eq_true',Bool.not_eq_false',decide_eq_true_eq,decide_eq_false_iff_not,Bool.not_eq_true,Bool.not_eq_false,Decidable.not_not] at h)) | refine And.intro (by first | omega | exact rfl | assumption | exact ⟨rfl,rfl,rfl,rfl,rfl⟩ | exact ⟨rfl,rfl,rfl,rfl⟩ | exact ⟨rfl,by omega⟩ | exact oneAll_of rfl | exact ⟨rfl,oneAll_of rfl⟩ | exact Ref.refl _ | exact Thin.ref (.skip (Thin.refl _)) | exact Thin.ref (.skip (.skip (Thin.refl _))) | exact ⟨rfl,Nat.le_of_ble_eq_true rfl⟩ | ((try unfold maxLen); (try simp only [List.length_nil,List.length_cons,List.length_append]); omega) | (refine ⟨rfl,?_⟩; (try simp only [List.length_nil,List.length_cons,List.length_append]); omega)) ?_ | intro _)); (all_goals (conv => whnf))
  exact ⟨rfl⟩
theorem calls_rAdd (a b : Nat) (ha : a < 18446744073709551616) (hb : b < 18446744073709551616) (w : World) : Calls Tryz.prog fn_evergreenref04_Add #[.int .u64 a,.int .u64 b] w fun e w' => e = .returned (.int .u64 ((a + b) % PP : Nat)) ∧ Ext w w' := by
  refine pure_call [.v (.int .u64 a),.v (.int .u64 b)] w ok_evergreenref04_Add (by simp) ?_
  have q1 : (a : Int) % 2305843009213693951 = ((a % PP : Nat) : Int) := by unfold PP; omega
  have q2 : (b : Int) % 2305843009213693951 = ((b % PP : Nat) : Int) := by unfold PP; omega
  have h1 : a % PP < PP := Nat.mod_lt _ (by decide)
  have h2 : b % PP < PP := Nat.mod_lt _ (by decide)
  rw [← mod_add_mod']
  generalize a % PP = x at *
  generalize b % PP = y at *
  unfold PP at *
  have q3 : ((x : Int) + (y : Int)) % 18446744073709551616 = ((x + y : Nat) : Int) := by omega
  (repeat' ((conv => whnf); first | rw [q1] | rw [q2] | rw [q3] | (refine bcase_prop (fun h => ?_) (fun h => ?_) <;> try (exfalso; omega)) | (refine bcase_nprop (fun h => ?_) (fun h => ?_) <;> try (exfalso; omega)) | (refine bcase_intro (fun h => ?_) (fun h => ?_) <;> (try simp only [Bool.not_eq_true',Bool.not_eq_false',decide_eq_true_eq,decide_eq_false_iff_not,Bool.not_eq_true,Bool.not_eq_false,Decidable.not_not] at h)) | refine And.intro (by first | omega | exact rfl | assumption | exact ⟨rfl,rfl,rfl,rfl,rfl⟩ | exact ⟨rfl,rfl,rfl,rfl⟩ | exact ⟨rfl,by omega⟩ | exact oneAll_of rfl | exact ⟨rfl,oneAll_of rfl⟩ | exact Ref.refl _ | exact Thin.ref (.skip (Thin.refl _)) | exact Thin.ref (.skip (.skip (Thin.refl _))) | exact ⟨rfl,Nat.le_of_ble_eq_true rfl⟩ | ((try unfold maxLen); (try simp only [List.length_nil,List.length_cons,List.length_append]); omega) | (refine ⟨rfl,?_⟩; (try simp only [List.length_nil,List.length_cons,List.length_append]); omega)) ?_ | intro _)); (all_goals (conv => whnf))
  exact ⟨rfl⟩
structure RMG where
  o : Nat
  i : Nat
theorem calls_rMul (a b : Nat) (ha : a < 18446744073709551616) (hb : b < 18446744073709551616) (w : World) : Calls Tryz.prog fn_evergreenref04_Mul #[.int .u64 a,.int .u64 b] w fun e w' => e = .returned (.int .u64 (a * b % PP : Nat)) ∧ Ext w w' := by
  refine pure_call [.v (.int .u64 a),.v (.int .u64 b)] w ok_evergreenref04_Mul (by simp) ?_
  have q1 : (b : Int) % 2305843009213693951 = ((b % PP : Nat) : Int) := by unfold PP; omega
  have hbl : b % PP < 2305843009213693952 := by unfold PP; omega
  rw [← mod_mul_right]
  generalize b % PP = y at *
  (repeat' ((conv => whnf); first | (refine bcase_prop (fun h => ?_) (fun h => ?_) <;> try (exfalso; omega)) | (refine bcase_nprop (fun h => ?_) (fun h => ?_) <;> try (exfalso; omega)) | (refine bcase_intro (fun h => ?_) (fun h => ?_) <;> (try simp only [Bool.not_eq_true',Bool.not_eq_false',decide_eq_true_eq,decide_eq_false_iff_not,Bool.not_eq_true,Bool.not_eq_false,Decidable.not_not] at h)) | refine And.intro (by first | omega | exact rfl | assumption | exact ⟨rfl,rfl,rfl,rfl,rfl⟩ | exact ⟨rfl,rfl,rfl,rfl⟩ | exact ⟨rfl,by omega⟩ | exact oneAll_of rfl | exact ⟨rfl,oneAll_of rfl⟩ | exact Ref.refl _ | exact Thin.ref (.skip (Thin.refl _)) | exact Thin.ref (.skip (.skip (Thin.refl _))) | exact ⟨rfl,Nat.le_of_ble_eq_true rfl⟩ | ((try unfold maxLen); (try simp only [List.length_nil,List.length_cons,List.length_append]); omega) | (refine ⟨rfl,?_⟩; (try simp only [List.length_nil,List.length_cons,List.length_append]); omega)) ?_ | intro _)); (all_goals (conv => whnf))
  refine VC_loop RMG (fun g => [(0,.v (.int .u64 a)),(1,.v (.int .u64 b)),(5,.v (.int .u64 g.o)),(6,.v (.int .i64 ((g.i : Int) - 1)))]) (fun _ => []) (fun g => g.i ≤ 61 ∧ g.o = a * (y / 2 ^ g.i) % PP) (fun g => g.i) ⟨0,61⟩ ⟨by decide,by dsimp only; rw [Nat.div_eq_of_lt (by omega)]; rfl⟩ (by (repeat ((conv => whnf); refine And.intro (by first | exact rfl | exact vint_eq (by omega) | exact vint_eq (by (dsimp only; omega)) | exact vsl_eq (by omega) | exact vsl_eq (by first | (dsimp only; omega) | (simp; done) | (simp; omega))) ?_)); exact trivial) (Ref.refl _) ?_
  rintro ⟨o,i⟩ ⟨hi,ho⟩
  dsimp only at hi ho ⊢
  have hol : o < PP := by rw [ho]; exact Nat.mod_lt _ (by decide)
  have c1 := calls_rAdd o o (Nat.lt_trans hol (by decide)) (Nat.lt_trans hol (by decide))
  have hol2 : (o + o) % PP < PP := Nat.mod_lt _ (by decide)
  have c2 := calls_rAdd ((o + o) % PP) a (Nat.lt_trans hol2 (by decide)) ha
  have q2 : (y : Int) / ((2 ^ ((i : Int) - 1).toNat : Nat) : Int) = ((y / 2 ^ (i - 1) : Nat) : Int) := by rw [Int.natCast_ediv]; congr 3; omega
  have q3 : (((((y / 2 ^ (i - 1) : Nat) : Int).toNat &&& (1 : Int).toNat : Nat)) : Int) = ((y / 2 ^ (i - 1) % 2 : Nat) : Int) := by rw [Int.toNat_natCast]; exact congrArg _ (Nat.and_one_is_mod _)
  have hyl : y / 2 ^ (i - 1) ≤ y := Nat.div_le_self _ _
  have hzl : y / 2 ^ (i - 1) < 18446744073709551616 := by omega
  generalize hz : y / 2 ^ (i - 1) = z at q2 q3 hzl
  clear hyl
  (repeat' ((conv => whnf); first | rw [q1] | rw [q2] | rw [q3] | refine CallK_pure (.v _) (fun w hR => c1 w) ?_ | refine CallK_pure (.v _) (fun w hR => c2 w) ?_ | (refine bcase_prop (fun h => ?_) (fun h => ?_) <;> try (exfalso; omega)) | (refine bcase_nprop (fun h => ?_) (fun h => ?_) <;> try (exfalso; omega)) | (refine bcase_intro (fun h => ?_) (fun h => ?_) <;> (try simp only [Bool.not_eq_true',Bool.not_eq_false',decide_eq_true_eq,decide_eq_false_iff_not,Bool.not_eq_true,Bool.not_eq_false,Decidable.not_not] at h)) | refine And.intro (by first | omega | exact rfl | assumption | exact ⟨rfl,rfl,rfl,rfl,rfl⟩ | exact ⟨rfl,rfl,rfl,rfl⟩ | exact ⟨rfl,by omega⟩ | exact oneAll_of rfl | exact ⟨rfl,oneAll_of rfl⟩ | exact Ref.refl _ | exact Thin.ref (.skip (Thin.refl _)) | exact Thin.ref (.skip (.skip (Thin.refl _))) | exact ⟨by omega,by omega,by decide,by decide⟩ | exact ⟨by omega,by show _ ≤ (64 : Int); omega⟩ | exact ⟨rfl,Nat.le_of_ble_eq_true rfl⟩ | ((try unfold maxLen); (try simp only [List.length_nil,List.length_cons,List.length_append]); omega) | (refine ⟨rfl,?_⟩; (try simp only [List.length_nil,List.length_cons,List.length_append]); omega)) ?_ | intro _)); (all_goals (conv => whnf))
  · obtain ⟨j,rfl⟩ : ∃ j,i = j + 1 := ⟨i - 1,by omega⟩
    have hd := dbl_round (a := a) (b := y) (i := j)
    rw [show y / 2 ^ j = z from hz] at hd
    rw [← ho] at hd
    simp only [Nat.add_sub_cancel] at *
    rw [if_pos (by omega)] at hd
    refine loop_next ⟨((o + o) % PP + a) % PP,j⟩ (by dsimp only; exact ⟨by omega,by rw [show y / 2 ^ j = z from hz]; exact hd⟩) (by ((try dsimp only); omega)) (by (repeat ((conv => whnf); refine And.intro (by first | exact rfl | exact vint_eq (by omega) | exact vint_eq (by (dsimp only; omega)) | exact vsl_eq (by omega) | exact vsl_eq (by first | (dsimp only; omega) | (simp; done) | (simp; omega))) ?_)); exact trivial) (Ref.refl _)
  · obtain ⟨j,rfl⟩ : ∃ j,i = j + 1 := ⟨i - 1,by omega⟩
    have hd := dbl_round (a := a) (b := y) (i := j)
    rw [show y / 2 ^ j = z from hz] at hd
    rw [← ho] at hd
    simp only [Nat.add_sub_cancel] at *
    rw [if_neg (by omega),Nat.add_zero,Nat.mod_mod] at hd
    refine loop_next ⟨(o + o) % PP,j⟩ (by dsimp only; exact ⟨by omega,by rw [show y / 2 ^ j = z from hz]; exact hd⟩) (by ((try dsimp only); omega)) (by (repeat ((conv => whnf); refine And.intro (by first | exact rfl | exact vint_eq (by omega) | exact vint_eq (by (dsimp only; omega)) | exact vsl_eq (by omega) | exact vsl_eq (by first | (dsimp only; omega) | (simp; done) | (simp; omega))) ?_)); exact trivial) (Ref.refl _)
  · have : i = 0 := by omega
    subst this
    rw [Nat.pow_zero,Nat.div_one] at ho
    rw [← ho]
    exact ⟨rfl⟩
theorem calls_rPow (a n : Nat) (ha : a < 18446744073709551616) (hn : n < 18446744073709551616) (w : World) : Calls Tryz.prog fn_evergreenref04_Pow #[.int .u64 a,.int .u64 n] w fun e w' => e = .returned (.int .u64 (a ^ n % PP : Nat)) ∧ Ext w w' := by
  refine pure_call [.v (.int .u64 a),.v (.int .u64 n)] w ok_evergreenref04_Pow (by simp) ?_
  (repeat' ((conv => whnf); first | (refine bcase_prop (fun h => ?_) (fun h => ?_) <;> try (exfalso; omega)) | (refine bcase_nprop (fun h => ?_) (fun h => ?_) <;> try (exfalso; omega)) | (refine bcase_intro (fun h => ?_) (fun h => ?_) <;> (try simp only [Bool.not_eq_true',Bool.not_eq_false',decide_eq_true_eq,decide_eq_false_iff_not,Bool.not_eq_true,Bool.not_eq_false,Decidable.not_not] at h)) | refine And.intro (by first | omega | exact rfl | assumption | exact ⟨rfl,rfl,rfl,rfl,rfl⟩ | exact ⟨rfl,rfl,rfl,rfl⟩ | exact ⟨rfl,by omega⟩ | exact oneAll_of rfl | exact ⟨rfl,oneAll_of rfl⟩ | exact Ref.refl _ | exact Thin.ref (.skip (Thin.refl _)) | exact Thin.ref (.skip (.skip (Thin.refl _))) | exact ⟨rfl,Nat.le_of_ble_eq_true rfl⟩ | ((try unfold maxLen); (try simp only [List.length_nil,List.length_cons,List.length_append]); omega) | (refine ⟨rfl,?_⟩; (try simp only [List.length_nil,List.length_cons,List.length_append]); omega)) ?_ | intro _)); (all_goals (conv => whnf))
  refine VC_loop RMG (fun g => [(0,.v (.int .u64 a)),(1,.v (.int .u64 n)),(5,.v (.int .u64 g.o)),(6,.v (.int .i64 ((g.i : Int) - 1)))]) (fun _ => []) (fun g => g.i ≤ 64 ∧ g.o = a ^ (n / 2 ^ g.i) % PP) (fun g => g.i) ⟨1,64⟩ ⟨by decide,by dsimp only; rw [Nat.div_eq_of_lt (by omega)]; rfl⟩ (by (repeat ((conv => whnf); refine And.intro (by first | exact rfl | exact vint_eq (by omega) | exact vint_eq (by (dsimp only; omega)) | exact vsl_eq (by omega) | exact vsl_eq (by first | (dsimp only; omega) | (simp; done) | (simp; omega))) ?_)); exact trivial) (Ref.refl _) ?_
  rintro ⟨o,i⟩ ⟨hi,ho⟩
  dsimp only at hi ho ⊢
  have hol : o < PP := by rw [ho]; exact Nat.mod_lt _ (by decide)
  have c1 := calls_rMul o o (Nat.lt_trans hol (by decide)) (Nat.lt_trans hol (by decide))
  have hol2 : o * o % PP < PP := Nat.mod_lt _ (by decide)
  have c2 := calls_rMul (o * o % PP) a (Nat.lt_trans hol2 (by decide)) ha
  have q2 : (n : Int) / ((2 ^ ((i : Int) - 1).toNat : Nat) : Int) = ((n / 2 ^ (i - 1) : Nat) : Int) := by rw [Int.natCast_ediv]; congr 3; omega
  have q3 : (((((n / 2 ^ (i - 1) : Nat) : Int).toNat &&& (1 : Int).toNat : Nat)) : Int) = ((n / 2 ^ (i - 1) % 2 : Nat) : Int) := by rw [Int.toNat_natCast]; exact congrArg _ (Nat.and_one_is_mod _)
  have hyl : n / 2 ^ (i - 1) ≤ n := Nat.div_le_self _ _
  have hzl : n / 2 ^ (i - 1) < 18446744073709551616 := by omega
  generalize hz : n / 2 ^ (i - 1) = z at q2 q3 hzl
  clear hyl
  (repeat' ((conv => whnf); first | rw [q2] | rw [q3] | refine CallK_pure (.v _) (fun w hR => c1 w) ?_ | refine CallK_pure (.v _) (fun w hR => c2 w) ?_ | (refine bcase_prop (fun h => ?_) (fun h => ?_) <;> try (exfalso; omega)) | (refine bcase_nprop (fun h => ?_) (fun h => ?_) <;> try (exfalso; omega)) | (refine bcase_intro (fun h => ?_) (fun h => ?_) <;> (try simp only [Bool.not_eq_true',Bool.not_eq_false',decide_eq_true_eq,decide_eq_false_iff_not,Bool.not_eq_true,Bool.not_eq_false,Decidable.not_not] at h)) | refine And.intro (by first | omega | exact rfl | assumption | exact ⟨rfl,rfl,rfl,rfl,rfl⟩ | exact ⟨rfl,rfl,rfl,rfl⟩ | exact ⟨rfl,by omega⟩ | exact oneAll_of rfl | exact ⟨rfl,oneAll_of rfl⟩ | exact Ref.refl _ | exact Thin.ref (.skip (Thin.refl _)) | exact Thin.ref (.skip (.skip (Thin.refl _))) | exact ⟨by omega,by omega,by decide,by decide⟩ | exact ⟨by omega,by show _ ≤ (64 : Int); omega⟩ | exact ⟨rfl,Nat.le_of_ble_eq_true rfl⟩ | ((try unfold maxLen); (try simp only [List.length_nil,List.length_cons,List.length_append]); omega) | (refine ⟨rfl,?_⟩; (try simp only [List.length_nil,List.length_cons,List.length_append]); omega)) ?_ | intro _)); (all_goals (conv => whnf))
  · obtain ⟨j,rfl⟩ : ∃ j,i = j + 1 := ⟨i - 1,by omega⟩
    have hd := sq_round (a := a) (n := n) (i := j)
    rw [show n / 2 ^ j = z from hz] at hd
    rw [← ho] at hd
    simp only [Nat.add_sub_cancel] at *
    rw [if_pos (by omega)] at hd
    refine loop_next ⟨o * o % PP * a % PP,j⟩ (by dsimp only; exact ⟨by omega,by rw [show n / 2 ^ j = z from hz]; exact hd⟩) (by ((try dsimp only); omega)) (by (repeat ((conv => whnf); refine And.intro (by first | exact rfl | exact vint_eq (by omega) | exact vint_eq (by (dsimp only; omega)) | exact vsl_eq (by omega) | exact vsl_eq (by first | (dsimp only; omega) | (simp; done) | (simp; omega))) ?_)); exact trivial) (Ref.refl _)
  · obtain ⟨j,rfl⟩ : ∃ j,i = j + 1 := ⟨i - 1,by omega⟩
    have hd := sq_round (a := a) (n := n) (i := j)
    rw [show n / 2 ^ j = z from hz] at hd
    rw [← ho] at hd
    simp only [Nat.add_sub_cancel] at *
    rw [if_neg (by omega),Nat.mul_one,Nat.mod_mod] at hd
    refine loop_next ⟨o * o % PP,j⟩ (by dsimp only; exact ⟨by omega,by rw [show n / 2 ^ j = z from hz]; exact hd⟩) (by ((try dsimp only); omega)) (by (repeat ((conv => whnf); refine And.intro (by first | exact rfl | exact vint_eq (by omega) | exact vint_eq (by (dsimp only; omega)) | exact vsl_eq (by omega) | exact vsl_eq (by first | (dsimp only; omega) | (simp; done) | (simp; omega))) ?_)); exact trivial) (Ref.refl _)
  · have : i = 0 := by omega
    subst this
    rw [Nat.pow_zero,Nat.div_one] at ho
    rw [← ho]
    exact ⟨rfl⟩
theorem calls_rMix (k x y : Nat) (hk : k < 18446744073709551616) (hx : x < 18446744073709551616) (hy : y < 18446744073709551616) (w : World) : Calls Tryz.prog fn_evergreenref04_Mix #[.int .u64 k,.int .u64 x,.int .u64 y] w fun e w' => e = .returned (.int .u64 (mixN k x y)) ∧ Ext w w' := by
  refine pure_call [.v (.int .u64 k),.v (.int .u64 x),.v (.int .u64 y)] w ok_evergreenref04_Mix (by simp) ?_
  rw [← mixN_eq]
  have c1 := calls_rMul 1234567890123456789 x (by decide) hx
  have c2 := calls_rMul 987654321987654321 y (by decide) hy
  have h1 : 1234567890123456789 * x % PP < PP := Nat.mod_lt _ (by decide)
  have h2 : 987654321987654321 * y % PP < PP := Nat.mod_lt _ (by decide)
  generalize 1234567890123456789 * x % PP = p at *
  generalize 987654321987654321 * y % PP = q at *
  have c3 := calls_rAdd p q (Nat.lt_trans h1 (by decide)) (Nat.lt_trans h2 (by decide))
  have h3 : (p + q) % PP < PP := Nat.mod_lt _ (by decide)
  generalize (p + q) % PP = s at *
  have c4 := calls_rAdd k s hk (Nat.lt_trans h3 (by decide))
  have h4 : (k + s) % PP < PP := Nat.mod_lt _ (by decide)
  generalize (k + s) % PP = t at *
  have c5 := calls_rPow t 17 (Nat.lt_trans h4 (by decide)) (by decide)
  (repeat' ((conv => whnf); first | refine CallK_pure (.v _) (fun w hR => c1 w) ?_ | refine CallK_pure (.v _) (fun w hR => c2 w) ?_ | refine CallK_pure (.v _) (fun w hR => c3 w) ?_ | refine CallK_pure (.v _) (fun w hR => c4 w) ?_ | refine CallK_pure (.v _) (fun w hR => c5 w) ?_ | (refine bcase_prop (fun h => ?_) (fun h => ?_) <;> try (exfalso; omega)) | (refine bcase_nprop (fun h => ?_) (fun h => ?_) <;> try (exfalso; omega)) | (refine bcase_intro (fun h => ?_) (fun h => ?_) <;> (try simp only [Bool.not_eq_true',Bool.not_eq_false',decide_eq_true_eq,decide_eq_false_iff_not,Bool.not_eq_true,Bool.not_eq_false,Decidable.not_not] at h)) | refine And.intro (by first | omega | exact rfl | assumption | exact ⟨rfl,rfl,rfl,rfl,rfl⟩ | exact ⟨rfl,rfl,rfl,rfl⟩ | exact ⟨rfl,by omega⟩ | exact oneAll_of rfl | exact ⟨rfl,oneAll_of rfl⟩ | exact Ref.refl _ | exact Thin.ref (.skip (Thin.refl _)) | exact Thin.ref (.skip (.skip (Thin.refl _))) | exact ⟨rfl,Nat.le_of_ble_eq_true rfl⟩ | ((try unfold maxLen); (try simp only [List.length_nil,List.length_cons,List.length_append]); omega) | (refine ⟨rfl,?_⟩; (try simp only [List.length_nil,List.length_cons,List.length_append]); omega)) ?_ | intro _)); (all_goals (conv => whnf))
  exact ⟨rfl⟩
end Go.Proofs.YtkkhpdkfploodaaGreatDoor
/- Lengths,digests and weights of texts. No condition but the lengths'. -/
namespace Go.Proofs.YtkkhpdkfploodaaGreatDoor
open Go.EG
attribute [local irreducible] CallK QCall Go.Calls
set_option linter.unusedSimpArgs false
set_option linter.unusedVariables false
set_option maxRecDepth 20000
abbrev LM : Nat := 1152921504606846976
abbrev errV (n : Int) : Value := .iface ty_api_Errno (.int .i64 n)
abbrev digV (t : List Nat) : Value := .agg #[.int .u64 (valN t),.int .u64 (scaleN t)]
abbrev wtV (t : List Nat) : Value := .agg #[.int .i64 t.length,.int .i64 (linesN t),.int .i64 (headN t),.int .i64 (tailN t),.int .u64 (valN t),.int .u64 (scaleN t)]
theorem calls_lValid (n : Int) (w : World) : Calls Tryz.prog fn_length_Valid #[.int .i64 n] w fun e w' => e = .returned (.bool (decide (0 ≤ n ∧ n ≤ 1152921504606846976))) ∧ Ext w w' := by
  refine pure_call [.v (.int .i64 n)] w ok_length_Valid (by simp) ?_
  (repeat' ((conv => whnf); first | (refine bcase_prop (fun h => ?_) (fun h => ?_) <;> try (exfalso; omega)) | (refine bcase_nprop (fun h => ?_) (fun h => ?_) <;> try (exfalso; omega)) | (refine bcase_intro (fun h => ?_) (fun h => ?_) <;> (try simp only [Bool.not_eq_true',Bool.not_eq_false',decide_eq_true_eq,decide_eq_false_iff_not,Bool.not_eq_true,Bool.not_eq_false,Decidable.not_not] at h)) | refine And.intro (by first | omega | exact rfl | assumption | exact ⟨rfl,rfl,rfl,rfl,rfl⟩ | exact ⟨rfl,rfl,rfl,rfl⟩ | exact ⟨rfl,by omega⟩ | exact oneAll_of rfl | exact ⟨rfl,oneAll_of rfl⟩ | exact Ref.refl _ | exact Thin.ref (.skip (Thin.refl _)) | exact Thin.ref (.skip (.skip (Thin.refl _))) | exact ⟨rfl,Nat.le_of_ble_eq_true rfl⟩ | ((try unfold maxLen); (try simp only [List.length_nil,List.length_cons,List.length_append]); omega) | (refine ⟨rfl,?_⟩; (try simp only [List.length_nil,List.length_cons,List.length_append]); omega)) ?_ | intro _)); (all_goals (conv => whnf))
  all_goals (refine ⟨?_⟩; congr 1; simp; omega)
theorem calls_lClip (n lo hi : Int) (w : World) : Calls Tryz.prog fn_length_Clip #[.int .i64 n,.int .i64 lo,.int .i64 hi] w fun e w' => e = .returned (.int .i64 (if n < lo then lo else if n > hi then hi else n)) ∧ Ext w w' := by
  refine pure_call [.v (.int .i64 n),.v (.int .i64 lo),.v (.int .i64 hi)] w ok_length_Clip (by simp) ?_
  (repeat' ((conv => whnf); first | (refine bcase_prop (fun h => ?_) (fun h => ?_) <;> try (exfalso; omega)) | (refine bcase_nprop (fun h => ?_) (fun h => ?_) <;> try (exfalso; omega)) | (refine bcase_intro (fun h => ?_) (fun h => ?_) <;> (try simp only [Bool.not_eq_true',Bool.not_eq_false',decide_eq_true_eq,decide_eq_false_iff_not,Bool.not_eq_true,Bool.not_eq_false,Decidable.not_not] at h)) | refine And.intro (by first | omega | exact rfl | assumption | exact ⟨rfl,rfl,rfl,rfl,rfl⟩ | exact ⟨rfl,rfl,rfl,rfl⟩ | exact ⟨rfl,by omega⟩ | exact oneAll_of rfl | exact ⟨rfl,oneAll_of rfl⟩ | exact Ref.refl _ | exact Thin.ref (.skip (Thin.refl _)) | exact Thin.ref (.skip (.skip (Thin.refl _))) | exact ⟨rfl,Nat.le_of_ble_eq_true rfl⟩ | ((try unfold maxLen); (try simp only [List.length_nil,List.length_cons,List.length_append]); omega) | (refine ⟨rfl,?_⟩; (try simp only [List.length_nil,List.length_cons,List.length_append]); omega)) ?_ | intro _)); (all_goals (conv => whnf))
  all_goals (refine ⟨?_⟩; congr 1; repeat' split <;> omega)
def addV (a b : Nat) : Value := if a + b ≤ LM then .tuple #[.int .i64 ((a + b : Nat) : Int),.nilIface] else .tuple #[.int .i64 0,errV 2]
theorem calls_lAdd (a b : Nat) (ha : a ≤ LM) (hb : b ≤ LM) (w : World) : Calls Tryz.prog fn_length_Add #[.int .i64 a,.int .i64 b] w fun e w' => e = .returned (addV a b) ∧ Ext w w' := by
  refine pure_call [.v (.int .i64 a),.v (.int .i64 b)] w ok_length_Add (by simp) ?_
  unfold LM at ha hb
  have c1 := calls_lValid a
  have c2 := calls_lValid b
  rw [decide_eq_true (by omega)] at c1 c2
  (repeat' ((conv => whnf); first | refine CallK_pure (.v _) (fun w hR => c1 w) ?_ | refine CallK_pure (.v _) (fun w hR => c2 w) ?_ | (refine bcase_prop (fun h => ?_) (fun h => ?_) <;> try (exfalso; omega)) | (refine bcase_nprop (fun h => ?_) (fun h => ?_) <;> try (exfalso; omega)) | (refine bcase_intro (fun h => ?_) (fun h => ?_) <;> (try simp only [Bool.not_eq_true',Bool.not_eq_false',decide_eq_true_eq,decide_eq_false_iff_not,Bool.not_eq_true,Bool.not_eq_false,Decidable.not_not] at h)) | refine And.intro (by first | omega | exact rfl | assumption | exact ⟨rfl,rfl,rfl,rfl,rfl⟩ | exact ⟨rfl,rfl,rfl,rfl⟩ | exact ⟨rfl,by omega⟩ | exact oneAll_of rfl | exact ⟨rfl,oneAll_of rfl⟩ | exact Ref.refl _ | exact Thin.ref (.skip (Thin.refl _)) | exact Thin.ref (.skip (.skip (Thin.refl _))) | exact ⟨rfl,Nat.le_of_ble_eq_true rfl⟩ | ((try unfold maxLen); (try simp only [List.length_nil,List.length_cons,List.length_append]); omega) | (refine ⟨rfl,?_⟩; (try simp only [List.length_nil,List.length_cons,List.length_append]); omega)) ?_ | intro _)); (all_goals (conv => whnf))
  all_goals (refine ⟨?_⟩; unfold addV LM; first | rw [if_pos (by omega)] | rw [if_neg (by omega)])
  all_goals first | rfl | (congr 4; omega)
def mulV (a k : Nat) : Value := if a * k ≤ LM then .tuple #[.int .i64 ((a * k : Nat) : Int),.nilIface] else .tuple #[.int .i64 0,errV 2]
theorem calls_lMul (a k : Nat) (ha : a ≤ LM) (hk : k ≤ 9223372036854775807) (w : World) : Calls Tryz.prog fn_length_Mul #[.int .i64 a,.int .i64 k] w fun e w' => e = .returned (mulV a k) ∧ Ext w w' := by
  refine pure_call [.v (.int .i64 a),.v (.int .i64 k)] w ok_length_Mul (by simp) ?_
  unfold LM at ha
  have c1 := calls_lValid a
  rw [decide_eq_true (by omega)] at c1
  have hd : (1152921504606846976 : Int) / (a : Int) = ((1152921504606846976 / a : Nat) : Int) := by rw [Int.natCast_ediv]; rfl
  have hm : (a : Int) * (k : Int) = ((a * k : Nat) : Int) := by simp
  have hiff : 0 < a → (k ≤ 1152921504606846976 / a ↔ a * k ≤ 1152921504606846976) := fun h => by
    rw [Nat.le_div_iff_mul_le h,Nat.mul_comm]
  generalize 1152921504606846976 / a = q at *
  have hz : a = 0 → a * k = 0 := fun h => by rw [h,Nat.zero_mul]
  rw [show mulV a k = if a * k ≤ LM then .tuple #[.int .i64 ((a * k : Nat) : Int),.nilIface] else .tuple #[.int .i64 0,errV 2] from rfl]
  unfold LM
  generalize a * k = p at *
  have hw1 : 0 < a → k ≤ q → p ≤ 1152921504606846976 := fun h1 h2 => (hiff h1).1 h2
  have hw2 : 0 < a → q < k → 1152921504606846976 < p := fun h1 h2 => by have := (hiff h1).2; omega
  (repeat' ((conv => whnf); first | rw [hd] | rw [hm] | refine CallK_pure (.v _) (fun w hR => c1 w) ?_ | (refine bcase_prop (fun h => ?_) (fun h => ?_) <;> try (exfalso; omega)) | (refine bcase_nprop (fun h => ?_) (fun h => ?_) <;> try (exfalso; omega)) | (refine bcase_intro (fun h => ?_) (fun h => ?_) <;> (try simp only [Bool.not_eq_true',Bool.not_eq_false',decide_eq_true_eq,decide_eq_false_iff_not,Bool.not_eq_true,Bool.not_eq_false,Decidable.not_not] at h)) | refine And.intro (by first | omega | exact rfl | assumption | exact ⟨rfl,rfl,rfl,rfl,rfl⟩ | exact ⟨rfl,rfl,rfl,rfl⟩ | exact ⟨rfl,by omega⟩ | exact oneAll_of rfl | exact ⟨rfl,oneAll_of rfl⟩ | exact Ref.refl _ | exact Thin.ref (.skip (Thin.refl _)) | exact Thin.ref (.skip (.skip (Thin.refl _))) | exact ⟨by omega,by omega,by omega⟩ | (have := hw1 (by omega) (by omega); omega) | exact ⟨rfl,Nat.le_of_ble_eq_true rfl⟩ | ((try unfold maxLen); (try simp only [List.length_nil,List.length_cons,List.length_append]); omega) | (refine ⟨rfl,?_⟩; (try simp only [List.length_nil,List.length_cons,List.length_append]); omega)) ?_ | intro _)); (all_goals (conv => whnf))
  · refine ⟨?_⟩
    rw [if_pos (by have := hz (by omega); omega),hz (by omega)]; rfl
  · refine ⟨?_⟩
    rw [if_neg (by have := hw2 (by omega) (by omega); omega)]; exact rfl
  · refine ⟨?_⟩
    rw [if_pos (by have := hw1 (by omega) (by omega); omega)]
theorem calls_dUnit (w : World) : Calls Tryz.prog fn_digest_Unit #[] w fun e w' => e = .returned (digV []) ∧ Ext w w' := by
  refine pure_call [] w ok_digest_Unit (by simp) ?_
  (repeat' ((conv => whnf); first | (refine bcase_prop (fun h => ?_) (fun h => ?_) <;> try (exfalso; omega)) | (refine bcase_nprop (fun h => ?_) (fun h => ?_) <;> try (exfalso; omega)) | (refine bcase_intro (fun h => ?_) (fun h => ?_) <;> (try simp only [Bool.not_eq_true',Bool.not_eq_false',decide_eq_true_eq,decide_eq_false_iff_not,Bool.not_eq_true,Bool.not_eq_false,Decidable.not_not] at h)) | refine And.intro (by first | omega | exact rfl | assumption | exact ⟨rfl,rfl,rfl,rfl,rfl⟩ | exact ⟨rfl,rfl,rfl,rfl⟩ | exact ⟨rfl,by omega⟩ | exact oneAll_of rfl | exact ⟨rfl,oneAll_of rfl⟩ | exact Ref.refl _ | exact Thin.ref (.skip (Thin.refl _)) | exact Thin.ref (.skip (.skip (Thin.refl _))) | exact ⟨rfl,Nat.le_of_ble_eq_true rfl⟩ | ((try unfold maxLen); (try simp only [List.length_nil,List.length_cons,List.length_append]); omega) | (refine ⟨rfl,?_⟩; (try simp only [List.length_nil,List.length_cons,List.length_append]); omega)) ?_ | intro _)); (all_goals (conv => whnf))
  exact ⟨rfl⟩
theorem calls_dLetter (b : Nat) (hb : b < 256) (w : World) : Calls Tryz.prog fn_digest_Letter #[.int .u8 b] w fun e w' => e = .returned (digV [b]) ∧ Ext w w' := by
  refine pure_call [.v (.int .u8 b)] w ok_digest_Letter (by simp) ?_
  have e1 : valN [b] = b + 1 := by
    have : poly [b] = b + 1 := by simp [poly,polyF]
    rw [valN,this]; exact Nat.mod_eq_of_lt (by unfold PP; omega)
  have e2 : scaleN [b] = 1103515245 := rfl
  have q : ((b : Int) + 1) % 18446744073709551616 = ((b + 1 : Nat) : Int) := by omega
  have q2 : (b : Int) % 18446744073709551616 = b := by omega
  unfold digV
  rw [e1,e2]
  (repeat' ((conv => whnf); first | rw [q] | rw [q2] | (refine bcase_prop (fun h => ?_) (fun h => ?_) <;> try (exfalso; omega)) | (refine bcase_nprop (fun h => ?_) (fun h => ?_) <;> try (exfalso; omega)) | (refine bcase_intro (fun h => ?_) (fun h => ?_) <;> (try simp only [Bool.not_eq_true',Bool.not_eq_false',decide_eq_true_eq,decide_eq_false_iff_not,Bool.not_eq_true,Bool.not_eq_false,Decidable.not_not] at h)) | refine And.intro (by first | omega | exact rfl | assumption | exact ⟨rfl,rfl,rfl,rfl,rfl⟩ | exact ⟨rfl,rfl,rfl,rfl⟩ | exact ⟨rfl,by omega⟩ | exact oneAll_of rfl | exact ⟨rfl,oneAll_of rfl⟩ | exact Ref.refl _ | exact Thin.ref (.skip (Thin.refl _)) | exact Thin.ref (.skip (.skip (Thin.refl _))) | exact ⟨rfl,Nat.le_of_ble_eq_true rfl⟩ | ((try unfold maxLen); (try simp only [List.length_nil,List.length_cons,List.length_append]); omega) | (refine ⟨rfl,?_⟩; (try simp only [List.length_nil,List.length_cons,List.length_append]); omega)) ?_ | intro _)); (all_goals (conv => whnf))
  exact ⟨rfl⟩
theorem PPlt {n : Nat} : n % PP < 18446744073709551616 := Nat.lt_trans (Nat.mod_lt n (by decide)) (by decide)
theorem valN_lt' (t : List Nat) : valN t < 18446744073709551616 := PPlt
theorem scaleN_lt' (t : List Nat) : scaleN t < 18446744073709551616 := PPlt
theorem calls_dJoin (s t : List Nat) (w : World) : Calls Tryz.prog fn_digest_Join #[digV s,digV t] w fun e w' => e = .returned (digV (s ++ t)) ∧ Ext w w' := by
  refine pure_call [.v (digV s),.v (digV t)] w ok_digest_Join (by simp) ?_
  have c1 := calls_mMul (valN s) (scaleN t) (valN_lt' _) (scaleN_lt' _)
  have c2 := calls_mAdd (valN s * scaleN t % PP) (valN t) PPlt (valN_lt' _)
  have c3 := calls_mMul (scaleN s) (scaleN t) (scaleN_lt' _) (scaleN_lt' _)
  rw [valN_append] at c2
  rw [scaleN_append] at c3
  (repeat' ((conv => whnf); first | refine CallK_pure (.v _) (fun w hR => c1 w) ?_ | refine CallK_pure (.v _) (fun w hR => c2 w) ?_ | refine CallK_pure (.v _) (fun w hR => c3 w) ?_ | refine QCall_pure (.v _) (fun w hR => c1 w) ?_ | refine QCall_pure (.v _) (fun w hR => c2 w) ?_ | refine QCall_pure (.v _) (fun w hR => c3 w) ?_ | (refine bcase_prop (fun h => ?_) (fun h => ?_) <;> try (exfalso; omega)) | (refine bcase_nprop (fun h => ?_) (fun h => ?_) <;> try (exfalso; omega)) | (refine bcase_intro (fun h => ?_) (fun h => ?_) <;> (try simp only [Bool.not_eq_true',Bool.not_eq_false',decide_eq_true_eq,decide_eq_false_iff_not,Bool.not_eq_true,Bool.not_eq_false,Decidable.not_not] at h)) | refine And.intro (by first | omega | exact rfl | assumption | exact ⟨rfl,rfl,rfl,rfl,rfl⟩ | exact ⟨rfl,rfl,rfl,rfl⟩ | exact ⟨rfl,by omega⟩ | exact oneAll_of rfl | exact ⟨rfl,oneAll_of rfl⟩ | exact Ref.refl _ | exact Thin.ref (.skip (Thin.refl _)) | exact Thin.ref (.skip (.skip (Thin.refl _))) | exact ⟨rfl,Nat.le_of_ble_eq_true rfl⟩ | ((try unfold maxLen); (try simp only [List.length_nil,List.length_cons,List.length_append]); omega) | (refine ⟨rfl,?_⟩; (try simp only [List.length_nil,List.length_cons,List.length_append]); omega)) ?_ | intro _)); (all_goals (conv => whnf))
  exact ⟨rfl⟩
structure RepG where
  m : Nat
  i : Nat
  k : Nat
theorem rep_half (m k p : Nat) : m + k % 2 * p + k / 2 * (p + p) = m + k * p := by
  conv => rhs; rw [← Nat.div_add_mod k 2]
  rw [Nat.add_mul,Nat.mul_assoc,Nat.mul_left_comm,Nat.two_mul]
  omega
theorem calls_dRepeat (t : List Nat) (k : Nat) (hk : k ≤ 9223372036854775807) (w : World) : Calls Tryz.prog fn_digest_Repeat #[digV t,.int .i64 k] w fun e w' => e = .returned (digV (rep k t)) ∧ Ext w w' := by
  refine pure_call [.v (digV t),.v (.int .i64 k)] w ok_digest_Repeat (by simp) ?_
  (repeat' ((conv => whnf); first | refine CallK_pure (.v _) (fun w hR => calls_dUnit w) ?_ | (refine bcase_prop (fun h => ?_) (fun h => ?_) <;> try (exfalso; omega)) | (refine bcase_nprop (fun h => ?_) (fun h => ?_) <;> try (exfalso; omega)) | (refine bcase_intro (fun h => ?_) (fun h => ?_) <;> (try simp only [Bool.not_eq_true',Bool.not_eq_false',decide_eq_true_eq,decide_eq_false_iff_not,Bool.not_eq_true,Bool.not_eq_false,Decidable.not_not] at h)) | refine And.intro (by first | omega | exact rfl | assumption | exact ⟨rfl,rfl,rfl,rfl,rfl⟩ | exact ⟨rfl,rfl,rfl,rfl⟩ | exact ⟨rfl,by omega⟩ | exact oneAll_of rfl | exact ⟨rfl,oneAll_of rfl⟩ | exact Ref.refl _ | exact Thin.ref (.skip (Thin.refl _)) | exact Thin.ref (.skip (.skip (Thin.refl _))) | exact ⟨rfl,Nat.le_of_ble_eq_true rfl⟩ | ((try unfold maxLen); (try simp only [List.length_nil,List.length_cons,List.length_append]); omega) | (refine ⟨rfl,?_⟩; (try simp only [List.length_nil,List.length_cons,List.length_append]); omega)) ?_ | intro _)); (all_goals (conv => whnf))
  rename_i b2 b4 b5
  refine VC_loop RepG (fun g => [(1,.v (.int .i64 g.k)),(2,.ptr 2 b2 0),(5,.ptr 5 b5 0),(4,.ptr 4 b4 0)])
    (fun g => [Ent.box 5 b5 [.int .u64 (valN (rep g.m t)),.int .u64 (scaleN (rep g.m t))] ty_api_Digest,Ent.box 4 b4 [.int .u64 0,.int .u64 0] ty_api_Digest,Ent.box 2 b2 [.int .u64 (valN (rep g.i t)),.int .u64 (scaleN (rep g.i t))] ty_api_Digest])
    (fun g => g.m + g.k * g.i = k ∧ g.k ≤ 9223372036854775807) (fun g => g.k) ⟨0,1,k⟩ ⟨by dsimp only; omega,hk⟩ (by (repeat ((conv => whnf); refine And.intro (by first | exact rfl | exact vint_eq (by omega) | exact vint_eq (by (dsimp only; omega)) | exact vsl_eq (by omega) | exact vsl_eq (by first | (dsimp only; omega) | (simp; done) | (simp; omega))) ?_)); exact trivial) (by dsimp only; rw [rep_zero,rep_one]; exact Ref.refl _) ?_
  rintro ⟨m,i,j⟩ ⟨hi,hj⟩
  dsimp only at hi hj ⊢
  have c1 := calls_dJoin (rep m t) (rep i t)
  have c2 := calls_dJoin (rep i t) (rep i t)
  rw [← rep_add] at c1 c2
  have q1 : (j : Int) / 2 = ((j / 2 : Nat) : Int) := by omega
  have hh := rep_half m j i
  (repeat' ((conv => whnf); first | rw [q1] | refine CallK_pure (.v _) (fun w hR => c1 w) ?_ | refine CallK_pure (.v _) (fun w hR => c2 w) ?_ | (refine bcase_prop (fun h => ?_) (fun h => ?_) <;> try (exfalso; omega)) | (refine bcase_nprop (fun h => ?_) (fun h => ?_) <;> try (exfalso; omega)) | (refine bcase_intro (fun h => ?_) (fun h => ?_) <;> (try simp only [Bool.not_eq_true',Bool.not_eq_false',decide_eq_true_eq,decide_eq_false_iff_not,Bool.not_eq_true,Bool.not_eq_false,Decidable.not_not] at h)) | refine And.intro (by first | omega | exact rfl | assumption | exact ⟨rfl,rfl,rfl,rfl,rfl⟩ | exact ⟨rfl,rfl,rfl,rfl⟩ | exact ⟨rfl,by omega⟩ | exact oneAll_of rfl | exact ⟨rfl,oneAll_of rfl⟩ | exact Ref.refl _ | exact Thin.ref (.skip (Thin.refl _)) | exact Thin.ref (.skip (.skip (Thin.refl _))) | exact ⟨rfl,Nat.le_of_ble_eq_true rfl⟩ | ((try unfold maxLen); (try simp only [List.length_nil,List.length_cons,List.length_append]); omega) | (refine ⟨rfl,?_⟩; (try simp only [List.length_nil,List.length_cons,List.length_append]); omega)) ?_ | intro _)); (all_goals (conv => whnf))
  · refine loop_next ⟨m + i,i + i,j / 2⟩ (by dsimp only; rw [show j % 2 = 1 by omega] at hh; omega) (by ((try dsimp only); omega)) (by (repeat ((conv => whnf); refine And.intro (by first | exact rfl | exact vint_eq (by omega) | exact vint_eq (by (dsimp only; omega)) | exact vsl_eq (by omega) | exact vsl_eq (by first | (dsimp only; omega) | (simp; done) | (simp; omega))) ?_)); exact trivial) (Ref.refl _)
  · refine loop_next ⟨m,i + i,j / 2⟩ (by dsimp only; rw [show j % 2 = 0 by omega] at hh; omega) (by ((try dsimp only); omega)) (by (repeat ((conv => whnf); refine And.intro (by first | exact rfl | exact vint_eq (by omega) | exact vint_eq (by (dsimp only; omega)) | exact vsl_eq (by omega) | exact vsl_eq (by first | (dsimp only; omega) | (simp; done) | (simp; omega))) ?_)); exact trivial) (Ref.refl _)
  · have : j = 0 := by omega
    subst this
    rw [Nat.zero_mul,Nat.add_zero] at hi
    subst hi
    exact ⟨rfl⟩
theorem calls_wUnit (w : World) : Calls Tryz.prog fn_weight_Unit #[] w fun e w' => e = .returned (wtV []) ∧ Ext w w' := by
  refine pure_call [] w ok_weight_Unit (by simp) ?_
  (repeat' ((conv => whnf); first | refine CallK_pure (.v _) (fun w hR => calls_dUnit w) ?_ | (refine bcase_prop (fun h => ?_) (fun h => ?_) <;> try (exfalso; omega)) | (refine bcase_nprop (fun h => ?_) (fun h => ?_) <;> try (exfalso; omega)) | (refine bcase_intro (fun h => ?_) (fun h => ?_) <;> (try simp only [Bool.not_eq_true',Bool.not_eq_false',decide_eq_true_eq,decide_eq_false_iff_not,Bool.not_eq_true,Bool.not_eq_false,Decidable.not_not] at h)) | refine And.intro (by first | omega | exact rfl | assumption | exact ⟨rfl,rfl,rfl,rfl,rfl⟩ | exact ⟨rfl,rfl,rfl,rfl⟩ | exact ⟨rfl,by omega⟩ | exact oneAll_of rfl | exact ⟨rfl,oneAll_of rfl⟩ | exact Ref.refl _ | exact Thin.ref (.skip (Thin.refl _)) | exact Thin.ref (.skip (.skip (Thin.refl _))) | exact ⟨rfl,Nat.le_of_ble_eq_true rfl⟩ | ((try unfold maxLen); (try simp only [List.length_nil,List.length_cons,List.length_append]); omega) | (refine ⟨rfl,?_⟩; (try simp only [List.length_nil,List.length_cons,List.length_append]); omega)) ?_ | intro _)); (all_goals (conv => whnf))
  exact ⟨rfl⟩
theorem calls_wLetter (b : Nat) (hb : b < 256) (w : World) : Calls Tryz.prog fn_weight_Letter #[.int .u8 b] w fun e w' => e = .returned (wtV [b]) ∧ Ext w w' := by
  refine pure_call [.v (.int .u8 b)] w ok_weight_Letter (by simp) ?_
  have e0 : b ≠ 10 → linesN [b] = 0 ∧ headN [b] = 1 ∧ tailN [b] = 1 := fun h => by
    have h0 : linesN [b] = 0 := by simp [linesN,h]
    exact ⟨h0,head_zero h0,tail_zero h0⟩
  (repeat' ((conv => whnf); first | refine CallK_pure (.v _) (fun w hR => calls_dLetter b hb w) ?_ | (refine bcase_prop (fun h => ?_) (fun h => ?_) <;> try (exfalso; omega)) | (refine bcase_nprop (fun h => ?_) (fun h => ?_) <;> try (exfalso; omega)) | (refine bcase_intro (fun h => ?_) (fun h => ?_) <;> (try simp only [Bool.not_eq_true',Bool.not_eq_false',decide_eq_true_eq,decide_eq_false_iff_not,Bool.not_eq_true,Bool.not_eq_false,Decidable.not_not] at h)) | refine And.intro (by first | omega | exact rfl | assumption | exact ⟨rfl,rfl,rfl,rfl,rfl⟩ | exact ⟨rfl,rfl,rfl,rfl⟩ | exact ⟨rfl,by omega⟩ | exact oneAll_of rfl | exact ⟨rfl,oneAll_of rfl⟩ | exact Ref.refl _ | exact Thin.ref (.skip (Thin.refl _)) | exact Thin.ref (.skip (.skip (Thin.refl _))) | exact ⟨rfl,Nat.le_of_ble_eq_true rfl⟩ | ((try unfold maxLen); (try simp only [List.length_nil,List.length_cons,List.length_append]); omega) | (refine ⟨rfl,?_⟩; (try simp only [List.length_nil,List.length_cons,List.length_append]); omega)) ?_ | intro _)); (all_goals (conv => whnf))
  · refine ⟨?_⟩
    have : b = 10 := by omega
    subst this
    rfl
  · refine ⟨?_⟩
    obtain ⟨e1,e2,e3⟩ := e0 (by omega)
    unfold wtV
    rw [e1,e2,e3]
    rfl
theorem calls_wValid (t : List Nat) (ht : t.length ≤ LM) (w : World) : Calls Tryz.prog fn_weight_Valid #[wtV t] w fun e w' => e = .returned (.bool true) ∧ Ext w w' := by
  refine pure_call [.v (wtV t)] w ok_weight_Valid (by simp) ?_
  unfold LM at ht
  have c1 := calls_lValid t.length
  rw [decide_eq_true (by omega)] at c1
  have c2 := calls_mPow 1103515245 t.length (by decide) (by omega)
  have h0 : linesN t = 0 → headN t = t.length ∧ tailN t = t.length := fun h => ⟨head_zero h,tail_zero h⟩
  have h1 := fit_lines t
  have h2 := valN_lt t
  have h3 : t.length = 0 → valN t = 0 := fun h => by rw [List.eq_nil_of_length_eq_zero h]; rfl
  have h4 : scaleN t = 1103515245 ^ t.length % PP := rfl
  rw [← h4] at c2
  have q1 : (t.length : Int) % 18446744073709551616 = t.length := by omega
  clear h4
  unfold PP at h2
  unfold wtV
  generalize t.length = n at *
  generalize linesN t = l at *
  generalize headN t = hd at *
  generalize tailN t = tl at *
  generalize valN t = v at *
  generalize scaleN t = sc at *
  (repeat' ((conv => whnf); first | rw [q1] | refine CallK_pure (.v _) (fun w hR => c1 w) ?_ | refine QCall_pure (.v _) (fun w hR => c2 w) ?_ | (refine bcase_prop (fun h => ?_) (fun h => ?_) <;> try (exfalso; omega)) | (refine bcase_nprop (fun h => ?_) (fun h => ?_) <;> try (exfalso; omega)) | (refine bcase_intro (fun h => ?_) (fun h => ?_) <;> (try simp only [Bool.not_eq_true',Bool.not_eq_false',decide_eq_true_eq,decide_eq_false_iff_not,Bool.not_eq_true,Bool.not_eq_false,Decidable.not_not] at h)) | refine And.intro (by first | omega | exact rfl | assumption | exact ⟨rfl,rfl,rfl,rfl,rfl⟩ | exact ⟨rfl,rfl,rfl,rfl⟩ | exact ⟨rfl,by omega⟩ | exact oneAll_of rfl | exact ⟨rfl,oneAll_of rfl⟩ | exact Ref.refl _ | exact Thin.ref (.skip (Thin.refl _)) | exact Thin.ref (.skip (.skip (Thin.refl _))) | exact ⟨rfl,Nat.le_of_ble_eq_true rfl⟩ | ((try unfold maxLen); (try simp only [List.length_nil,List.length_cons,List.length_append]); omega) | (refine ⟨rfl,?_⟩; (try simp only [List.length_nil,List.length_cons,List.length_append]); omega)) ?_ | intro _)); (all_goals (conv => whnf))
  all_goals (refine ⟨?_⟩; first | rfl | (exfalso; omega) | (congr 1; simp))
theorem calls_wJoin (s t : List Nat) (h : s.length + t.length ≤ LM) (w : World) : Calls Tryz.prog fn_weight_Join #[wtV s,wtV t] w fun e w' => e = .returned (.tuple #[wtV (s ++ t),.nilIface]) ∧ Ext w w' := by
  refine pure_call [.v (wtV s),.v (wtV t)] w ok_weight_Join (by simp) ?_
  have c1 := calls_wValid s (by omega)
  have c2 := calls_wValid t (by omega)
  have c3 := calls_lAdd s.length t.length (by omega) (by omega)
  rw [show addV s.length t.length = .tuple #[.int .i64 ((s.length + t.length : Nat) : Int),.nilIface] from if_pos h] at c3
  have c4 := calls_dJoin s t
  have e1 := lines_append s t
  have e2 := head_append s t
  have e3 := tail_append s t
  have b1 := fit_lines s
  have b2 := fit_lines t
  have z1 : linesN s = 0 → headN s = s.length ∧ tailN s = s.length := fun h => ⟨head_zero h,tail_zero h⟩
  have z2 : linesN t = 0 → headN t = t.length ∧ tailN t = t.length := fun h => ⟨head_zero h,tail_zero h⟩
  unfold LM at h
  unfold wtV at *
  unfold digV at c4
  rw [List.length_append,e1,e2,e3]
  generalize valN (s ++ t) = v at *
  generalize scaleN (s ++ t) = sc at *
  clear e1 e2 e3
  generalize s.length = n at *
  generalize t.length = n' at *
  generalize linesN s = l at *
  generalize linesN t = l' at *
  generalize headN s = hd at *
  generalize headN t = hd' at *
  generalize tailN s = tl at *
  generalize tailN t = tl' at *
  (repeat' ((conv => whnf); first | refine CallK_pure (.v _) (fun w hR => c1 w) ?_ | refine CallK_pure (.v _) (fun w hR => c2 w) ?_ | refine CallK_pure (.v _) (fun w hR => c3 w) ?_ | refine QCall_pure (.v _) (fun w hR => c1 w) ?_ | refine QCall_pure (.v _) (fun w hR => c2 w) ?_ | refine QCall_pure (.v _) (fun w hR => c4 w) ?_ | (refine bcase_prop (fun h => ?_) (fun h => ?_) <;> try (exfalso; omega)) | (refine bcase_nprop (fun h => ?_) (fun h => ?_) <;> try (exfalso; omega)) | (refine bcase_intro (fun h => ?_) (fun h => ?_) <;> (try simp only [Bool.not_eq_true',Bool.not_eq_false',decide_eq_true_eq,decide_eq_false_iff_not,Bool.not_eq_true,Bool.not_eq_false,Decidable.not_not] at h)) | refine And.intro (by first | omega | exact rfl | assumption | exact ⟨rfl,rfl,rfl,rfl,rfl⟩ | exact ⟨rfl,rfl,rfl,rfl⟩ | exact ⟨rfl,by omega⟩ | exact oneAll_of rfl | exact ⟨rfl,oneAll_of rfl⟩ | exact Ref.refl _ | exact Thin.ref (.skip (Thin.refl _)) | exact Thin.ref (.skip (.skip (Thin.refl _))) | exact ⟨rfl,Nat.le_of_ble_eq_true rfl⟩ | ((try unfold maxLen); (try simp only [List.length_nil,List.length_cons,List.length_append]); omega) | (refine ⟨rfl,?_⟩; (try simp only [List.length_nil,List.length_cons,List.length_append]); omega)) ?_ | intro _)); (all_goals (conv => whnf))
  all_goals (refine ⟨?_⟩)
  all_goals (try rw [if_pos (by omega : l = 0)]) 
  all_goals (try rw [if_neg (by omega : ¬ l = 0)])
  all_goals (try rw [if_pos (by omega : l' = 0)])
  all_goals (try rw [if_neg (by omega : ¬ l' = 0)])
  all_goals exact rfl
theorem calls_wRepeat (t : List Nat) (k : Nat) (hk : k ≤ 9223372036854775807) (h : t.length * k ≤ LM) (ht : t.length ≤ LM) (w : World) : Calls Tryz.prog fn_weight_Repeat #[wtV t,.int .i64 k] w fun e w' => e = .returned (.tuple #[wtV (rep k t),.nilIface]) ∧ Ext w w' := by
  refine pure_call [.v (wtV t),.v (.int .i64 k)] w ok_weight_Repeat (by simp) ?_
  have c1 := calls_wValid t ht
  have c3 := calls_lMul t.length k ht hk
  rw [show mulV t.length k = .tuple #[.int .i64 ((t.length * k : Nat) : Int),.nilIface] from if_pos h] at c3
  have c4 := calls_dRepeat t k hk
  have c5 := calls_wUnit
  have e1 := rep_lines k t
  have e0 := rep_length k t
  have hm : (linesN t : Int) * (k : Int) = ((linesN t * k : Nat) : Int) := by simp
  have hlk : linesN t * k ≤ t.length * k := Nat.mul_le_mul_right _ (List.count_le_length)
  by_cases hz : t.length * k = 0
  · have hr : rep k t = [] := List.eq_nil_of_length_eq_zero (by rw [e0,Nat.mul_comm]; exact hz)
    rw [hr] at *
    rw [hz] at c3
    (repeat' ((conv => whnf); first | refine CallK_pure (.v _) (fun w hR => c1 w) ?_ | refine CallK_pure (.v _) (fun w hR => c3 w) ?_ | refine CallK_pure (.v _) (fun w hR => c5 w) ?_ | (refine bcase_prop (fun h => ?_) (fun h => ?_) <;> try (exfalso; omega)) | (refine bcase_nprop (fun h => ?_) (fun h => ?_) <;> try (exfalso; omega)) | (refine bcase_intro (fun h => ?_) (fun h => ?_) <;> (try simp only [Bool.not_eq_true',Bool.not_eq_false',decide_eq_true_eq,decide_eq_false_iff_not,Bool.not_eq_true,Bool.not_eq_false,Decidable.not_not] at h)) | refine And.intro (by first | omega | exact rfl | assumption | exact ⟨rfl,rfl,rfl,rfl,rfl⟩ | exact ⟨rfl,rfl,rfl,rfl⟩ | exact ⟨rfl,by omega⟩ | exact oneAll_of rfl | exact ⟨rfl,oneAll_of rfl⟩ | exact Ref.refl _ | exact Thin.ref (.skip (Thin.refl _)) | exact Thin.ref (.skip (.skip (Thin.refl _))) | exact ⟨rfl,Nat.le_of_ble_eq_true rfl⟩ | ((try unfold maxLen); (try simp only [List.length_nil,List.length_cons,List.length_append]); omega) | (refine ⟨rfl,?_⟩; (try simp only [List.length_nil,List.length_cons,List.length_append]); omega)) ?_ | intro _)); (all_goals (conv => whnf))
    exact ⟨rfl⟩
  · have hk0 : 0 < k := by
      rcases Nat.eq_zero_or_pos k with h | h
      · rw [h,Nat.mul_zero] at hz; exact absurd rfl hz
      · exact h
    have e2 : linesN t ≠ 0 → headN (rep k t) = headN t := rep_head hk0 t
    have e3 : linesN t ≠ 0 → tailN (rep k t) = tailN t := rep_tail hk0 t
    have e4 : linesN t = 0 → headN (rep k t) = t.length * k ∧ tailN (rep k t) = t.length * k := fun h => by
      have h0 : linesN (rep k t) = 0 := by rw [e1,h,Nat.mul_zero]
      rw [head_zero h0,tail_zero h0,e0,Nat.mul_comm]; exact ⟨rfl,rfl⟩
    rw [Nat.mul_comm] at e0 e1
    unfold LM at h
    unfold wtV at *
    unfold digV at c4
    rw [e0,e1]
    clear e0 e1
    generalize valN (rep k t) = v at *
    generalize scaleN (rep k t) = sc at *
    generalize headN (rep k t) = hh at *
    generalize tailN (rep k t) = tt at *
    generalize t.length * k = nk at *
    generalize hlk2 : linesN t * k = lk at *
    generalize linesN t = l at *
    have hl0 : l = 0 → lk = 0 := fun h => by rw [← hlk2,h,Nat.zero_mul]
    (repeat' ((conv => whnf); first | rw [hm] | refine CallK_pure (.v _) (fun w hR => c1 w) ?_ | refine CallK_pure (.v _) (fun w hR => c3 w) ?_ | refine CallK_pure (.v _) (fun w hR => c4 w) ?_ | refine QCall_pure (.v _) (fun w hR => c1 w) ?_ | refine QCall_pure (.v _) (fun w hR => c4 w) ?_ | (refine bcase_prop (fun h => ?_) (fun h => ?_) <;> try (exfalso; omega)) | (refine bcase_nprop (fun h => ?_) (fun h => ?_) <;> try (exfalso; omega)) | (refine bcase_intro (fun h => ?_) (fun h => ?_) <;> (try simp only [Bool.not_eq_true',Bool.not_eq_false',decide_eq_true_eq,decide_eq_false_iff_not,Bool.not_eq_true,Bool.not_eq_false,Decidable.not_not] at h)) | refine And.intro (by first | omega | exact rfl | assumption | exact ⟨rfl,rfl,rfl,rfl,rfl⟩ | exact ⟨rfl,rfl,rfl,rfl⟩ | exact ⟨rfl,by omega⟩ | exact oneAll_of rfl | exact ⟨rfl,oneAll_of rfl⟩ | exact Ref.refl _ | exact Thin.ref (.skip (Thin.refl _)) | exact Thin.ref (.skip (.skip (Thin.refl _))) | exact ⟨rfl,Nat.le_of_ble_eq_true rfl⟩ | ((try unfold maxLen); (try simp only [List.length_nil,List.length_cons,List.length_append]); omega) | (refine ⟨rfl,?_⟩; (try simp only [List.length_nil,List.length_cons,List.length_append]); omega)) ?_ | intro _)); (all_goals (conv => whnf))
    · refine ⟨?_⟩
      obtain ⟨h1,h2⟩ := e4 (by omega)
      rw [h1,h2]
      exact rfl
    · refine ⟨?_⟩
      rw [e2 (by omega),e3 (by omega)]
      exact rfl
end Go.Proofs.YtkkhpdkfploodaaGreatDoor
/- Rules: their references,whether they are valid. -/
namespace Go.Proofs.YtkkhpdkfploodaaGreatDoor
open Go.EG
attribute [local irreducible] CallK QCall Go.Calls
set_option linter.unusedSimpArgs false
set_option linter.unusedVariables false
set_option maxRecDepth 20000
structure Rul where
  k : Int
  l : Int
  a : Int
  b : Int
  t : Int
deriving DecidableEq
abbrev ruC (r : Rul) : List Value := [.int .i64 r.k,.int .u8 r.l,.int .i64 r.a,.int .i64 r.b,.int .i64 r.t]
abbrev ruV (r : Rul) : Value := .agg #[.int .i64 r.k,.int .u8 r.l,.int .i64 r.a,.int .i64 r.b,.int .i64 r.t]
def okR (r : Rul) (n : Int) : Prop :=
  (r.k = 1 ∧ r.a = 0 ∧ r.b = 0 ∧ r.t = 0 ∧ 1 ≤ n) ∨ (r.k = 2 ∧ r.l = 0 ∧ r.t = 0 ∧ 1 ≤ r.a ∧ r.a < n ∧ 1 ≤ r.b ∧ r.b < n) ∨ (r.k = 3 ∧ r.l = 0 ∧ r.b = 0 ∧ 2 ≤ r.t ∧ 1 ≤ r.a ∧ r.a < n)
instance (r : Rul) (n : Int) : Decidable (okR r n) := by unfold okR; exact inferInstance
def refsL (r : Rul) : List Int := if r.k = 2 then [r.a,r.b] else if r.k = 3 then [r.a] else []
theorem calls_Refs (r : Rul) (w : World) : Calls Tryz.prog fn_rule_Refs #[ruV r] w (RetS ty_api_ID 1 (refsL r).length (ints .i64 (refsL r)) w) := by
  refine slice_call [.v (ruV r)] w ok_rule_Refs (by simp) ?_
  have e2 : r.k = 2 → refsL r = [r.a,r.b] := fun h => if_pos h
  have e3 : r.k = 3 → refsL r = [r.a] := fun h => by rw [refsL,if_neg (by omega),if_pos h]
  have e0 : r.k ≠ 2 → r.k ≠ 3 → refsL r = [] := fun h h' => by rw [refsL,if_neg h,if_neg h']
  (repeat' ((conv => whnf); first | (refine bcase_prop (fun h => ?_) (fun h => ?_) <;> try (exfalso; omega)) | (refine bcase_nprop (fun h => ?_) (fun h => ?_) <;> try (exfalso; omega)) | (refine bcase_intro (fun h => ?_) (fun h => ?_) <;> (try simp only [Bool.not_eq_true',Bool.not_eq_false',decide_eq_true_eq,decide_eq_false_iff_not,Bool.not_eq_true,Bool.not_eq_false,Decidable.not_not] at h)) | refine And.intro (by first | omega | exact rfl | assumption | exact ⟨rfl,rfl,rfl,rfl,rfl⟩ | exact ⟨rfl,rfl,rfl,rfl⟩ | exact ⟨rfl,by omega⟩ | exact oneAll_of rfl | exact ⟨rfl,oneAll_of rfl⟩ | exact Ref.refl _ | exact Thin.ref (.skip (Thin.refl _)) | exact Thin.ref (.skip (.skip (Thin.refl _))) | exact ⟨rfl,Nat.le_of_ble_eq_true rfl⟩ | ((try unfold maxLen); (try simp only [List.length_nil,List.length_cons,List.length_append]); omega) | (refine ⟨rfl,?_⟩; (try simp only [List.length_nil,List.length_cons,List.length_append]); omega)) ?_ | intro _)); (all_goals (conv => whnf))
  · refine ⟨?_⟩
    rw [e2 (by omega)]
    exact ⟨_,_,rfl,Thin.ref (.keep rfl (fun _ h => h) (.nil _))⟩
  · refine ⟨?_⟩
    rw [e3 (by omega)]
    exact ⟨_,_,rfl,Thin.ref (.keep rfl (fun _ h => h) (.nil _))⟩
  · refine ⟨?_⟩
    rw [e0 (by omega) (by omega)]
    exact ⟨none,0,rfl,fun w' h => (h.sub (List.nil_sublist _)).ownNil 0 ty_api_ID 1⟩
theorem okR_refs {r : Rul} {n : Int} (h : okR r n) : ∀ i : Nat,i < (refsL r).length → 1 ≤ (refsL r).getD i 0 ∧ (refsL r).getD i 0 < n := by
  intro i hi
  rcases h with ⟨h1,_⟩ | ⟨h1,_,_,h2,h3,h4,h5⟩ | ⟨h1,_,_,_,h2,h3⟩
  · rw [refsL,if_neg (by omega),if_neg (by omega)] at hi; simp at hi
  · rw [refsL,if_pos h1] at hi ⊢
    match i,hi with
    | 0,_ => exact ⟨h2,h3⟩
    | 1,_ => exact ⟨h4,h5⟩
  · rw [refsL,if_neg (by omega),if_pos h1] at hi ⊢
    match i,hi with
    | 0,_ => exact ⟨h2,h3⟩
theorem refsL_len (r : Rul) : (refsL r).length ≤ 2 := by
  unfold refsL
  split
  · exact Nat.le_refl 2
  · split <;> simp
end Go.Proofs.YtkkhpdkfploodaaGreatDoor
/- What a rule derives,as a term; the store of rules,as plain data. Plain Lean: no program in sight. -/
namespace Go.Proofs.YtkkhpdkfploodaaGreatDoor
open Go.EG
set_option linter.unusedSimpArgs false
set_option linter.unusedVariables false
inductive Tm where
  | nil
  | lt (l : Nat)
  | pr (a b : Tm)
  | pw (a : Tm) (k : Nat)
deriving DecidableEq
def Tm.txt : Tm → List Nat
  | .nil => []
  | .lt l => [l]
  | .pr a b => a.txt ++ b.txt
  | .pw a k => rep k a.txt
def Tm.dep : Tm → Nat
  | .nil => 0
  | .lt _ => 0
  | .pr a b => 1 + max a.dep b.dep
  | .pw a _ => 1 + a.dep
def Tm.evn : Tm → Bool
  | .nil => true
  | .lt _ => true
  | .pr a b => a.evn && b.evn && decide (a.dep ≤ b.dep + 1) && decide (b.dep ≤ a.dep + 1)
  | .pw _ _ => false
def Tm.len (m : Tm) : Nat := m.txt.length
structure Entr where
  r : Rul
  m : Tm
def ent0 : Entr := ⟨⟨0,0,0,0,0⟩,.nil⟩
def atE (E : List Entr) (n : Int) : Entr := if n ≤ 0 then ent0 else E.getD (n.toNat - 1) ent0
def tm (E : List Entr) (n : Int) : Tm := (atE E n).m
def mkT (E : List Entr) (r : Rul) : Tm := if r.k = 1 then .lt r.l.toNat else if r.k = 2 then .pr (tm E r.a) (tm E r.b) else .pw (tm E r.a) r.t.toNat
def mkE (E : List Entr) (r : Rul) : Entr := ⟨r,mkT E r⟩
def idx (r : Rul) : Nat → List Entr → Nat
  | _,[] => 0
  | i,x :: E => if r = x.r then i + 1 else idx r (i + 1) E
abbrev idOf (r : Rul) (E : List Entr) : Nat := idx r 0 E
structure Sto where
  most : Nat
  E : List Entr
abbrev addS (S : Sto) (x : Entr) : Sto := ⟨S.most,S.E ++ [x]⟩
structure WF (S : Sto) : Prop where
  most : S.most ≤ 1048576
  len : S.E.length ≤ S.most
  rul : ∀ i,i < S.E.length → okR (S.E.getD i ent0).r (i + 1)
  let_ : ∀ i,i < S.E.length → 0 ≤ (S.E.getD i ent0).r.l ∧ (S.E.getD i ent0).r.l < 256
  tms : ∀ i,i < S.E.length → (S.E.getD i ent0).m = mkT S.E (S.E.getD i ent0).r
  leng : ∀ i,i < S.E.length → (S.E.getD i ent0).m.len ≤ LM
  uniq : ∀ i,i < S.E.length → idOf (S.E.getD i ent0).r S.E = i + 1
def known (S : Sto) (n : Int) : Prop := 0 ≤ n ∧ n ≤ S.E.length
instance (S : Sto) (n : Int) : Decidable (known S n) := by unfold known; exact inferInstance
def stPut (S : Sto) (r : Rul) : Sto × Int × Nat :=
  if idOf r S.E = 0 then (if S.most ≤ S.E.length then (S,0,3) else (addS S (mkE S.E r),((S.E.length + 1 : Nat) : Int),0)) else (S,((idOf r S.E : Nat) : Int),0)
def letR (l : Nat) : Rul := ⟨1,l,0,0,0⟩
def pairR (i j : Int) : Rul := ⟨2,0,i,j,0⟩
def powR (i k : Int) : Rul := ⟨3,0,i,0,k⟩
def stPair (S : Sto) (i j : Int) : Sto × Int × Nat :=
  if ¬ known S i ∨ ¬ known S j then (S,0,1)
  else if i = 0 then (S,j,0)
  else if j = 0 then (S,i,0)
  else if LM < (tm S.E i).len + (tm S.E j).len then (S,0,2)
  else stPut S (pairR i j)
def stPower (S : Sto) (i k : Int) : Sto × Int × Nat :=
  if ¬ known S i ∨ k < 0 then (S,0,1)
  else if k = 0 ∨ i = 0 then (S,0,0)
  else if k = 1 then (S,i,0)
  else if LM < (tm S.E i).len * k.toNat then (S,0,2)
  else stPut S (powR i k)
theorem atE_succ (E : List Entr) (i : Nat) : atE E ((i : Int) + 1) = E.getD i ent0 := by
  unfold atE
  rw [if_neg (by omega),show ((i : Int) + 1).toNat - 1 = i by omega]
theorem atE_pos {E : List Entr} {n : Int} (h : 0 < n) : atE E n = E.getD (n.toNat - 1) ent0 := if_neg (by omega)
theorem tm_zero (E : List Entr) : tm E 0 = .nil := rfl
theorem getD_append_left {α : Type} {l l' : List α} {i : Nat} {d : α} (h : i < l.length) : (l ++ l').getD i d = l.getD i d := by
  simp [List.getD_eq_getElem?_getD,List.getElem?_append,h]
theorem atE_append {E E' : List Entr} {n : Int} (h : n ≤ E.length) : atE (E ++ E') n = atE E n := by
  unfold atE
  split
  · rfl
  · rw [getD_append_left (by omega)]
theorem tm_append {E E' : List Entr} {n : Int} (h : n ≤ E.length) : tm (E ++ E') n = tm E n := by unfold tm; rw [atE_append h]
theorem mkT_append {E E' : List Entr} {r : Rul} {n : Int} (h : okR r (n + 1)) (hn : n ≤ E.length) : mkT (E ++ E') r = mkT E r := by
  unfold mkT
  rcases h with h | ⟨h1,h2,h3,h4,h5,h6,h7⟩ | ⟨h1,h2,h3,h4,h5,h6⟩
  · rw [if_pos h.1,if_pos h.1]
  · rw [if_neg (by omega),if_pos h1,if_neg (by omega),if_pos h1,tm_append (by omega),tm_append (by omega)]
  · rw [if_neg (by omega),if_neg (by omega),if_neg (by omega),if_neg (by omega),tm_append (by omega)]
theorem idx_append {r : Rul} : ∀ {E : List Entr} {i : Nat},idx r i E ≠ 0 → ∀ E',idx r i (E ++ E') = idx r i E
  | [],_,h,_ => absurd rfl h
  | x :: E,i,h,E' => by
    simp only [List.cons_append,idx] at h ⊢
    split
    · rfl
    · rename_i hr
      rw [if_neg hr] at h
      exact idx_append h E'
theorem idx_none {r : Rul} : ∀ {E : List Entr} {i : Nat},idx r i E = 0 → ∀ {E' : List Entr},idx r i (E ++ E') = idx r (i + E.length) E'
  | [],i,_,E' => by simp
  | x :: E,i,h,E' => by
    simp only [idx] at h
    split at h
    · omega
    · rename_i hr
      simp only [List.cons_append,idx,if_neg hr,List.length_cons]
      rw [idx_none h]
      congr 1
      omega
theorem idx_le {r : Rul} : ∀ {E : List Entr} {i : Nat},idx r i E ≤ i + E.length
  | [],_ => by simp [idx]
  | x :: E,i => by
    simp only [idx,List.length_cons]
    split
    · omega
    · have := idx_le (r := r) (E := E) (i := i + 1); omega
theorem idx_spec {r : Rul} : ∀ {E : List Entr} {i : Nat},idx r i E ≠ 0 → i < idx r i E ∧ (E.getD (idx r i E - 1 - i) ent0).r = r
  | [],_,h => absurd rfl h
  | x :: E,i,h => by
    by_cases hr : r = x.r
    · have e : idx r i (x :: E) = i + 1 := if_pos hr
      rw [e]
      refine ⟨by omega,?_⟩
      rw [show i + 1 - 1 - i = 0 by omega]
      exact hr.symm
    · have e : idx r i (x :: E) = idx r (i + 1) E := if_neg hr
      rw [e] at h ⊢
      have ⟨h1,h2⟩ := idx_spec h
      refine ⟨by omega,?_⟩
      rw [show idx r (i + 1) E - 1 - i = (idx r (i + 1) E - 1 - (i + 1)) + 1 by omega,List.getD_cons_succ]
      exact h2
theorem idOf_at {r : Rul} {E : List Entr} (h : idOf r E ≠ 0) : (atE E (idOf r E)).r = r ∧ idOf r E ≤ E.length := by
  have h1 := idx_spec h
  have h2 := idx_le (r := r) (E := E) (i := 0)
  refine ⟨?_,by unfold idOf; omega⟩
  rw [atE_pos (by unfold idOf; omega)]
  have : ((idOf r E : Nat) : Int).toNat - 1 = idx r 0 E - 1 - 0 := by unfold idOf; omega
  rw [this]
  exact h1.2
section
variable {S : Sto} (h : WF S)
theorem WF.at_ {n : Int} (h : WF S) (h0 : 1 ≤ n) (h1 : n ≤ S.E.length) : okR (atE S.E n).r n ∧ (0 ≤ (atE S.E n).r.l ∧ (atE S.E n).r.l < 256) ∧ tm S.E n = mkT S.E (atE S.E n).r ∧ (tm S.E n).len ≤ LM ∧ idOf (atE S.E n).r S.E = n.toNat := by
  rw [show tm S.E n = (atE S.E n).m from rfl,atE_pos (by omega)]
  have hi : n.toNat - 1 < S.E.length := by omega
  refine ⟨?_,h.let_ _ hi,h.tms _ hi,h.leng _ hi,?_⟩
  · have := h.rul _ hi
    rwa [show ((n.toNat - 1 : Nat) : Int) + 1 = n by omega] at this
  · rw [h.uniq _ hi]; omega
theorem WF.le {n : Int} (h : WF S) (h1 : n ≤ S.E.length) : (tm S.E n).len ≤ LM := by
  by_cases h0 : n ≤ 0
  · rw [tm,atE,if_pos h0]; exact Nat.zero_le _
  · exact (h.at_ (by omega) h1).2.2.2.1
theorem len_rep (k : Nat) (t : List Nat) : (rep k t).length = k * t.length := rep_length k t
theorem WF.pos (h : WF S) : ∀ (k : Nat) (n : Int),n = k → 1 ≤ n → n ≤ S.E.length → 1 ≤ (tm S.E n).len ∧ (tm S.E n).dep < k := by
  intro k
  induction k using Nat.strongRecOn with
  | ind k ih =>
    intro n hk h0 h1
    obtain ⟨hr,_,ht,_⟩ := h.at_ h0 h1
    rw [ht]
    unfold mkT
    rcases hr with hr | ⟨h1',h2',h3',h4',h5',h6',h7'⟩ | ⟨h1',h2',h3',h4',h5',h6'⟩
    · rw [if_pos hr.1]; exact ⟨Nat.le_refl 1,by simp only [Tm.dep]; omega⟩
    · rw [if_neg (by omega),if_pos h1']
      have i1 := ih (atE S.E n).r.a.toNat (by omega) (atE S.E n).r.a (by omega) h4' (by omega)
      have i2 := ih (atE S.E n).r.b.toNat (by omega) (atE S.E n).r.b (by omega) h6' (by omega)
      refine ⟨?_,?_⟩
      · have := i1.1
        unfold Tm.len at this ⊢
        rw [Tm.txt,List.length_append]; omega
      · simp only [Tm.dep]; omega
    · rw [if_neg (by omega),if_neg (by omega)]
      have i1 := ih (atE S.E n).r.a.toNat (by omega) (atE S.E n).r.a (by omega) h5' (by omega)
      refine ⟨?_,?_⟩
      · have := i1.1
        unfold Tm.len at this ⊢
        rw [Tm.txt,len_rep]
        exact Nat.mul_pos (by omega) this
      · simp only [Tm.dep]; omega
theorem WF.pos1 {n : Int} (h : WF S) (h0 : 1 ≤ n) (h1 : n ≤ S.E.length) : 1 ≤ (tm S.E n).len := (h.pos n.toNat n (by omega) h0 h1).1
theorem WF.dep {n : Int} (h : WF S) (h1 : n ≤ S.E.length) : (tm S.E n).dep ≤ 1048576 := by
  by_cases h0 : n ≤ 0
  · rw [tm,atE,if_pos h0]; exact Nat.zero_le _
  · have := (h.pos n.toNat n (by omega) (by omega) h1).2
    have := h.most
    have := h.len
    omega
theorem WF.small (h : WF S) : S.E.length ≤ 1048576 := Nat.le_trans h.len h.most
end
structure Fit (S : Sto) (r : Rul) : Prop where
  ok : okR r (S.E.length + 1)
  let_ : 0 ≤ r.l ∧ r.l < 256
  len : (mkT S.E r).len ≤ LM
theorem getD_snoc_lt {α : Type} {l : List α} {x d : α} {i : Nat} (h : i < l.length) : (l ++ [x]).getD i d = l.getD i d := getD_append_left h
theorem WF.add {S : Sto} {r : Rul} (h : WF S) (hr : Fit S r) (hn : idOf r S.E = 0) (hm : S.E.length < S.most) : WF (addS S (mkE S.E r)) := by
  have key : ∀ i,i < (S.E ++ [mkE S.E r]).length → (i < S.E.length ∧ (S.E ++ [mkE S.E r]).getD i ent0 = S.E.getD i ent0) ∨ (i = S.E.length ∧ (S.E ++ [mkE S.E r]).getD i ent0 = mkE S.E r) := fun i hi => by
    rw [List.length_append] at hi
    simp only [List.length_cons,List.length_nil] at hi
    by_cases h : i < S.E.length
    · exact .inl ⟨h,getD_snoc_lt h⟩
    · exact .inr ⟨by omega,getD_snoc (by omega)⟩
  refine ⟨h.most,by simp only [addS,List.length_append,List.length_cons,List.length_nil]; omega,fun i hi => ?_,fun i hi => ?_,fun i hi => ?_,fun i hi => ?_,fun i hi => ?_⟩
  · rcases key i hi with ⟨h1,h2⟩ | ⟨h1,h2⟩
    · simp only [addS,h2]; exact h.rul i h1
    · simp only [addS,h2]; rw [h1]; exact hr.ok
  · rcases key i hi with ⟨h1,h2⟩ | ⟨h1,h2⟩
    · simp only [addS,h2]; exact h.let_ i h1
    · simp only [addS,h2]; exact hr.let_
  · rcases key i hi with ⟨h1,h2⟩ | ⟨h1,h2⟩
    · simp only [addS,h2]
      rw [mkT_append (h.rul i h1) (by omega)]
      exact h.tms i h1
    · simp only [addS,h2]
      rw [show (mkE S.E r).r = r from rfl,mkT_append hr.ok (by omega)]; rfl
  · rcases key i hi with ⟨h1,h2⟩ | ⟨h1,h2⟩
    · simp only [addS,h2]; exact h.leng i h1
    · simp only [addS,h2]; exact hr.len
  · rcases key i hi with ⟨h1,h2⟩ | ⟨h1,h2⟩
    · simp only [addS,h2]
      have := h.uniq i h1
      unfold idOf at this ⊢
      rw [idx_append (by omega)]; exact this
    · simp only [addS,h2]
      rw [h1]
      unfold idOf at hn ⊢
      rw [show (mkE S.E r).r = r from rfl,idx_none hn]
      simp [idx,mkE]
theorem WF.new (most : Nat) (h : most ≤ 1048576) : WF ⟨most,[]⟩ := by
  refine ⟨h,Nat.zero_le _,?_,?_,?_,?_,?_⟩ <;> (intro i hi; exact absurd hi (Nat.not_lt_zero _))
def Grow (S S' : Sto) : Prop := ∃ E',S' = ⟨S.most,S.E ++ E'⟩
theorem Grow.refl (S : Sto) : Grow S S := ⟨[],by simp⟩
theorem Grow.trans {S S' S'' : Sto} (h : Grow S S') (k : Grow S' S'') : Grow S S'' := by
  obtain ⟨E',rfl⟩ := h
  obtain ⟨E'',rfl⟩ := k
  exact ⟨E' ++ E'',by simp⟩
theorem Grow.tm {S S' : Sto} (h : Grow S S') {n : Int} (hn : n ≤ S.E.length) : tm S'.E n = tm S.E n := by
  obtain ⟨E',rfl⟩ := h
  exact tm_append hn
theorem Grow.len {S S' : Sto} (h : Grow S S') : S.E.length ≤ S'.E.length := by
  obtain ⟨E',rfl⟩ := h
  simp
theorem Grow.most {S S' : Sto} (h : Grow S S') : S'.most = S.most := by
  obtain ⟨E',rfl⟩ := h
  rfl
theorem Grow.known {S S' : Sto} (h : Grow S S') {n : Int} (hn : known S n) : known S' n := ⟨hn.1,by have := h.len; have := hn.2; omega⟩
theorem stPut_spec {S : Sto} {r : Rul} (h : WF S) (hr : Fit S r) : WF (stPut S r).1 ∧ Grow S (stPut S r).1 ∧ ((stPut S r).2.2 = 0 → 1 ≤ (stPut S r).2.1 ∧ known (stPut S r).1 (stPut S r).2.1 ∧ tm (stPut S r).1.E (stPut S r).2.1 = mkT S.E r ∧ (atE (stPut S r).1.E (stPut S r).2.1).r = r) ∧ ((stPut S r).2.2 ≠ 0 → (stPut S r).2.2 = 3 ∧ S.most ≤ S.E.length ∧ (stPut S r).2.1 = 0) ∧ (stPut S r).1.E.length ≤ S.E.length + 1 := by
  unfold stPut
  by_cases h0 : idOf r S.E = 0
  · rw [if_pos h0]
    by_cases h1 : S.most ≤ S.E.length
    · rw [if_pos h1]
      exact ⟨h,Grow.refl S,fun (h : (3 : Nat) = 0) => absurd h (by decide),fun _ => ⟨rfl,h1,rfl⟩,Nat.le_succ _⟩
    · rw [if_neg h1]
      refine ⟨h.add hr h0 (by omega),⟨_,rfl⟩,fun _ => ⟨by simp only; omega,⟨by simp only; omega,by simp [addS]⟩,?_,?_⟩,fun hn => absurd rfl hn,by simp [addS]⟩
      · show tm (S.E ++ [mkE S.E r]) ((S.E.length + 1 : Nat) : Int) = _
        rw [tm,show ((S.E.length + 1 : Nat) : Int) = ((S.E.length : Nat) : Int) + 1 by omega,atE_succ,getD_snoc rfl]; rfl
      · show (atE (S.E ++ [mkE S.E r]) ((S.E.length + 1 : Nat) : Int)).r = _
        rw [show ((S.E.length + 1 : Nat) : Int) = ((S.E.length : Nat) : Int) + 1 by omega,atE_succ,getD_snoc rfl]; rfl
  · rw [if_neg h0]
    have h1 := idOf_at h0
    refine ⟨h,Grow.refl S,fun _ => ⟨by simp only; omega,⟨by simp only; omega,by simp only; omega⟩,?_,h1.1⟩,fun hn => absurd rfl hn,by simp⟩
    have h2 := (h.at_ (n := (idOf r S.E : Nat)) (by omega) (by omega)).2.2.1
    rw [h1.1] at h2
    exact h2
theorem fit_let (S : Sto) {l : Nat} (hl : l < 256) : Fit S (letR l) := by
  refine ⟨.inl ⟨rfl,rfl,rfl,rfl,by omega⟩,⟨by simp [letR],by simp [letR]; omega⟩,?_⟩
  show (Tm.lt _).len ≤ LM
  exact (by decide : 1 ≤ LM)
theorem fit_pair {S : Sto} {i j : Int} (h1 : 1 ≤ i) (h2 : i ≤ S.E.length) (h3 : 1 ≤ j) (h4 : j ≤ S.E.length) (h : (tm S.E i).len + (tm S.E j).len ≤ LM) : Fit S (pairR i j) := by
  refine ⟨.inr (.inl ⟨rfl,rfl,rfl,h1,by simp only [pairR]; omega,h3,by simp only [pairR]; omega⟩),⟨by simp [pairR],by simp [pairR]⟩,?_⟩
  show (Tm.pr (tm S.E i) (tm S.E j)).len ≤ LM
  unfold Tm.len at *
  rw [Tm.txt,List.length_append]; exact h
theorem fit_pow {S : Sto} {i k : Int} (h1 : 1 ≤ i) (h2 : i ≤ S.E.length) (h3 : 2 ≤ k) (h : (tm S.E i).len * k.toNat ≤ LM) : Fit S (powR i k) := by
  refine ⟨.inr (.inr ⟨rfl,rfl,rfl,h3,h1,by simp only [powR]; omega⟩),⟨by simp [powR],by simp [powR]⟩,?_⟩
  show (Tm.pw (tm S.E i) k.toNat).len ≤ LM
  unfold Tm.len at *
  rw [Tm.txt,len_rep,Nat.mul_comm]; exact h
end Go.Proofs.YtkkhpdkfploodaaGreatDoor
/- The store of rules: what it holds,and how it lies on the heap. -/
namespace Go.Proofs.YtkkhpdkfploodaaGreatDoor
open Go.EG
attribute [local irreducible] CallK QCall Go.Calls
set_option linter.unusedSimpArgs false
set_option linter.unusedVariables false
set_option maxRecDepth 20000
abbrev entC (x : Entr) : List Value := [.int .i64 x.r.k,.int .u8 x.r.l,.int .i64 x.r.a,.int .i64 x.r.b,.int .i64 x.r.t,.int .i64 x.m.txt.length,.int .i64 (linesN x.m.txt),.int .i64 (headN x.m.txt),.int .i64 (tailN x.m.txt),.int .u64 (valN x.m.txt),.int .u64 (scaleN x.m.txt),.int .i64 x.m.dep,.bool x.m.evn]
abbrev entV (x : Entr) : Value := .agg #[.int .i64 x.r.k,.int .u8 x.r.l,.int .i64 x.r.a,.int .i64 x.r.b,.int .i64 x.r.t,.int .i64 x.m.txt.length,.int .i64 (linesN x.m.txt),.int .i64 (headN x.m.txt),.int .i64 (tailN x.m.txt),.int .u64 (valN x.m.txt),.int .u64 (scaleN x.m.txt),.int .i64 x.m.dep,.bool x.m.evn]
def ents (E : List Entr) : List Value := E.flatMap entC
theorem ents_snoc (E : List Entr) (x : Entr) : ents E ++ entC x = ents (E ++ [x]) := by simp [ents]
theorem ents_at : ∀ {E : List Entr} {i : Nat},i < E.length → ((ents E).drop (i * 13)).take 13 = entC (E.getD i ent0)
  | x :: E,0,_ => by simp [ents,entC]
  | x :: E,i + 1,h => by
    have ih := ents_at (E := E) (i := i) (by simpa using h)
    have e1 : ents (x :: E) = entC x ++ ents E := by simp [ents]
    rw [e1,show (i + 1) * 13 = (entC x).length + i * 13 by simp [entC]; omega,← List.drop_drop,List.drop_left]
    simpa using ih
def mapF : Nat → List Entr → List (Value × Value)
  | _,[] => []
  | i,x :: E => (ruV x.r,.int .i64 ((i + 1 : Nat) : Int)) :: mapF (i + 1) E
abbrev mapOf (E : List Entr) : List (Value × Value) := mapF 0 E
abbrev kkR : KK := .agg [.int .i64,.int .u8,.int .i64,.int .i64,.int .i64]
def fS (b : Nat) (S : Sto) (x : Option Addr × Nat × Nat) : List Ent :=
  [.box 1000 b [.int .i64 S.most,.slice x.1 S.E.length x.2.1,.map (some x.2.2)] ty_intern_Store,.own 1001 x.1 S.E.length x.2.1 ty_intern_entry 13 (ents S.E),.mapE 1002 x.2.2 kkR (mapOf S.E)]
theorem fS_eq (b : Nat) (S : Sto) (a : Option Addr) (c mb : Nat) : fS b S (a,c,mb) = [.box 1000 b [.int .i64 S.most,.slice a S.E.length c,.map (some mb)] ty_intern_Store,.own 1001 a S.E.length c ty_intern_entry 13 (ents S.E),.mapE 1002 mb kkR (mapOf S.E)] := rfl
def retS (key b : Nat) (S : Sto) (r v : Value) (L1 : List Ent) : Prop := v = r ∧ ∃ fp',L1 = [packE key fp' (fS b S)]
abbrev StR (w : World) (key : Nat) (fp : List Nat) (b : Nat) (S : Sto) : Prop := R w fp [packE key fp (fS b S)] w
theorem endR {key b : Nat} {S : Sto} {r v : Value} {w0 : World} {fp0 : List Nat} {L : List Ent} (a : Option Addr) (c mb : Nat) (h : Thin L (fS b S (a,c,mb))) (hv : v = r) : ∃ L1,Ref w0 fp0 L L1 ∧ retS key b S r v L1 :=
  ⟨_,Ref.pack (a,c,mb) h,hv,_,rfl⟩
theorem StR.key {w : World} {key fp b S} (h : StR w key fp b S) (k' : Nat) : StR w k' fp b S := (Thin.packE (.nil [])).ref w h
theorem endP {key k' b : Nat} {fp'' : List Nat} {S : Sto} {r v : Value} {w0 : World} {fp0 : List Nat} {L : List Ent} (h : Thin L [packE k' fp'' (fS b S)]) (hv : v = r) : ∃ L1,Ref w0 fp0 L L1 ∧ retS key b S r v L1 :=
  ⟨[packE key fp'' (fS b S)],fun w hR => (Thin.packE (.nil [])).ref w (h.ref w hR),hv,_,rfl⟩
def SC (f : Nat) (args : Array Value) (b : Nat) (S S' : Sto) (r : Value) : Prop :=
  ∀ (key : Nat) (fp : List Nat) (w : World),StR w key fp b S → Calls Tryz.prog f args w fun e w' => ∃ v L1,e = .returned v ∧ R w fp L1 w' ∧ retS key b S' r v L1
abbrev pS (b : Nat) : Value := .pointer (some ⟨b,0,none⟩)
def errO : Nat → Value
  | 0 => .nilIface
  | n + 1 => errV ((n + 1 : Nat) : Int)
def resV (p : Int × Nat) : Value := .tuple #[.int .i64 p.1,errO p.2]
theorem calls_known (b : Nat) (S : Sto) (n : Int) :
    SC fn_P_intern_Store_known #[pS b,.int .i64 n] b S S (.bool (decide (0 ≤ n ∧ n ≤ S.E.length))) := by
  intro key fp w hR
  refine pack_call [.ptr 1000 b 0,.v (.int .i64 n)] ok_P_intern_Store_known (by simp) hR ?_
  rintro ⟨a,c,mb⟩ hfp hR'
  rw [fS_eq]
  (repeat' ((conv => whnf); first | refine ⟨_,⟨rfl,trivial⟩,?_⟩ | (refine bcase_prop (fun h => ?_) (fun h => ?_) <;> try (exfalso; omega)) | (refine bcase_nprop (fun h => ?_) (fun h => ?_) <;> try (exfalso; omega)) | (refine bcase_intro (fun h => ?_) (fun h => ?_) <;> (try simp only [Bool.not_eq_true',Bool.not_eq_false',decide_eq_true_eq,decide_eq_false_iff_not,Bool.not_eq_true,Bool.not_eq_false,Decidable.not_not] at h)) | refine And.intro (by first | omega | exact rfl | assumption | exact ⟨rfl,rfl,rfl,rfl,rfl⟩ | exact ⟨rfl,rfl,rfl,rfl⟩ | exact ⟨rfl,by omega⟩ | exact oneAll_of rfl | exact ⟨rfl,oneAll_of rfl⟩ | exact Ref.refl _ | exact Thin.ref (.skip (Thin.refl _)) | exact Thin.ref (.skip (.skip (Thin.refl _))) | exact ⟨rfl,Nat.le_of_ble_eq_true rfl⟩ | ((try unfold maxLen); (try simp only [List.length_nil,List.length_cons,List.length_append]); omega) | (refine ⟨rfl,?_⟩; (try simp only [List.length_nil,List.length_cons,List.length_append]); omega)) ?_ | intro _)); (all_goals (conv => whnf))
  all_goals (refine ⟨endR a c mb (Thin.refl _) ?_⟩; congr 1; simp; omega)
theorem calls_sLen (b : Nat) (S : Sto) :
    SC fn_P_intern_Store_Len #[pS b] b S S (.int .i64 S.E.length) := by
  intro key fp w hR
  refine pack_call [.ptr 1000 b 0] ok_P_intern_Store_Len (by simp) hR ?_
  rintro ⟨a,c,mb⟩ hfp hR'
  rw [fS_eq]
  (repeat' ((conv => whnf); first | refine ⟨_,⟨rfl,trivial⟩,?_⟩ | (refine bcase_prop (fun h => ?_) (fun h => ?_) <;> try (exfalso; omega)) | (refine bcase_nprop (fun h => ?_) (fun h => ?_) <;> try (exfalso; omega)) | (refine bcase_intro (fun h => ?_) (fun h => ?_) <;> (try simp only [Bool.not_eq_true',Bool.not_eq_false',decide_eq_true_eq,decide_eq_false_iff_not,Bool.not_eq_true,Bool.not_eq_false,Decidable.not_not] at h)) | refine And.intro (by first | omega | exact rfl | assumption | exact ⟨rfl,rfl,rfl,rfl,rfl⟩ | exact ⟨rfl,rfl,rfl,rfl⟩ | exact ⟨rfl,by omega⟩ | exact oneAll_of rfl | exact ⟨rfl,oneAll_of rfl⟩ | exact Ref.refl _ | exact Thin.ref (.skip (Thin.refl _)) | exact Thin.ref (.skip (.skip (Thin.refl _))) | exact ⟨rfl,Nat.le_of_ble_eq_true rfl⟩ | ((try unfold maxLen); (try simp only [List.length_nil,List.length_cons,List.length_append]); omega) | (refine ⟨rfl,?_⟩; (try simp only [List.length_nil,List.length_cons,List.length_append]); omega)) ?_ | intro _)); (all_goals (conv => whnf))
  all_goals (exact ⟨endR a c mb (Thin.refl _) rfl⟩)
theorem calls_at0 (b : Nat) (S : Sto) :
    SC fn_P_intern_Store_at #[pS b,.int .i64 0] b S S (entV ent0) := by
  intro key fp w hR
  refine pack_call [.ptr 1000 b 0,.v (.int .i64 0)] ok_P_intern_Store_at (by simp) hR ?_
  rintro ⟨a,c,mb⟩ hfp hR'
  rw [fS_eq]
  (repeat' ((conv => whnf); first | refine ⟨_,⟨rfl,trivial⟩,?_⟩ | refine CallK_pure (.v _) (fun w hR => calls_wUnit w) ?_ | (refine bcase_prop (fun h => ?_) (fun h => ?_) <;> try (exfalso; omega)) | (refine bcase_nprop (fun h => ?_) (fun h => ?_) <;> try (exfalso; omega)) | (refine bcase_intro (fun h => ?_) (fun h => ?_) <;> (try simp only [Bool.not_eq_true',Bool.not_eq_false',decide_eq_true_eq,decide_eq_false_iff_not,Bool.not_eq_true,Bool.not_eq_false,Decidable.not_not] at h)) | refine And.intro (by first | omega | exact rfl | assumption | exact ⟨rfl,rfl,rfl,rfl,rfl⟩ | exact ⟨rfl,rfl,rfl,rfl⟩ | exact ⟨rfl,by omega⟩ | exact oneAll_of rfl | exact ⟨rfl,oneAll_of rfl⟩ | exact Ref.refl _ | exact Thin.ref (.skip (Thin.refl _)) | exact Thin.ref (.skip (.skip (Thin.refl _))) | exact ⟨rfl,Nat.le_of_ble_eq_true rfl⟩ | ((try unfold maxLen); (try simp only [List.length_nil,List.length_cons,List.length_append]); omega) | (refine ⟨rfl,?_⟩; (try simp only [List.length_nil,List.length_cons,List.length_append]); omega)) ?_ | intro _)); (all_goals (conv => whnf))
  all_goals (exact ⟨endR a c mb (.skip (Thin.refl _)) rfl⟩)
theorem calls_at (b : Nat) (S : Sto) (i : Nat) (hi : i < S.E.length) (hE : S.E.length ≤ 1048576) :
    SC fn_P_intern_Store_at #[pS b,.int .i64 ((i : Int) + 1)] b S S (entV (S.E.getD i ent0)) := by
  intro key fp w hR
  refine pack_call [.ptr 1000 b 0,.v (.int .i64 ((i : Int) + 1))] ok_P_intern_Store_at (by simp) hR ?_
  rintro ⟨a,c,mb⟩ hfp hR'
  rw [fS_eq] at hR' ⊢
  have hne := own_ne (key := 1001) hR' rfl (by omega)
  have e1 : ((i : Int) + 1 - 1).toNat = i := by omega
  have hat := ents_at hi
  (repeat' ((conv => whnf); first | refine ⟨_,⟨rfl,trivial⟩,?_⟩ | rw [e1] | refine ⟨entC (S.E.getD i ent0),rfl,Rd.own (key := 1001) rfl (Nat.succ_pos _) hat,?_⟩ | (refine bcase_prop (fun h => ?_) (fun h => ?_) <;> try (exfalso; omega)) | (refine bcase_nprop (fun h => ?_) (fun h => ?_) <;> try (exfalso; omega)) | (refine bcase_intro (fun h => ?_) (fun h => ?_) <;> (try simp only [Bool.not_eq_true',Bool.not_eq_false',decide_eq_true_eq,decide_eq_false_iff_not,Bool.not_eq_true,Bool.not_eq_false,Decidable.not_not] at h)) | refine And.intro (by first | omega | exact rfl | assumption | exact ⟨rfl,rfl,rfl,rfl,rfl⟩ | exact ⟨rfl,rfl,rfl,rfl⟩ | exact ⟨rfl,by omega⟩ | exact oneAll_of rfl | exact ⟨rfl,oneAll_of rfl⟩ | exact Ref.refl _ | exact Thin.ref (.skip (Thin.refl _)) | exact Thin.ref (.skip (.skip (Thin.refl _))) | exact hne | exact ⟨rfl,Nat.le_of_ble_eq_true rfl⟩ | ((try unfold maxLen); (try simp only [List.length_nil,List.length_cons,List.length_append]); omega) | (refine ⟨rfl,?_⟩; (try simp only [List.length_nil,List.length_cons,List.length_append]); omega)) ?_ | intro _)); (all_goals (conv => whnf))
  all_goals (exact ⟨endR a c mb (.skip (Thin.refl _)) rfl⟩)
theorem ruV_inj {r r' : Rul} : keyEq (ruV r) (ruV r') = true ↔ r = r' := by
  obtain ⟨k,l,a,b,t⟩ := r
  obtain ⟨k',l',a',b',t'⟩ := r'
  simp [keyEq,eqCells]
theorem keyOk_ru (r : Rul) : keyOk kkR (ruV r) := ⟨_,rfl,⟨⟨rfl,rfl⟩,⟨rfl,rfl⟩,⟨rfl,rfl⟩,⟨rfl,rfl⟩,⟨rfl,rfl⟩,trivial⟩⟩
theorem mget_map (r : Rul) : ∀ (E : List Entr) (i : Nat),mget (mapF i E) (ruV r) = if idx r i E = 0 then none else some (.int .i64 (idx r i E))
  | [],i => rfl
  | x :: E,i => by
    simp only [mapF,mget]
    by_cases h : r = x.r
    · have hi : idx r i (x :: E) = i + 1 := if_pos h
      rw [if_pos (ruV_inj.2 h),hi,if_neg (by omega)]
    · have hi : idx r i (x :: E) = idx r (i + 1) E := if_neg h
      rw [if_neg (fun hk => h (ruV_inj.1 hk)),hi]
      exact mget_map r E (i + 1)
theorem mset_map (r : Rul) (u : Value) : ∀ (E : List Entr) (i : Nat),idx r i E = 0 → mset (mapF i E) (ruV r) u = mapF i E ++ [(ruV r,u)]
  | [],i,_ => rfl
  | x :: E,i,h => by
    simp only [idx] at h
    split at h
    · omega
    · rename_i hr
      simp only [mapF,mset,if_neg (fun hk => hr (ruV_inj.1 hk)),mset_map r u E (i + 1) h,List.cons_append]
theorem mapF_snoc (x : Entr) : ∀ (E : List Entr) (i : Nat),mapF i E ++ [(ruV x.r,.int .i64 ((i + E.length + 1 : Nat) : Int))] = mapF i (E ++ [x])
  | [],i => rfl
  | y :: E,i => by
    have ih := mapF_snoc x E (i + 1)
    rw [show i + 1 + E.length + 1 = i + (y :: E).length + 1 by rw [List.length_cons]; omega] at ih
    simp only [mapF,List.cons_append]
    rw [← ih]
def findV (S : Sto) (r : Rul) : Value :=
  if idOf r S.E = 0 then (if S.most ≤ S.E.length then .tuple #[.int .i64 0,errV 3] else .tuple #[.int .i64 0,.nilIface]) else .tuple #[.int .i64 (idOf r S.E),.nilIface]
theorem calls_find (b : Nat) (S : Sto) (r : Rul) :
    SC fn_P_intern_Store_find #[pS b,ruV r] b S S (findV S r) := by
  intro key fp w hR
  refine pack_call [.ptr 1000 b 0,.v (ruV r)] ok_P_intern_Store_find (by simp) hR ?_
  rintro ⟨a,c,mb⟩ hfp hR'
  rw [fS_eq] at hR' ⊢
  have hm := mget_map r S.E 0
  have hk := keyOk_ru r
  unfold findV
  by_cases h0 : idOf r S.E = 0
  · rw [if_pos h0] at hm ⊢
    (repeat' ((conv => whnf); first | refine lk_none hm ?_ | refine ⟨.mp 1002 _,⟨rfl,rfl⟩,?_⟩ | refine ⟨_,⟨rfl,trivial⟩,?_⟩ | (refine bcase_prop (fun h => ?_) (fun h => ?_) <;> try (exfalso; omega)) | (refine bcase_nprop (fun h => ?_) (fun h => ?_) <;> try (exfalso; omega)) | (refine bcase_intro (fun h => ?_) (fun h => ?_) <;> (try simp only [Bool.not_eq_true',Bool.not_eq_false',decide_eq_true_eq,decide_eq_false_iff_not,Bool.not_eq_true,Bool.not_eq_false,Decidable.not_not] at h)) | refine And.intro (by first | omega | exact rfl | assumption | exact ⟨rfl,rfl,rfl,rfl,rfl⟩ | exact ⟨rfl,rfl,rfl,rfl⟩ | exact ⟨rfl,by omega⟩ | exact oneAll_of rfl | exact ⟨rfl,oneAll_of rfl⟩ | exact Ref.refl _ | exact Thin.ref (.skip (Thin.refl _)) | exact Thin.ref (.skip (.skip (Thin.refl _))) | exact ⟨rfl,rfl,hk⟩ | exact ⟨rfl,Nat.le_of_ble_eq_true rfl⟩ | ((try unfold maxLen); (try simp only [List.length_nil,List.length_cons,List.length_append]); omega) | (refine ⟨rfl,?_⟩; (try simp only [List.length_nil,List.length_cons,List.length_append]); omega)) ?_ | intro _)); (all_goals (conv => whnf))
    · refine ⟨endR a c mb (.skip (Thin.refl _)) ?_⟩
      rw [if_pos (by omega)]; rfl
    · refine ⟨endR a c mb (.skip (Thin.refl _)) ?_⟩
      rw [if_neg (by omega)]
  · rw [if_neg h0] at hm ⊢
    (repeat' ((conv => whnf); first | refine lk_some hm ?_ | refine ⟨.mp 1002 _,⟨rfl,rfl⟩,?_⟩ | refine ⟨_,⟨rfl,trivial⟩,?_⟩ | (refine bcase_prop (fun h => ?_) (fun h => ?_) <;> try (exfalso; omega)) | (refine bcase_nprop (fun h => ?_) (fun h => ?_) <;> try (exfalso; omega)) | (refine bcase_intro (fun h => ?_) (fun h => ?_) <;> (try simp only [Bool.not_eq_true',Bool.not_eq_false',decide_eq_true_eq,decide_eq_false_iff_not,Bool.not_eq_true,Bool.not_eq_false,Decidable.not_not] at h)) | refine And.intro (by first | omega | exact rfl | assumption | exact ⟨rfl,rfl,rfl,rfl,rfl⟩ | exact ⟨rfl,rfl,rfl,rfl⟩ | exact ⟨rfl,by omega⟩ | exact oneAll_of rfl | exact ⟨rfl,oneAll_of rfl⟩ | exact Ref.refl _ | exact Thin.ref (.skip (Thin.refl _)) | exact Thin.ref (.skip (.skip (Thin.refl _))) | exact ⟨rfl,rfl,hk⟩ | exact ⟨rfl,Nat.le_of_ble_eq_true rfl⟩ | ((try unfold maxLen); (try simp only [List.length_nil,List.length_cons,List.length_append]); omega) | (refine ⟨rfl,?_⟩; (try simp only [List.length_nil,List.length_cons,List.length_append]); omega)) ?_ | intro _)); (all_goals (conv => whnf))
    exact ⟨endR a c mb (.skip (Thin.refl _)) rfl⟩
theorem calls_add (b : Nat) (S : Sto) (x : Entr) (hx : idOf x.r S.E = 0) (hE : S.E.length ≤ 1048576) :
    SC fn_P_intern_Store_add #[pS b,entV x] b S (addS S x) (.int .i64 (S.E.length + 1 : Nat)) := by
  intro key fp w hR
  refine pack_call [.ptr 1000 b 0,.v (entV x)] ok_P_intern_Store_add (by simp) hR ?_
  rintro ⟨a,c,mb⟩ hfp hR'
  rw [fS_eq] at hR' ⊢
  have hm := mset_map x.r (.int .i64 ((S.E.length + 1 : Nat) : Int)) S.E 0 hx
  have hk := keyOk_ru x.r
  have hs := mapF_snoc x S.E 0
  rw [Nat.zero_add] at hs
  rw [hs] at hm
  have hsn := ents_snoc S.E x
  (repeat' ((conv => whnf); first | rw [hm] | rw [hsn] | refine ⟨.sl 1001 _ _ _,⟨rfl,rfl,rfl,rfl⟩,?_⟩ | refine ⟨.mp 1002 _,⟨rfl,rfl⟩,?_⟩ | refine ⟨_,⟨rfl,trivial⟩,?_⟩ | (refine bcase_prop (fun h => ?_) (fun h => ?_) <;> try (exfalso; omega)) | (refine bcase_nprop (fun h => ?_) (fun h => ?_) <;> try (exfalso; omega)) | (refine bcase_intro (fun h => ?_) (fun h => ?_) <;> (try simp only [Bool.not_eq_true',Bool.not_eq_false',decide_eq_true_eq,decide_eq_false_iff_not,Bool.not_eq_true,Bool.not_eq_false,Decidable.not_not] at h)) | refine And.intro (by first | omega | exact rfl | assumption | exact ⟨rfl,rfl,rfl,rfl,rfl⟩ | exact ⟨rfl,rfl,rfl,rfl⟩ | exact ⟨rfl,by omega⟩ | exact oneAll_of rfl | exact ⟨rfl,oneAll_of rfl⟩ | exact Ref.refl _ | exact Thin.ref (.skip (Thin.refl _)) | exact Thin.ref (.skip (.skip (Thin.refl _))) | exact ⟨rfl,rfl,hk⟩ | exact ⟨by omega,by unfold maxLen; omega⟩ | exact ⟨by unfold maxLen; omega,by omega⟩ | exact ⟨rfl,Nat.le_of_ble_eq_true rfl⟩ | ((try unfold maxLen); (try simp only [List.length_nil,List.length_cons,List.length_append]); omega) | (refine ⟨rfl,?_⟩; (try simp only [List.length_nil,List.length_cons,List.length_append]); omega)) ?_ | intro _)); (all_goals (conv => whnf))
  rename_i b3 b12 a' c'
  have hlen : (S.E ++ [x]).length = S.E.length + 1 := by simp
  refine ⟨endR a' c' mb (.skip (.skip ?_)) rfl⟩
  rw [fS_eq]
  simp only [hlen]
  exact Thin.refl _
end Go.Proofs.YtkkhpdkfploodaaGreatDoor
/- The store's functions: letters,pairs,powers,rules,weights. -/
namespace Go.Proofs.YtkkhpdkfploodaaGreatDoor
open Go.EG
attribute [local irreducible] CallK QCall Go.Calls
set_option linter.unusedSimpArgs false
set_option linter.unusedVariables false
set_option maxRecDepth 20000
theorem calls_knownT (b : Nat) (S : Sto) {n : Int} (h : known S n) : SC fn_P_intern_Store_known #[pS b,.int .i64 n] b S S (.bool true) := by
  have c := calls_known b S n
  rwa [decide_eq_true (by exact h)] at c
theorem calls_knownF (b : Nat) (S : Sto) {n : Int} (h : ¬ known S n) : SC fn_P_intern_Store_known #[pS b,.int .i64 n] b S S (.bool false) := by
  have c := calls_known b S n
  rwa [decide_eq_false (by exact h)] at c
theorem calls_atN (b : Nat) (S : Sto) {n : Int} (h : known S n) (hE : S.E.length ≤ 1048576) : SC fn_P_intern_Store_at #[pS b,.int .i64 n] b S S (entV (atE S.E n)) := by
  by_cases h0 : n = 0
  · subst h0
    exact calls_at0 b S
  · have h1 := h.1
    have h2 := h.2
    obtain ⟨i,rfl⟩ : ∃ i : Nat,n = (i : Int) + 1 := ⟨n.toNat - 1,by omega⟩
    rw [atE_succ]
    exact calls_at b S i (by omega) hE
theorem stPut_none {S : Sto} {r : Rul} (h : idOf r S.E = 0) (h1 : S.most ≤ S.E.length) : stPut S r = (S,0,3) := by rw [stPut,if_pos h,if_pos h1]
theorem stPut_new {S : Sto} {r : Rul} (h : idOf r S.E = 0) (h1 : ¬ S.most ≤ S.E.length) : stPut S r = (addS S (mkE S.E r),((S.E.length + 1 : Nat) : Int),0) := by rw [stPut,if_pos h,if_neg h1]
theorem stPut_old {S : Sto} {r : Rul} (h : idOf r S.E ≠ 0) : stPut S r = (S,((idOf r S.E : Nat) : Int),0) := by rw [stPut,if_neg h]
theorem findV_none {S : Sto} {r : Rul} (h : idOf r S.E = 0) (h1 : S.most ≤ S.E.length) : findV S r = .tuple #[.int .i64 0,errV 3] := by rw [findV,if_pos h,if_pos h1]
theorem findV_new {S : Sto} {r : Rul} (h : idOf r S.E = 0) (h1 : ¬ S.most ≤ S.E.length) : findV S r = .tuple #[.int .i64 0,.nilIface] := by rw [findV,if_pos h,if_neg h1]
theorem findV_old {S : Sto} {r : Rul} (h : idOf r S.E ≠ 0) : findV S r = .tuple #[.int .i64 (idOf r S.E : Nat),.nilIface] := by rw [findV,if_neg h]
theorem calls_Letter (b : Nat) (S : Sto) (l : Nat) (hl : l < 256) (hE : S.E.length ≤ 1048576) : SC fn_P_intern_Store_Letter #[pS b,.int .u8 l] b S (stPut S (letR l)).1 (resV (stPut S (letR l)).2) := by
  intro key fp w hR
  refine part_call [.v (pS b),.v (.int .u8 l)] ok_P_intern_Store_Letter (by simp) (hR.key 77) ?_
  have c1 := calls_find b S (letR l)
  have c3 := calls_wLetter l hl
  by_cases h0 : idOf (letR l) S.E = 0
  · by_cases h1 : S.most ≤ S.E.length
    · rw [findV_none h0 h1] at c1
      rw [stPut_none h0 h1]
      (repeat' ((conv => whnf); first | (refine CallK_pack (key := 77) rfl (fun w hR h0 => c1 _ _ _ h0) ?_; rintro _ _ ⟨rfl,fp',rfl⟩; refine ⟨.v _,rfl,?_⟩) | (refine bcase_prop (fun h => ?_) (fun h => ?_) <;> try (exfalso; omega)) | (refine bcase_nprop (fun h => ?_) (fun h => ?_) <;> try (exfalso; omega)) | (refine bcase_intro (fun h => ?_) (fun h => ?_) <;> (try simp only [Bool.not_eq_true',Bool.not_eq_false',decide_eq_true_eq,decide_eq_false_iff_not,Bool.not_eq_true,Bool.not_eq_false,Decidable.not_not] at h)) | refine And.intro (by first | omega | exact rfl | assumption | exact ⟨rfl,rfl,rfl,rfl,rfl⟩ | exact ⟨rfl,rfl,rfl,rfl⟩ | exact ⟨rfl,by omega⟩ | exact oneAll_of rfl | exact ⟨rfl,oneAll_of rfl⟩ | exact Ref.refl _ | exact Thin.ref (.skip (Thin.refl _)) | exact Thin.ref (.skip (.skip (Thin.refl _))) | exact ⟨rfl,Nat.le_of_ble_eq_true rfl⟩ | ((try unfold maxLen); (try simp only [List.length_nil,List.length_cons,List.length_append]); omega) | (refine ⟨rfl,?_⟩; (try simp only [List.length_nil,List.length_cons,List.length_append]); omega)) ?_ | intro _)); (all_goals (conv => whnf))
      exact ⟨endP (by (repeat (first | exact Thin.nil _ | exact Thin.refl _ | refine Thin.keep rfl (fun _ h => h) ?_ | refine Thin.skip ?_))) rfl⟩
    · rw [findV_new h0 h1] at c1
      rw [stPut_new h0 h1]
      have c2 := calls_add b S (mkE S.E (letR l)) h0 hE
      (repeat' ((conv => whnf); first | (refine CallK_pack (key := 77) rfl (fun w hR h0 => c1 _ _ _ h0) ?_; rintro _ _ ⟨rfl,fp',rfl⟩; refine ⟨.v _,rfl,?_⟩) | (refine CallK_pack (key := 77) rfl (fun w hR h0 => c2 _ _ _ h0) ?_; rintro _ _ ⟨rfl,fp',rfl⟩; refine ⟨.v _,rfl,?_⟩) | (refine QCall_pure (.v _) (fun w hR => c3 w) ?_) | (refine bcase_prop (fun h => ?_) (fun h => ?_) <;> try (exfalso; omega)) | (refine bcase_nprop (fun h => ?_) (fun h => ?_) <;> try (exfalso; omega)) | (refine bcase_intro (fun h => ?_) (fun h => ?_) <;> (try simp only [Bool.not_eq_true',Bool.not_eq_false',decide_eq_true_eq,decide_eq_false_iff_not,Bool.not_eq_true,Bool.not_eq_false,Decidable.not_not] at h)) | refine And.intro (by first | omega | exact rfl | assumption | exact ⟨rfl,rfl,rfl,rfl,rfl⟩ | exact ⟨rfl,rfl,rfl,rfl⟩ | exact ⟨rfl,by omega⟩ | exact oneAll_of rfl | exact ⟨rfl,oneAll_of rfl⟩ | exact Ref.refl _ | exact Thin.ref (.skip (Thin.refl _)) | exact Thin.ref (.skip (.skip (Thin.refl _))) | exact ⟨rfl,Nat.le_of_ble_eq_true rfl⟩ | ((try unfold maxLen); (try simp only [List.length_nil,List.length_cons,List.length_append]); omega) | (refine ⟨rfl,?_⟩; (try simp only [List.length_nil,List.length_cons,List.length_append]); omega)) ?_ | intro _)); (all_goals (conv => whnf))
      exact ⟨endP (by (repeat (first | exact Thin.nil _ | exact Thin.refl _ | refine Thin.keep rfl (fun _ h => h) ?_ | refine Thin.skip ?_))) rfl⟩
  · rw [findV_old h0] at c1
    rw [stPut_old h0]
    (repeat' ((conv => whnf); first | (refine CallK_pack (key := 77) rfl (fun w hR h0 => c1 _ _ _ h0) ?_; rintro _ _ ⟨rfl,fp',rfl⟩; refine ⟨.v _,rfl,?_⟩) | (refine bcase_prop (fun h => ?_) (fun h => ?_) <;> try (exfalso; omega)) | (refine bcase_nprop (fun h => ?_) (fun h => ?_) <;> try (exfalso; omega)) | (refine bcase_intro (fun h => ?_) (fun h => ?_) <;> (try simp only [Bool.not_eq_true',Bool.not_eq_false',decide_eq_true_eq,decide_eq_false_iff_not,Bool.not_eq_true,Bool.not_eq_false,Decidable.not_not] at h)) | refine And.intro (by first | omega | exact rfl | assumption | exact ⟨rfl,rfl,rfl,rfl,rfl⟩ | exact ⟨rfl,rfl,rfl,rfl⟩ | exact ⟨rfl,by omega⟩ | exact oneAll_of rfl | exact ⟨rfl,oneAll_of rfl⟩ | exact Ref.refl _ | exact Thin.ref (.skip (Thin.refl _)) | exact Thin.ref (.skip (.skip (Thin.refl _))) | exact ⟨rfl,Nat.le_of_ble_eq_true rfl⟩ | ((try unfold maxLen); (try simp only [List.length_nil,List.length_cons,List.length_append]); omega) | (refine ⟨rfl,?_⟩; (try simp only [List.length_nil,List.length_cons,List.length_append]); omega)) ?_ | intro _)); (all_goals (conv => whnf))
    exact ⟨endP (by (repeat (first | exact Thin.nil _ | exact Thin.refl _ | refine Thin.keep rfl (fun _ h => h) ?_ | refine Thin.skip ?_))) rfl⟩
theorem even1 {a b : Bool} {p q : Nat} (ha : a = true) (hb : b = true) (h : -1 ≤ (p : Int) - (q : Int)) : decide ((p : Int) - (q : Int) ≤ 1) = (a && b && decide (p ≤ q + 1) && decide (q ≤ p + 1)) := by
  subst ha hb
  rw [decide_eq_true (p := q ≤ p + 1) (by omega),Bool.and_true,Bool.true_and,Bool.true_and,decide_eq_decide]
  omega
theorem even2 {a b : Bool} {p q : Nat} (h : ¬ -1 ≤ (p : Int) - (q : Int)) : false = (a && b && decide (p ≤ q + 1) && decide (q ≤ p + 1)) := by
  rw [decide_eq_false (p := q ≤ p + 1) (by omega),Bool.and_false]
theorem even3 {a b : Bool} {p q : Nat} (h : b = false) : false = (a && b && decide (p ≤ q + 1) && decide (q ≤ p + 1)) := by
  subst h; simp
theorem even4 {a b : Bool} {p q : Nat} (h : a = false) : false = (a && b && decide (p ≤ q + 1) && decide (q ≤ p + 1)) := by
  subst h; simp
theorem calls_PairOk (b : Nat) (S : Sto) (i j : Int) (hi : known S i) (hj : known S j) (hi0 : i ≠ 0) (hj0 : j ≠ 0) (hE : S.E.length ≤ 1048576) (hl : (tm S.E i).len + (tm S.E j).len ≤ LM) (hd : (tm S.E i).dep ≤ 1048576) (hd' : (tm S.E j).dep ≤ 1048576) :
    SC fn_P_intern_Store_Pair #[pS b,.int .i64 i,.int .i64 j] b S (stPut S (pairR i j)).1 (resV (stPut S (pairR i j)).2) := by
  intro key fp w hR
  refine part_call [.v (pS b),.v (.int .i64 i),.v (.int .i64 j)] ok_P_intern_Store_Pair (by simp) (hR.key 77) ?_
  have c1 := calls_find b S (pairR i j)
  have c3 := calls_knownT b S hi
  have c4 := calls_knownT b S hj
  have c5 := calls_atN b S hi hE
  have c6 := calls_atN b S hj hE
  have hpe : mkE S.E (pairR i j) = ⟨pairR i j,.pr (tm S.E i) (tm S.E j)⟩ := rfl
  unfold tm at *
  generalize atE S.E i = x at *
  generalize atE S.E j = y at *
  unfold Tm.len at hl
  have c7 := calls_lAdd x.m.txt.length y.m.txt.length (by omega) (by omega)
  rw [show addV x.m.txt.length y.m.txt.length = .tuple #[.int .i64 ((x.m.txt.length + y.m.txt.length : Nat) : Int),.nilIface] from if_pos hl] at c7
  have c8 := calls_wJoin x.m.txt y.m.txt hl
  by_cases h0 : idOf (pairR i j) S.E = 0
  · by_cases h1 : S.most ≤ S.E.length
    · rw [findV_none h0 h1] at c1
      rw [stPut_none h0 h1]
      (repeat' ((conv => whnf); first | (refine CallK_pack (key := 77) rfl (fun w hR h0 => c1 _ _ _ h0) ?_; rintro _ _ ⟨rfl,fp',rfl⟩; refine ⟨.v _,rfl,?_⟩) | (refine CallK_pack (key := 77) rfl (fun w hR h0 => c3 _ _ _ h0) ?_; rintro _ _ ⟨rfl,fp',rfl⟩; refine ⟨.v _,rfl,?_⟩) | (refine CallK_pack (key := 77) rfl (fun w hR h0 => c4 _ _ _ h0) ?_; rintro _ _ ⟨rfl,fp',rfl⟩; refine ⟨.v _,rfl,?_⟩) | (refine CallK_pack (key := 77) rfl (fun w hR h0 => c5 _ _ _ h0) ?_; rintro _ _ ⟨rfl,fp',rfl⟩; refine ⟨.v _,rfl,?_⟩) | (refine CallK_pack (key := 77) rfl (fun w hR h0 => c6 _ _ _ h0) ?_; rintro _ _ ⟨rfl,fp',rfl⟩; refine ⟨.v _,rfl,?_⟩) | (first | refine CallK_pure (.v _) (fun w hR => c7 w) ?_ | refine QCall_pure (.v _) (fun w hR => c7 w) ?_) | (refine bcase_prop (fun h => ?_) (fun h => ?_) <;> try (exfalso; omega)) | (refine bcase_nprop (fun h => ?_) (fun h => ?_) <;> try (exfalso; omega)) | (refine bcase_intro (fun h => ?_) (fun h => ?_) <;> (try simp only [Bool.not_eq_true',Bool.not_eq_false',decide_eq_true_eq,decide_eq_false_iff_not,Bool.not_eq_true,Bool.not_eq_false,Decidable.not_not] at h)) | refine And.intro (by first | omega | exact rfl | assumption | exact ⟨rfl,rfl,rfl,rfl,rfl⟩ | exact ⟨rfl,rfl,rfl,rfl⟩ | exact ⟨rfl,by omega⟩ | exact oneAll_of rfl | exact ⟨rfl,oneAll_of rfl⟩ | exact Ref.refl _ | exact Thin.ref (.skip (Thin.refl _)) | exact Thin.ref (.skip (.skip (Thin.refl _))) | exact ⟨rfl,Nat.le_of_ble_eq_true rfl⟩ | ((try unfold maxLen); (try simp only [List.length_nil,List.length_cons,List.length_append]); omega) | (refine ⟨rfl,?_⟩; (try simp only [List.length_nil,List.length_cons,List.length_append]); omega)) ?_ | intro _)); (all_goals (conv => whnf))
      exact ⟨endP (by (repeat (first | exact Thin.nil _ | exact Thin.refl _ | refine Thin.keep rfl (fun _ h => h) ?_ | refine Thin.skip ?_))) rfl⟩
    · rw [findV_new h0 h1] at c1
      rw [stPut_new h0 h1,hpe]
      have c2 : ∀ (d' : Int) (e' : Bool),d' = ((1 + max x.m.dep y.m.dep : Nat) : Int) → e' = (x.m.evn && y.m.evn && decide (x.m.dep ≤ y.m.dep + 1) && decide (y.m.dep ≤ x.m.dep + 1)) → SC fn_P_intern_Store_add #[pS b,.agg #[.int .i64 2,.int .u8 0,.int .i64 i,.int .i64 j,.int .i64 0,.int .i64 (x.m.txt ++ y.m.txt).length,.int .i64 (linesN (x.m.txt ++ y.m.txt)),.int .i64 (headN (x.m.txt ++ y.m.txt)),.int .i64 (tailN (x.m.txt ++ y.m.txt)),.int .u64 (valN (x.m.txt ++ y.m.txt)),.int .u64 (scaleN (x.m.txt ++ y.m.txt)),.int .i64 d',.bool e']] b S (addS S ⟨pairR i j,.pr x.m y.m⟩) (.int .i64 (S.E.length + 1 : Nat)) := fun d' e' h1 h2 => by subst h1 h2; exact calls_add b S ⟨pairR i j,.pr x.m y.m⟩ h0 hE
      (repeat' ((conv => whnf); first | (refine CallK_pack (key := 77) rfl (fun w hR h0 => c1 _ _ _ h0) ?_; rintro _ _ ⟨rfl,fp',rfl⟩; refine ⟨.v _,rfl,?_⟩) | (refine CallK_pack (key := 77) rfl (fun w hR h0 => c2 _ _ (by omega) (by first | exact even1 (by assumption) (by assumption) (by assumption) | exact even2 (by assumption) | exact even3 (by assumption) | exact even4 (by assumption)) _ _ _ h0) ?_; rintro _ _ ⟨rfl,fp',rfl⟩; refine ⟨.v _,rfl,?_⟩) | (refine CallK_pack (key := 77) rfl (fun w hR h0 => c3 _ _ _ h0) ?_; rintro _ _ ⟨rfl,fp',rfl⟩; refine ⟨.v _,rfl,?_⟩) | (refine CallK_pack (key := 77) rfl (fun w hR h0 => c4 _ _ _ h0) ?_; rintro _ _ ⟨rfl,fp',rfl⟩; refine ⟨.v _,rfl,?_⟩) | (refine CallK_pack (key := 77) rfl (fun w hR h0 => c5 _ _ _ h0) ?_; rintro _ _ ⟨rfl,fp',rfl⟩; refine ⟨.v _,rfl,?_⟩) | (refine CallK_pack (key := 77) rfl (fun w hR h0 => c6 _ _ _ h0) ?_; rintro _ _ ⟨rfl,fp',rfl⟩; refine ⟨.v _,rfl,?_⟩) | (first | refine CallK_pure (.v _) (fun w hR => c7 w) ?_ | refine QCall_pure (.v _) (fun w hR => c7 w) ?_) | (first | refine CallK_pure (.v _) (fun w hR => c8 w) ?_ | refine QCall_pure (.v _) (fun w hR => c8 w) ?_) | (refine bcase_prop (fun h => ?_) (fun h => ?_) <;> try (exfalso; omega)) | (refine bcase_nprop (fun h => ?_) (fun h => ?_) <;> try (exfalso; omega)) | (refine bcase_intro (fun h => ?_) (fun h => ?_) <;> (try simp only [Bool.not_eq_true',Bool.not_eq_false',decide_eq_true_eq,decide_eq_false_iff_not,Bool.not_eq_true,Bool.not_eq_false,Decidable.not_not] at h)) | refine And.intro (by first | omega | exact rfl | assumption | exact ⟨rfl,rfl,rfl,rfl,rfl⟩ | exact ⟨rfl,rfl,rfl,rfl⟩ | exact ⟨rfl,by omega⟩ | exact oneAll_of rfl | exact ⟨rfl,oneAll_of rfl⟩ | exact Ref.refl _ | exact Thin.ref (.skip (Thin.refl _)) | exact Thin.ref (.skip (.skip (Thin.refl _))) | exact ⟨rfl,Nat.le_of_ble_eq_true rfl⟩ | ((try unfold maxLen); (try simp only [List.length_nil,List.length_cons,List.length_append]); omega) | (refine ⟨rfl,?_⟩; (try simp only [List.length_nil,List.length_cons,List.length_append]); omega)) ?_ | intro _)); (all_goals (conv => whnf))
      all_goals (exact ⟨endP (by (repeat (first | exact Thin.nil _ | exact Thin.refl _ | refine Thin.keep rfl (fun _ h => h) ?_ | refine Thin.skip ?_))) rfl⟩)
  · rw [findV_old h0] at c1
    rw [stPut_old h0]
    (repeat' ((conv => whnf); first | (refine CallK_pack (key := 77) rfl (fun w hR h0 => c1 _ _ _ h0) ?_; rintro _ _ ⟨rfl,fp',rfl⟩; refine ⟨.v _,rfl,?_⟩) | (refine CallK_pack (key := 77) rfl (fun w hR h0 => c3 _ _ _ h0) ?_; rintro _ _ ⟨rfl,fp',rfl⟩; refine ⟨.v _,rfl,?_⟩) | (refine CallK_pack (key := 77) rfl (fun w hR h0 => c4 _ _ _ h0) ?_; rintro _ _ ⟨rfl,fp',rfl⟩; refine ⟨.v _,rfl,?_⟩) | (refine CallK_pack (key := 77) rfl (fun w hR h0 => c5 _ _ _ h0) ?_; rintro _ _ ⟨rfl,fp',rfl⟩; refine ⟨.v _,rfl,?_⟩) | (refine CallK_pack (key := 77) rfl (fun w hR h0 => c6 _ _ _ h0) ?_; rintro _ _ ⟨rfl,fp',rfl⟩; refine ⟨.v _,rfl,?_⟩) | (first | refine CallK_pure (.v _) (fun w hR => c7 w) ?_ | refine QCall_pure (.v _) (fun w hR => c7 w) ?_) | (refine bcase_prop (fun h => ?_) (fun h => ?_) <;> try (exfalso; omega)) | (refine bcase_nprop (fun h => ?_) (fun h => ?_) <;> try (exfalso; omega)) | (refine bcase_intro (fun h => ?_) (fun h => ?_) <;> (try simp only [Bool.not_eq_true',Bool.not_eq_false',decide_eq_true_eq,decide_eq_false_iff_not,Bool.not_eq_true,Bool.not_eq_false,Decidable.not_not] at h)) | refine And.intro (by first | omega | exact rfl | assumption | exact ⟨rfl,rfl,rfl,rfl,rfl⟩ | exact ⟨rfl,rfl,rfl,rfl⟩ | exact ⟨rfl,by omega⟩ | exact oneAll_of rfl | exact ⟨rfl,oneAll_of rfl⟩ | exact Ref.refl _ | exact Thin.ref (.skip (Thin.refl _)) | exact Thin.ref (.skip (.skip (Thin.refl _))) | exact ⟨rfl,Nat.le_of_ble_eq_true rfl⟩ | ((try unfold maxLen); (try simp only [List.length_nil,List.length_cons,List.length_append]); omega) | (refine ⟨rfl,?_⟩; (try simp only [List.length_nil,List.length_cons,List.length_append]); omega)) ?_ | intro _)); (all_goals (conv => whnf))
    exact ⟨endP (by (repeat (first | exact Thin.nil _ | exact Thin.refl _ | refine Thin.keep rfl (fun _ h => h) ?_ | refine Thin.skip ?_))) rfl⟩
theorem calls_Pair (b : Nat) (S : Sto) (hw : WF S) (i j : Int) : SC fn_P_intern_Store_Pair #[pS b,.int .i64 i,.int .i64 j] b S (stPair S i j).1 (resV (stPair S i j).2) := by
  unfold stPair
  have hE := hw.small
  by_cases hu : ¬ known S i ∨ ¬ known S j
  · rw [if_pos hu]
    intro key fp w hR
    refine part_call [.v (pS b),.v (.int .i64 i),.v (.int .i64 j)] ok_P_intern_Store_Pair (by simp) (hR.key 77) ?_
    by_cases hi : known S i
    · have c1 := calls_knownT b S hi
      have c2 := calls_knownF b S (by rcases hu with h | h; exact absurd hi h; exact h)
      (repeat' ((conv => whnf); first | (refine CallK_pack (key := 77) rfl (fun w hR h0 => c1 _ _ _ h0) ?_; rintro _ _ ⟨rfl,fp',rfl⟩; refine ⟨.v _,rfl,?_⟩) | (refine CallK_pack (key := 77) rfl (fun w hR h0 => c2 _ _ _ h0) ?_; rintro _ _ ⟨rfl,fp',rfl⟩; refine ⟨.v _,rfl,?_⟩) | (refine bcase_prop (fun h => ?_) (fun h => ?_) <;> try (exfalso; omega)) | (refine bcase_nprop (fun h => ?_) (fun h => ?_) <;> try (exfalso; omega)) | (refine bcase_intro (fun h => ?_) (fun h => ?_) <;> (try simp only [Bool.not_eq_true',Bool.not_eq_false',decide_eq_true_eq,decide_eq_false_iff_not,Bool.not_eq_true,Bool.not_eq_false,Decidable.not_not] at h)) | refine And.intro (by first | omega | exact rfl | assumption | exact ⟨rfl,rfl,rfl,rfl,rfl⟩ | exact ⟨rfl,rfl,rfl,rfl⟩ | exact ⟨rfl,by omega⟩ | exact oneAll_of rfl | exact ⟨rfl,oneAll_of rfl⟩ | exact Ref.refl _ | exact Thin.ref (.skip (Thin.refl _)) | exact Thin.ref (.skip (.skip (Thin.refl _))) | exact ⟨rfl,Nat.le_of_ble_eq_true rfl⟩ | ((try unfold maxLen); (try simp only [List.length_nil,List.length_cons,List.length_append]); omega) | (refine ⟨rfl,?_⟩; (try simp only [List.length_nil,List.length_cons,List.length_append]); omega)) ?_ | intro _)); (all_goals (conv => whnf))
      exact ⟨endP (by (repeat (first | exact Thin.nil _ | exact Thin.refl _ | refine Thin.keep rfl (fun _ h => h) ?_ | refine Thin.skip ?_))) rfl⟩
    · have c1 := calls_knownF b S hi
      (repeat' ((conv => whnf); first | (refine CallK_pack (key := 77) rfl (fun w hR h0 => c1 _ _ _ h0) ?_; rintro _ _ ⟨rfl,fp',rfl⟩; refine ⟨.v _,rfl,?_⟩) | (refine bcase_prop (fun h => ?_) (fun h => ?_) <;> try (exfalso; omega)) | (refine bcase_nprop (fun h => ?_) (fun h => ?_) <;> try (exfalso; omega)) | (refine bcase_intro (fun h => ?_) (fun h => ?_) <;> (try simp only [Bool.not_eq_true',Bool.not_eq_false',decide_eq_true_eq,decide_eq_false_iff_not,Bool.not_eq_true,Bool.not_eq_false,Decidable.not_not] at h)) | refine And.intro (by first | omega | exact rfl | assumption | exact ⟨rfl,rfl,rfl,rfl,rfl⟩ | exact ⟨rfl,rfl,rfl,rfl⟩ | exact ⟨rfl,by omega⟩ | exact oneAll_of rfl | exact ⟨rfl,oneAll_of rfl⟩ | exact Ref.refl _ | exact Thin.ref (.skip (Thin.refl _)) | exact Thin.ref (.skip (.skip (Thin.refl _))) | exact ⟨rfl,Nat.le_of_ble_eq_true rfl⟩ | ((try unfold maxLen); (try simp only [List.length_nil,List.length_cons,List.length_append]); omega) | (refine ⟨rfl,?_⟩; (try simp only [List.length_nil,List.length_cons,List.length_append]); omega)) ?_ | intro _)); (all_goals (conv => whnf))
      exact ⟨endP (by (repeat (first | exact Thin.nil _ | exact Thin.refl _ | refine Thin.keep rfl (fun _ h => h) ?_ | refine Thin.skip ?_))) rfl⟩
  · rw [if_neg hu]
    have hi : known S i := Decidable.byContradiction fun h => hu (.inl h)
    have hj : known S j := Decidable.byContradiction fun h => hu (.inr h)
    have c1 := calls_knownT b S hi
    have c2 := calls_knownT b S hj
    by_cases hi0 : i = 0
    · rw [if_pos hi0]
      intro key fp w hR
      refine part_call [.v (pS b),.v (.int .i64 i),.v (.int .i64 j)] ok_P_intern_Store_Pair (by simp) (hR.key 77) ?_
      (repeat' ((conv => whnf); first | (refine CallK_pack (key := 77) rfl (fun w hR h0 => c1 _ _ _ h0) ?_; rintro _ _ ⟨rfl,fp',rfl⟩; refine ⟨.v _,rfl,?_⟩) | (refine CallK_pack (key := 77) rfl (fun w hR h0 => c2 _ _ _ h0) ?_; rintro _ _ ⟨rfl,fp',rfl⟩; refine ⟨.v _,rfl,?_⟩) | (refine bcase_prop (fun h => ?_) (fun h => ?_) <;> try (exfalso; omega)) | (refine bcase_nprop (fun h => ?_) (fun h => ?_) <;> try (exfalso; omega)) | (refine bcase_intro (fun h => ?_) (fun h => ?_) <;> (try simp only [Bool.not_eq_true',Bool.not_eq_false',decide_eq_true_eq,decide_eq_false_iff_not,Bool.not_eq_true,Bool.not_eq_false,Decidable.not_not] at h)) | refine And.intro (by first | omega | exact rfl | assumption | exact ⟨rfl,rfl,rfl,rfl,rfl⟩ | exact ⟨rfl,rfl,rfl,rfl⟩ | exact ⟨rfl,by omega⟩ | exact oneAll_of rfl | exact ⟨rfl,oneAll_of rfl⟩ | exact Ref.refl _ | exact Thin.ref (.skip (Thin.refl _)) | exact Thin.ref (.skip (.skip (Thin.refl _))) | exact ⟨rfl,Nat.le_of_ble_eq_true rfl⟩ | ((try unfold maxLen); (try simp only [List.length_nil,List.length_cons,List.length_append]); omega) | (refine ⟨rfl,?_⟩; (try simp only [List.length_nil,List.length_cons,List.length_append]); omega)) ?_ | intro _)); (all_goals (conv => whnf))
      exact ⟨endP (by (repeat (first | exact Thin.nil _ | exact Thin.refl _ | refine Thin.keep rfl (fun _ h => h) ?_ | refine Thin.skip ?_))) rfl⟩
    · rw [if_neg hi0]
      by_cases hj0 : j = 0
      · rw [if_pos hj0]
        intro key fp w hR
        refine part_call [.v (pS b),.v (.int .i64 i),.v (.int .i64 j)] ok_P_intern_Store_Pair (by simp) (hR.key 77) ?_
        (repeat' ((conv => whnf); first | (refine CallK_pack (key := 77) rfl (fun w hR h0 => c1 _ _ _ h0) ?_; rintro _ _ ⟨rfl,fp',rfl⟩; refine ⟨.v _,rfl,?_⟩) | (refine CallK_pack (key := 77) rfl (fun w hR h0 => c2 _ _ _ h0) ?_; rintro _ _ ⟨rfl,fp',rfl⟩; refine ⟨.v _,rfl,?_⟩) | (refine bcase_prop (fun h => ?_) (fun h => ?_) <;> try (exfalso; omega)) | (refine bcase_nprop (fun h => ?_) (fun h => ?_) <;> try (exfalso; omega)) | (refine bcase_intro (fun h => ?_) (fun h => ?_) <;> (try simp only [Bool.not_eq_true',Bool.not_eq_false',decide_eq_true_eq,decide_eq_false_iff_not,Bool.not_eq_true,Bool.not_eq_false,Decidable.not_not] at h)) | refine And.intro (by first | omega | exact rfl | assumption | exact ⟨rfl,rfl,rfl,rfl,rfl⟩ | exact ⟨rfl,rfl,rfl,rfl⟩ | exact ⟨rfl,by omega⟩ | exact oneAll_of rfl | exact ⟨rfl,oneAll_of rfl⟩ | exact Ref.refl _ | exact Thin.ref (.skip (Thin.refl _)) | exact Thin.ref (.skip (.skip (Thin.refl _))) | exact ⟨rfl,Nat.le_of_ble_eq_true rfl⟩ | ((try unfold maxLen); (try simp only [List.length_nil,List.length_cons,List.length_append]); omega) | (refine ⟨rfl,?_⟩; (try simp only [List.length_nil,List.length_cons,List.length_append]); omega)) ?_ | intro _)); (all_goals (conv => whnf))
        exact ⟨endP (by (repeat (first | exact Thin.nil _ | exact Thin.refl _ | refine Thin.keep rfl (fun _ h => h) ?_ | refine Thin.skip ?_))) rfl⟩
      · rw [if_neg hj0]
        by_cases hl : LM < (tm S.E i).len + (tm S.E j).len
        · rw [if_pos hl]
          intro key fp w hR
          refine part_call [.v (pS b),.v (.int .i64 i),.v (.int .i64 j)] ok_P_intern_Store_Pair (by simp) (hR.key 77) ?_
          have c5 := calls_atN b S hi hE
          have c6 := calls_atN b S hj hE
          have l1 := hw.le hi.2
          have l2 := hw.le hj.2
          unfold tm at *
          generalize atE S.E i = x at *
          generalize atE S.E j = y at *
          unfold Tm.len at hl l1 l2
          have c7 := calls_lAdd x.m.txt.length y.m.txt.length l1 l2
          rw [show addV x.m.txt.length y.m.txt.length = .tuple #[.int .i64 0,errV 2] from if_neg (by omega)] at c7
          (repeat' ((conv => whnf); first | (refine CallK_pack (key := 77) rfl (fun w hR h0 => c1 _ _ _ h0) ?_; rintro _ _ ⟨rfl,fp',rfl⟩; refine ⟨.v _,rfl,?_⟩) | (refine CallK_pack (key := 77) rfl (fun w hR h0 => c2 _ _ _ h0) ?_; rintro _ _ ⟨rfl,fp',rfl⟩; refine ⟨.v _,rfl,?_⟩) | (refine CallK_pack (key := 77) rfl (fun w hR h0 => c5 _ _ _ h0) ?_; rintro _ _ ⟨rfl,fp',rfl⟩; refine ⟨.v _,rfl,?_⟩) | (refine CallK_pack (key := 77) rfl (fun w hR h0 => c6 _ _ _ h0) ?_; rintro _ _ ⟨rfl,fp',rfl⟩; refine ⟨.v _,rfl,?_⟩) | (first | refine CallK_pure (.v _) (fun w hR => c7 w) ?_ | refine QCall_pure (.v _) (fun w hR => c7 w) ?_) | (refine bcase_prop (fun h => ?_) (fun h => ?_) <;> try (exfalso; omega)) | (refine bcase_nprop (fun h => ?_) (fun h => ?_) <;> try (exfalso; omega)) | (refine bcase_intro (fun h => ?_) (fun h => ?_) <;> (try simp only [Bool.not_eq_true',Bool.not_eq_false',decide_eq_true_eq,decide_eq_false_iff_not,Bool.not_eq_true,Bool.not_eq_false,Decidable.not_not] at h)) | refine And.intro (by first | omega | exact rfl | assumption | exact ⟨rfl,rfl,rfl,rfl,rfl⟩ | exact ⟨rfl,rfl,rfl,rfl⟩ | exact ⟨rfl,by omega⟩ | exact oneAll_of rfl | exact ⟨rfl,oneAll_of rfl⟩ | exact Ref.refl _ | exact Thin.ref (.skip (Thin.refl _)) | exact Thin.ref (.skip (.skip (Thin.refl _))) | exact ⟨rfl,Nat.le_of_ble_eq_true rfl⟩ | ((try unfold maxLen); (try simp only [List.length_nil,List.length_cons,List.length_append]); omega) | (refine ⟨rfl,?_⟩; (try simp only [List.length_nil,List.length_cons,List.length_append]); omega)) ?_ | intro _)); (all_goals (conv => whnf))
          exact ⟨endP (by (repeat (first | exact Thin.nil _ | exact Thin.refl _ | refine Thin.keep rfl (fun _ h => h) ?_ | refine Thin.skip ?_))) rfl⟩
        · rw [if_neg hl]
          exact calls_PairOk b S i j hi hj hi0 hj0 hE (by omega) (hw.dep hi.2) (hw.dep hj.2)
theorem calls_Power (b : Nat) (S : Sto) (hw : WF S) (i k : Int) (hk : k ≤ 9223372036854775807) : SC fn_P_intern_Store_Power #[pS b,.int .i64 i,.int .i64 k] b S (stPower S i k).1 (resV (stPower S i k).2) := by
  unfold stPower
  have hE := hw.small
  by_cases hi : known S i
  case neg =>
    rw [if_pos (.inl hi)]
    have c1 := calls_knownF b S hi
    intro key fp w hR
    refine part_call [.v (pS b),.v (.int .i64 i),.v (.int .i64 k)] ok_P_intern_Store_Power (by simp) (hR.key 77) ?_
    (repeat' ((conv => whnf); first | (refine CallK_pack (key := 77) rfl (fun w hR h0 => c1 _ _ _ h0) ?_; rintro _ _ ⟨rfl,fp',rfl⟩; refine ⟨.v _,rfl,?_⟩) | (refine bcase_prop (fun h => ?_) (fun h => ?_) <;> try (exfalso; omega)) | (refine bcase_nprop (fun h => ?_) (fun h => ?_) <;> try (exfalso; omega)) | (refine bcase_intro (fun h => ?_) (fun h => ?_) <;> (try simp only [Bool.not_eq_true',Bool.not_eq_false',decide_eq_true_eq,decide_eq_false_iff_not,Bool.not_eq_true,Bool.not_eq_false,Decidable.not_not] at h)) | refine And.intro (by first | omega | exact rfl | assumption | exact ⟨rfl,rfl,rfl,rfl,rfl⟩ | exact ⟨rfl,rfl,rfl,rfl⟩ | exact ⟨rfl,by omega⟩ | exact oneAll_of rfl | exact ⟨rfl,oneAll_of rfl⟩ | exact Ref.refl _ | exact Thin.ref (.skip (Thin.refl _)) | exact Thin.ref (.skip (.skip (Thin.refl _))) | exact ⟨rfl,Nat.le_of_ble_eq_true rfl⟩ | ((try unfold maxLen); (try simp only [List.length_nil,List.length_cons,List.length_append]); omega) | (refine ⟨rfl,?_⟩; (try simp only [List.length_nil,List.length_cons,List.length_append]); omega)) ?_ | intro _)); (all_goals (conv => whnf))
    exact ⟨endP (by (repeat (first | exact Thin.nil _ | exact Thin.refl _ | refine Thin.keep rfl (fun _ h => h) ?_ | refine Thin.skip ?_))) rfl⟩
  have c1 := calls_knownT b S hi
  by_cases hk0 : k < 0
  · rw [if_pos (.inr hk0)]
    intro key fp w hR
    refine part_call [.v (pS b),.v (.int .i64 i),.v (.int .i64 k)] ok_P_intern_Store_Power (by simp) (hR.key 77) ?_
    (repeat' ((conv => whnf); first | (refine CallK_pack (key := 77) rfl (fun w hR h0 => c1 _ _ _ h0) ?_; rintro _ _ ⟨rfl,fp',rfl⟩; refine ⟨.v _,rfl,?_⟩) | (refine bcase_prop (fun h => ?_) (fun h => ?_) <;> try (exfalso; omega)) | (refine bcase_nprop (fun h => ?_) (fun h => ?_) <;> try (exfalso; omega)) | (refine bcase_intro (fun h => ?_) (fun h => ?_) <;> (try simp only [Bool.not_eq_true',Bool.not_eq_false',decide_eq_true_eq,decide_eq_false_iff_not,Bool.not_eq_true,Bool.not_eq_false,Decidable.not_not] at h)) | refine And.intro (by first | omega | exact rfl | assumption | exact ⟨rfl,rfl,rfl,rfl,rfl⟩ | exact ⟨rfl,rfl,rfl,rfl⟩ | exact ⟨rfl,by omega⟩ | exact oneAll_of rfl | exact ⟨rfl,oneAll_of rfl⟩ | exact Ref.refl _ | exact Thin.ref (.skip (Thin.refl _)) | exact Thin.ref (.skip (.skip (Thin.refl _))) | exact ⟨rfl,Nat.le_of_ble_eq_true rfl⟩ | ((try unfold maxLen); (try simp only [List.length_nil,List.length_cons,List.length_append]); omega) | (refine ⟨rfl,?_⟩; (try simp only [List.length_nil,List.length_cons,List.length_append]); omega)) ?_ | intro _)); (all_goals (conv => whnf))
    exact ⟨endP (by (repeat (first | exact Thin.nil _ | exact Thin.refl _ | refine Thin.keep rfl (fun _ h => h) ?_ | refine Thin.skip ?_))) rfl⟩
  · rw [if_neg (by rintro (h | h); exact h hi; exact hk0 h)]
    by_cases hz : k = 0 ∨ i = 0
    · rw [if_pos hz]
      intro key fp w hR
      refine part_call [.v (pS b),.v (.int .i64 i),.v (.int .i64 k)] ok_P_intern_Store_Power (by simp) (hR.key 77) ?_
      (repeat' ((conv => whnf); first | (refine CallK_pack (key := 77) rfl (fun w hR h0 => c1 _ _ _ h0) ?_; rintro _ _ ⟨rfl,fp',rfl⟩; refine ⟨.v _,rfl,?_⟩) | (refine bcase_prop (fun h => ?_) (fun h => ?_) <;> try (exfalso; omega)) | (refine bcase_nprop (fun h => ?_) (fun h => ?_) <;> try (exfalso; omega)) | (refine bcase_intro (fun h => ?_) (fun h => ?_) <;> (try simp only [Bool.not_eq_true',Bool.not_eq_false',decide_eq_true_eq,decide_eq_false_iff_not,Bool.not_eq_true,Bool.not_eq_false,Decidable.not_not] at h)) | refine And.intro (by first | omega | exact rfl | assumption | exact ⟨rfl,rfl,rfl,rfl,rfl⟩ | exact ⟨rfl,rfl,rfl,rfl⟩ | exact ⟨rfl,by omega⟩ | exact oneAll_of rfl | exact ⟨rfl,oneAll_of rfl⟩ | exact Ref.refl _ | exact Thin.ref (.skip (Thin.refl _)) | exact Thin.ref (.skip (.skip (Thin.refl _))) | exact ⟨rfl,Nat.le_of_ble_eq_true rfl⟩ | ((try unfold maxLen); (try simp only [List.length_nil,List.length_cons,List.length_append]); omega) | (refine ⟨rfl,?_⟩; (try simp only [List.length_nil,List.length_cons,List.length_append]); omega)) ?_ | intro _)); (all_goals (conv => whnf))
      all_goals first | (exfalso; omega) | exact ⟨endP (by (repeat (first | exact Thin.nil _ | exact Thin.refl _ | refine Thin.keep rfl (fun _ h => h) ?_ | refine Thin.skip ?_))) rfl⟩
    · rw [if_neg hz]
      by_cases h1 : k = 1
      · rw [if_pos h1]
        intro key fp w hR
        refine part_call [.v (pS b),.v (.int .i64 i),.v (.int .i64 k)] ok_P_intern_Store_Power (by simp) (hR.key 77) ?_
        (repeat' ((conv => whnf); first | (refine CallK_pack (key := 77) rfl (fun w hR h0 => c1 _ _ _ h0) ?_; rintro _ _ ⟨rfl,fp',rfl⟩; refine ⟨.v _,rfl,?_⟩) | (refine bcase_prop (fun h => ?_) (fun h => ?_) <;> try (exfalso; omega)) | (refine bcase_nprop (fun h => ?_) (fun h => ?_) <;> try (exfalso; omega)) | (refine bcase_intro (fun h => ?_) (fun h => ?_) <;> (try simp only [Bool.not_eq_true',Bool.not_eq_false',decide_eq_true_eq,decide_eq_false_iff_not,Bool.not_eq_true,Bool.not_eq_false,Decidable.not_not] at h)) | refine And.intro (by first | omega | exact rfl | assumption | exact ⟨rfl,rfl,rfl,rfl,rfl⟩ | exact ⟨rfl,rfl,rfl,rfl⟩ | exact ⟨rfl,by omega⟩ | exact oneAll_of rfl | exact ⟨rfl,oneAll_of rfl⟩ | exact Ref.refl _ | exact Thin.ref (.skip (Thin.refl _)) | exact Thin.ref (.skip (.skip (Thin.refl _))) | exact ⟨rfl,Nat.le_of_ble_eq_true rfl⟩ | ((try unfold maxLen); (try simp only [List.length_nil,List.length_cons,List.length_append]); omega) | (refine ⟨rfl,?_⟩; (try simp only [List.length_nil,List.length_cons,List.length_append]); omega)) ?_ | intro _)); (all_goals (conv => whnf))
        exact ⟨endP (by (repeat (first | exact Thin.nil _ | exact Thin.refl _ | refine Thin.keep rfl (fun _ h => h) ?_ | refine Thin.skip ?_))) rfl⟩
      · rw [if_neg h1]
        have l1 := hw.le hi.2
        have c5 := calls_atN b S hi hE
        obtain ⟨k',hk'⟩ : ∃ k' : Nat,k = k' := ⟨k.toNat,by omega⟩
        have hpe : mkE S.E (powR i k) = ⟨powR i k,.pw (tm S.E i) k.toNat⟩ := rfl
        have hdep := hw.dep hi.2
        by_cases hl : LM < (tm S.E i).len * k.toNat
        · rw [if_pos hl]
          intro key fp w hR
          refine part_call [.v (pS b),.v (.int .i64 i),.v (.int .i64 k)] ok_P_intern_Store_Power (by simp) (hR.key 77) ?_
          unfold tm at *
          generalize atE S.E i = x at *
          unfold Tm.len at hl l1
          subst hk'
          rw [Int.toNat_natCast] at hl
          have c7 := calls_lMul x.m.txt.length k' l1 (by omega)
          rw [show mulV x.m.txt.length k' = .tuple #[.int .i64 0,errV 2] from if_neg (by omega)] at c7
          (repeat' ((conv => whnf); first | (refine CallK_pack (key := 77) rfl (fun w hR h0 => c1 _ _ _ h0) ?_; rintro _ _ ⟨rfl,fp',rfl⟩; refine ⟨.v _,rfl,?_⟩) | (refine CallK_pack (key := 77) rfl (fun w hR h0 => c5 _ _ _ h0) ?_; rintro _ _ ⟨rfl,fp',rfl⟩; refine ⟨.v _,rfl,?_⟩) | (first | refine CallK_pure (.v _) (fun w hR => c7 w) ?_ | refine QCall_pure (.v _) (fun w hR => c7 w) ?_) | (refine bcase_prop (fun h => ?_) (fun h => ?_) <;> try (exfalso; omega)) | (refine bcase_nprop (fun h => ?_) (fun h => ?_) <;> try (exfalso; omega)) | (refine bcase_intro (fun h => ?_) (fun h => ?_) <;> (try simp only [Bool.not_eq_true',Bool.not_eq_false',decide_eq_true_eq,decide_eq_false_iff_not,Bool.not_eq_true,Bool.not_eq_false,Decidable.not_not] at h)) | refine And.intro (by first | omega | exact rfl | assumption | exact ⟨rfl,rfl,rfl,rfl,rfl⟩ | exact ⟨rfl,rfl,rfl,rfl⟩ | exact ⟨rfl,by omega⟩ | exact oneAll_of rfl | exact ⟨rfl,oneAll_of rfl⟩ | exact Ref.refl _ | exact Thin.ref (.skip (Thin.refl _)) | exact Thin.ref (.skip (.skip (Thin.refl _))) | exact ⟨rfl,Nat.le_of_ble_eq_true rfl⟩ | ((try unfold maxLen); (try simp only [List.length_nil,List.length_cons,List.length_append]); omega) | (refine ⟨rfl,?_⟩; (try simp only [List.length_nil,List.length_cons,List.length_append]); omega)) ?_ | intro _)); (all_goals (conv => whnf))
          exact ⟨endP (by (repeat (first | exact Thin.nil _ | exact Thin.refl _ | refine Thin.keep rfl (fun _ h => h) ?_ | refine Thin.skip ?_))) rfl⟩
        · rw [if_neg hl]
          intro key fp w hR
          refine part_call [.v (pS b),.v (.int .i64 i),.v (.int .i64 k)] ok_P_intern_Store_Power (by simp) (hR.key 77) ?_
          have c2 := calls_find b S (powR i k)
          unfold tm at *
          generalize atE S.E i = x at *
          unfold Tm.len at hl l1
          subst hk'
          rw [Int.toNat_natCast] at hl hpe
          have c7 := calls_lMul x.m.txt.length k' l1 (by omega)
          rw [show mulV x.m.txt.length k' = .tuple #[.int .i64 ((x.m.txt.length * k' : Nat) : Int),.nilIface] from if_pos (by omega)] at c7
          have c8 := calls_wRepeat x.m.txt k' (by omega) (by omega) l1
          by_cases h0 : idOf (powR i k') S.E = 0
          · by_cases h1 : S.most ≤ S.E.length
            · rw [findV_none h0 h1] at c2
              rw [stPut_none h0 h1]
              (repeat' ((conv => whnf); first | (refine CallK_pack (key := 77) rfl (fun w hR h0 => c1 _ _ _ h0) ?_; rintro _ _ ⟨rfl,fp',rfl⟩; refine ⟨.v _,rfl,?_⟩) | (refine CallK_pack (key := 77) rfl (fun w hR h0 => c5 _ _ _ h0) ?_; rintro _ _ ⟨rfl,fp',rfl⟩; refine ⟨.v _,rfl,?_⟩) | (first | refine CallK_pure (.v _) (fun w hR => c7 w) ?_ | refine QCall_pure (.v _) (fun w hR => c7 w) ?_) | (refine CallK_pack (key := 77) rfl (fun w hR h0 => c2 _ _ _ h0) ?_; rintro _ _ ⟨rfl,fp',rfl⟩; refine ⟨.v _,rfl,?_⟩) | (refine bcase_prop (fun h => ?_) (fun h => ?_) <;> try (exfalso; omega)) | (refine bcase_nprop (fun h => ?_) (fun h => ?_) <;> try (exfalso; omega)) | (refine bcase_intro (fun h => ?_) (fun h => ?_) <;> (try simp only [Bool.not_eq_true',Bool.not_eq_false',decide_eq_true_eq,decide_eq_false_iff_not,Bool.not_eq_true,Bool.not_eq_false,Decidable.not_not] at h)) | refine And.intro (by first | omega | exact rfl | assumption | exact ⟨rfl,rfl,rfl,rfl,rfl⟩ | exact ⟨rfl,rfl,rfl,rfl⟩ | exact ⟨rfl,by omega⟩ | exact oneAll_of rfl | exact ⟨rfl,oneAll_of rfl⟩ | exact Ref.refl _ | exact Thin.ref (.skip (Thin.refl _)) | exact Thin.ref (.skip (.skip (Thin.refl _))) | exact ⟨rfl,Nat.le_of_ble_eq_true rfl⟩ | ((try unfold maxLen); (try simp only [List.length_nil,List.length_cons,List.length_append]); omega) | (refine ⟨rfl,?_⟩; (try simp only [List.length_nil,List.length_cons,List.length_append]); omega)) ?_ | intro _)); (all_goals (conv => whnf))
              exact ⟨endP (by (repeat (first | exact Thin.nil _ | exact Thin.refl _ | refine Thin.keep rfl (fun _ h => h) ?_ | refine Thin.skip ?_))) rfl⟩
            · rw [findV_new h0 h1] at c2
              rw [stPut_new h0 h1,hpe]
              have c3 := calls_add b S ⟨powR i k',.pw x.m k'⟩ h0 hE
              have q1 : (1 : Int) + (x.m.dep : Int) = ((1 + x.m.dep : Nat) : Int) := by omega
              (repeat' ((conv => whnf); first | rw [q1] | (refine CallK_pack (key := 77) rfl (fun w hR h0 => c1 _ _ _ h0) ?_; rintro _ _ ⟨rfl,fp',rfl⟩; refine ⟨.v _,rfl,?_⟩) | (refine CallK_pack (key := 77) rfl (fun w hR h0 => c5 _ _ _ h0) ?_; rintro _ _ ⟨rfl,fp',rfl⟩; refine ⟨.v _,rfl,?_⟩) | (first | refine CallK_pure (.v _) (fun w hR => c7 w) ?_ | refine QCall_pure (.v _) (fun w hR => c7 w) ?_) | (first | refine CallK_pure (.v _) (fun w hR => c8 w) ?_ | refine QCall_pure (.v _) (fun w hR => c8 w) ?_) | (refine CallK_pack (key := 77) rfl (fun w hR h0 => c2 _ _ _ h0) ?_; rintro _ _ ⟨rfl,fp',rfl⟩; refine ⟨.v _,rfl,?_⟩) | (refine CallK_pack (key := 77) rfl (fun w hR h0 => c3 _ _ _ h0) ?_; rintro _ _ ⟨rfl,fp',rfl⟩; refine ⟨.v _,rfl,?_⟩) | (refine bcase_prop (fun h => ?_) (fun h => ?_) <;> try (exfalso; omega)) | (refine bcase_nprop (fun h => ?_) (fun h => ?_) <;> try (exfalso; omega)) | (refine bcase_intro (fun h => ?_) (fun h => ?_) <;> (try simp only [Bool.not_eq_true',Bool.not_eq_false',decide_eq_true_eq,decide_eq_false_iff_not,Bool.not_eq_true,Bool.not_eq_false,Decidable.not_not] at h)) | refine And.intro (by first | omega | exact rfl | assumption | exact ⟨rfl,rfl,rfl,rfl,rfl⟩ | exact ⟨rfl,rfl,rfl,rfl⟩ | exact ⟨rfl,by omega⟩ | exact oneAll_of rfl | exact ⟨rfl,oneAll_of rfl⟩ | exact Ref.refl _ | exact Thin.ref (.skip (Thin.refl _)) | exact Thin.ref (.skip (.skip (Thin.refl _))) | exact ⟨rfl,Nat.le_of_ble_eq_true rfl⟩ | ((try unfold maxLen); (try simp only [List.length_nil,List.length_cons,List.length_append]); omega) | (refine ⟨rfl,?_⟩; (try simp only [List.length_nil,List.length_cons,List.length_append]); omega)) ?_ | intro _)); (all_goals (conv => whnf))
              exact ⟨endP (by (repeat (first | exact Thin.nil _ | exact Thin.refl _ | refine Thin.keep rfl (fun _ h => h) ?_ | refine Thin.skip ?_))) rfl⟩
          · rw [findV_old h0] at c2
            rw [stPut_old h0]
            (repeat' ((conv => whnf); first | (refine CallK_pack (key := 77) rfl (fun w hR h0 => c1 _ _ _ h0) ?_; rintro _ _ ⟨rfl,fp',rfl⟩; refine ⟨.v _,rfl,?_⟩) | (refine CallK_pack (key := 77) rfl (fun w hR h0 => c5 _ _ _ h0) ?_; rintro _ _ ⟨rfl,fp',rfl⟩; refine ⟨.v _,rfl,?_⟩) | (first | refine CallK_pure (.v _) (fun w hR => c7 w) ?_ | refine QCall_pure (.v _) (fun w hR => c7 w) ?_) | (refine CallK_pack (key := 77) rfl (fun w hR h0 => c2 _ _ _ h0) ?_; rintro _ _ ⟨rfl,fp',rfl⟩; refine ⟨.v _,rfl,?_⟩) | (refine bcase_prop (fun h => ?_) (fun h => ?_) <;> try (exfalso; omega)) | (refine bcase_nprop (fun h => ?_) (fun h => ?_) <;> try (exfalso; omega)) | (refine bcase_intro (fun h => ?_) (fun h => ?_) <;> (try simp only [Bool.not_eq_true',Bool.not_eq_false',decide_eq_true_eq,decide_eq_false_iff_not,Bool.not_eq_true,Bool.not_eq_false,Decidable.not_not] at h)) | refine And.intro (by first | omega | exact rfl | assumption | exact ⟨rfl,rfl,rfl,rfl,rfl⟩ | exact ⟨rfl,rfl,rfl,rfl⟩ | exact ⟨rfl,by omega⟩ | exact oneAll_of rfl | exact ⟨rfl,oneAll_of rfl⟩ | exact Ref.refl _ | exact Thin.ref (.skip (Thin.refl _)) | exact Thin.ref (.skip (.skip (Thin.refl _))) | exact ⟨rfl,Nat.le_of_ble_eq_true rfl⟩ | ((try unfold maxLen); (try simp only [List.length_nil,List.length_cons,List.length_append]); omega) | (refine ⟨rfl,?_⟩; (try simp only [List.length_nil,List.length_cons,List.length_append]); omega)) ?_ | intro _)); (all_goals (conv => whnf))
            exact ⟨endP (by (repeat (first | exact Thin.nil _ | exact Thin.refl _ | refine Thin.keep rfl (fun _ h => h) ?_ | refine Thin.skip ?_))) rfl⟩
end Go.Proofs.YtkkhpdkfploodaaGreatDoor
/- Grammars: when they are valid,what they derive,that a store takes them. Plain Lean: no program in sight. -/
namespace Go.Proofs.YtkkhpdkfploodaaGreatDoor
open Go.EG
set_option linter.unusedSimpArgs false
set_option linter.unusedVariables false
def rul0 : Rul := ⟨0,0,0,0,0⟩
def earl (i n : Int) : Bool := decide (1 ≤ i) && decide (i < n)
def ruleCode (r : Rul) (n : Int) : Int :=
  if r.k = 1 then (if r.a ≠ 0 ∨ r.b ≠ 0 ∨ r.t ≠ 0 then 4 else if n < 1 then 1 else 0)
  else if r.k = 2 then (if r.l ≠ 0 ∨ r.t ≠ 0 then 4 else if n < 1 ∨ earl r.a n = false ∨ earl r.b n = false then 1 else 0)
  else if r.k = 3 then (if r.l ≠ 0 ∨ r.b ≠ 0 ∨ r.t < 2 then 4 else if n < 1 ∨ earl r.a n = false then 1 else 0)
  else 4
theorem earl_t {i n : Int} : earl i n = true ↔ 1 ≤ i ∧ i < n := by simp [earl]
theorem ruleCode_zero {r : Rul} {n : Int} : ruleCode r n = 0 ↔ okR r n := by
  unfold ruleCode okR
  constructor
  · intro h
    split at h
    · split at h
      · omega
      · split at h <;> omega
    · split at h
      · split at h
        · omega
        · split at h
          · omega
          · rename_i h1 h2 h3 h4
            have ha : earl r.a n = true := by cases he : earl r.a n <;> simp_all
            have hb : earl r.b n = true := by cases he : earl r.b n <;> simp_all
            rw [earl_t] at ha hb
            omega
      · split at h
        · split at h
          · omega
          · split at h
            · omega
            · rename_i h1 h2 h3 h4 h5
              have ha : earl r.a n = true := by cases he : earl r.a n <;> simp_all
              rw [earl_t] at ha
              omega
        · omega
  · rintro (h | h | h)
    · rw [if_pos h.1,if_neg (by omega),if_neg (by omega)]
    · have ha : earl r.a n = true := earl_t.2 ⟨by omega,by omega⟩
      have hb : earl r.b n = true := earl_t.2 ⟨by omega,by omega⟩
      rw [if_neg (by omega),if_pos h.1,if_neg (by omega),ha,hb,if_neg (by simp; omega)]
    · have ha : earl r.a n = true := earl_t.2 ⟨by omega,by omega⟩
      rw [if_neg (by omega),if_neg (by omega),if_pos h.1,if_neg (by omega),ha,if_neg (by simp; omega)]
def chk : Int → List Rul → Int
  | _,[] => 0
  | n,r :: g => if ruleCode r n ≠ 0 then ruleCode r n else chk (n + 1) g
theorem chk_zero : ∀ {g : List Rul} {n : Int},chk n g = 0 ↔ ∀ i,i < g.length → okR (g.getD i rul0) (n + i)
  | [],n => by simp [chk]
  | r :: g,n => by
    simp only [chk]
    constructor
    · intro h i hi
      split at h
      · omega
      · rename_i h0
        have h0 : ruleCode r n = 0 := Decidable.byContradiction h0
        cases i with
        | zero => simpa using ruleCode_zero.1 h0
        | succ i =>
          have := (chk_zero.1 h) i (by simpa using hi)
          rw [List.getD_cons_succ,show n + ((i + 1 : Nat) : Int) = n + 1 + (i : Int) by omega]
          exact this
    · intro h
      have h0 := h 0 (by simp)
      rw [List.getD_cons_zero] at h0
      rw [if_neg (by rw [ruleCode_zero.2 (by simpa using h0)]; simp)]
      refine chk_zero.2 fun i hi => ?_
      have := h (i + 1) (by simpa using hi)
      rw [List.getD_cons_succ,show n + ((i + 1 : Nat) : Int) = n + 1 + (i : Int) by omega] at this
      exact this
def mAt (ms : List Tm) (n : Int) : Tm := if n ≤ 0 then .nil else ms.getD (n.toNat - 1) .nil
def gT (ms : List Tm) (r : Rul) : Tm := if r.k = 1 then .lt r.l.toNat else if r.k = 2 then .pr (mAt ms r.a) (mAt ms r.b) else .pw (mAt ms r.a) r.t.toNat
theorem mAt_snoc {ms : List Tm} {m : Tm} {n : Int} (h : n ≤ ms.length) : mAt (ms ++ [m]) n = mAt ms n := by
  unfold mAt
  split
  · rfl
  · rw [getD_append_left (by omega)]
theorem mAt_last {ms : List Tm} {m : Tm} : mAt (ms ++ [m]) ((ms.length : Int) + 1) = m := by
  unfold mAt
  rw [if_neg (by omega),show ((ms.length : Int) + 1).toNat - 1 = ms.length by omega,getD_snoc rfl]
structure Rel (S : Sto) (to : List Int) (ms : List Tm) : Prop where
  len : to.length = ms.length + 1
  zero : to.getD 0 0 = 0
  at_ : ∀ i : Nat,1 ≤ i → i ≤ ms.length → 1 ≤ to.getD i 0 ∧ to.getD i 0 ≤ S.E.length ∧ tm S.E (to.getD i 0) = mAt ms i
theorem Rel.start (S : Sto) : Rel S [0] [] := ⟨rfl,rfl,fun i h1 h2 => absurd h2 (by simp; omega)⟩
theorem Rel.grow {S S' : Sto} {to : List Int} {ms : List Tm} (h : Rel S to ms) (hg : Grow S S') : Rel S' to ms :=
  ⟨h.len,h.zero,fun i h1 h2 => by
    obtain ⟨a,b,c⟩ := h.at_ i h1 h2
    exact ⟨a,by have := hg.len; omega,by rw [hg.tm b]; exact c⟩⟩
theorem Rel.snoc {S : Sto} {to : List Int} {ms : List Tm} {x : Int} {m : Tm} (h : Rel S to ms) (h1 : 1 ≤ x) (h2 : x ≤ S.E.length) (h3 : tm S.E x = m) : Rel S (to ++ [x]) (ms ++ [m]) := by
  have hl := h.len
  refine ⟨by simp; exact hl,by rw [getD_append_left (by omega)]; exact h.zero,fun i k1 k2 => ?_⟩
  rw [List.length_append] at k2
  simp only [List.length_cons,List.length_nil] at k2
  by_cases hi : i ≤ ms.length
  · rw [getD_append_left (by omega),mAt_snoc (by omega)]
    exact h.at_ i k1 hi
  · have : i = ms.length + 1 := by omega
    subst this
    rw [getD_snoc (by omega),show ((ms.length + 1 : Nat) : Int) = (ms.length : Int) + 1 by omega,mAt_last]
    exact ⟨h1,h2,h3⟩
theorem putR {S : Sto} {r : Rul} (h : WF S) (hr : Fit S r) (hroom : S.E.length < S.most) : ∃ S' id,stPut S r = (S',id,0) ∧ WF S' ∧ Grow S S' ∧ 1 ≤ id ∧ id ≤ S'.E.length ∧ tm S'.E id = mkT S.E r ∧ S'.E.length ≤ S.E.length + 1 := by
  obtain ⟨w1,g1,h0,hn,hl⟩ := stPut_spec h hr
  have hc : (stPut S r).2.2 = 0 := Decidable.byContradiction fun hc => by
    have := (hn hc).2.1
    omega
  obtain ⟨a,b,c,d⟩ := h0 hc
  exact ⟨(stPut S r).1,(stPut S r).2.1,by rw [← hc],w1,g1,a,b.2,c,hl⟩
end Go.Proofs.YtkkhpdkfploodaaGreatDoor
/- The store's functions: a new store,rules,grammars that are added. -/
namespace Go.Proofs.YtkkhpdkfploodaaGreatDoor
open Go.EG
attribute [local irreducible] CallK QCall Go.Calls
set_option linter.unusedSimpArgs false
set_option linter.unusedVariables false
set_option maxRecDepth 20000
def rulsC (g : List Rul) : List Value := g.flatMap ruC
theorem rulsC_length : ∀ g : List Rul,(rulsC g).length = g.length * 5
  | [] => rfl
  | x :: g => by
    have := rulsC_length g
    simp only [rulsC,List.flatMap_cons,List.length_append,List.length_cons,List.length_nil] at this ⊢
    omega
theorem rulsC_at : ∀ {g : List Rul} {i : Nat},i < g.length → ((rulsC g).drop (i * 5)).take 5 = ruC (g.getD i rul0)
  | x :: g,0,_ => by simp [rulsC,ruC]
  | x :: g,i + 1,h => by
    have ih := rulsC_at (g := g) (i := i) (by simpa using h)
    have e1 : rulsC (x :: g) = ruC x ++ rulsC g := by simp [rulsC]
    rw [e1,show (i + 1) * 5 = (ruC x).length + i * 5 by simp [ruC]; omega,← List.drop_drop,List.drop_left]
    simpa using ih
theorem rulsC_snoc (g : List Rul) (r : Rul) : rulsC g ++ ruC r = rulsC (g ++ [r]) := by simp [rulsC]
def ruleV (S : Sto) (n : Int) : Value := if 1 ≤ n ∧ n ≤ S.E.length then .tuple #[ruV (atE S.E n).r,.nilIface] else .tuple #[ruV rul0,errV 1]
theorem ruleV_ok {S : Sto} {n : Int} (h : 1 ≤ n) (h' : n ≤ S.E.length) : ruleV S n = .tuple #[ruV (atE S.E n).r,.nilIface] := if_pos ⟨h,h'⟩
theorem ents_rule {E : List Entr} {i : Nat} (h : i < E.length) : ((ents E).drop (i * 13)).take 5 = ruC (E.getD i ent0).r := by
  have := congrArg (List.take 5) (ents_at h)
  rw [List.take_take] at this
  exact this
theorem calls_Rule (b : Nat) (S : Sto) (n : Int) (hE : S.E.length ≤ 1048576) : SC fn_P_intern_Store_Rule #[pS b,.int .i64 n] b S S (ruleV S n) := by
  intro key fp w hR
  refine part_call [.ptr 1000 b 0,.v (.int .i64 n)] ok_P_intern_Store_Rule (by simp) (hR.key 77) ?_
  by_cases hn : 1 ≤ n ∧ n ≤ S.E.length
  · rw [ruleV_ok hn.1 hn.2]
    have c1 := calls_knownT b S (n := n) ⟨by omega,by omega⟩
    obtain ⟨i,rfl⟩ : ∃ i : Nat,n = (i : Int) + 1 := ⟨n.toNat - 1,by omega⟩
    rw [atE_succ]
    have e1 : ((i : Int) + 1 - 1).toNat = i := by omega
    have hat := ents_rule (E := S.E) (i := i) (by omega)
    (repeat' ((conv => whnf); first | (refine CallK_packU (key := 77) rfl (fun w hR h0 => c1 _ _ _ h0) ?_; rintro ⟨a',c',mb'⟩ w' hRu; rw [fS_eq]; refine ⟨.v _,rfl,?_⟩) | rw [e1] | refine ⟨ruC (S.E.getD i ent0).r,rfl,Rd.own (key := 1001) rfl (Nat.succ_pos _) hat,?_⟩ | refine ⟨_,⟨rfl,trivial⟩,?_⟩ | (refine bcase_prop (fun h => ?_) (fun h => ?_) <;> try (exfalso; omega)) | (refine bcase_nprop (fun h => ?_) (fun h => ?_) <;> try (exfalso; omega)) | (refine bcase_intro (fun h => ?_) (fun h => ?_) <;> (try simp only [Bool.not_eq_true',Bool.not_eq_false',decide_eq_true_eq,decide_eq_false_iff_not,Bool.not_eq_true,Bool.not_eq_false,Decidable.not_not] at h)) | refine And.intro (by first | omega | exact rfl | assumption | exact ⟨rfl,rfl,rfl,rfl,rfl⟩ | exact ⟨rfl,rfl,rfl,rfl⟩ | exact ⟨rfl,by omega⟩ | exact oneAll_of rfl | exact ⟨rfl,oneAll_of rfl⟩ | exact Ref.refl _ | exact Thin.ref (.skip (Thin.refl _)) | exact Thin.ref (.skip (.skip (Thin.refl _))) | exact own_ne (key := 1001) hRu rfl (by omega) | exact ⟨rfl,Nat.le_of_ble_eq_true rfl⟩ | ((try unfold maxLen); (try simp only [List.length_nil,List.length_cons,List.length_append]); omega) | (refine ⟨rfl,?_⟩; (try simp only [List.length_nil,List.length_cons,List.length_append]); omega)) ?_ | intro _)); (all_goals (conv => whnf))
    exact ⟨endR _ _ _ (by (repeat (first | exact Thin.nil _ | exact Thin.refl _ | refine Thin.keep rfl (fun _ h => h) ?_ | refine Thin.skip ?_))) rfl⟩
  · rw [show ruleV S n = .tuple #[ruV rul0,errV 1] from if_neg hn]
    by_cases h0 : n = 0
    · (repeat' ((conv => whnf); first | (refine bcase_prop (fun h => ?_) (fun h => ?_) <;> try (exfalso; omega)) | (refine bcase_nprop (fun h => ?_) (fun h => ?_) <;> try (exfalso; omega)) | (refine bcase_intro (fun h => ?_) (fun h => ?_) <;> (try simp only [Bool.not_eq_true',Bool.not_eq_false',decide_eq_true_eq,decide_eq_false_iff_not,Bool.not_eq_true,Bool.not_eq_false,Decidable.not_not] at h)) | refine And.intro (by first | omega | exact rfl | assumption | exact ⟨rfl,rfl,rfl,rfl,rfl⟩ | exact ⟨rfl,rfl,rfl,rfl⟩ | exact ⟨rfl,by omega⟩ | exact oneAll_of rfl | exact ⟨rfl,oneAll_of rfl⟩ | exact Ref.refl _ | exact Thin.ref (.skip (Thin.refl _)) | exact Thin.ref (.skip (.skip (Thin.refl _))) | exact ⟨rfl,Nat.le_of_ble_eq_true rfl⟩ | ((try unfold maxLen); (try simp only [List.length_nil,List.length_cons,List.length_append]); omega) | (refine ⟨rfl,?_⟩; (try simp only [List.length_nil,List.length_cons,List.length_append]); omega)) ?_ | intro _)); (all_goals (conv => whnf))
      exact ⟨endP (by (repeat (first | exact Thin.nil _ | exact Thin.refl _ | refine Thin.keep rfl (fun _ h => h) ?_ | refine Thin.skip ?_))) rfl⟩
    · have c1 := calls_knownF b S (n := n) (fun h => by have := h.1; have := h.2; omega)
      (repeat' ((conv => whnf); first | (refine CallK_pack (key := 77) rfl (fun w hR h0 => c1 _ _ _ h0) ?_; rintro _ _ ⟨rfl,fp',rfl⟩; refine ⟨.v _,rfl,?_⟩) | (refine bcase_prop (fun h => ?_) (fun h => ?_) <;> try (exfalso; omega)) | (refine bcase_nprop (fun h => ?_) (fun h => ?_) <;> try (exfalso; omega)) | (refine bcase_intro (fun h => ?_) (fun h => ?_) <;> (try simp only [Bool.not_eq_true',Bool.not_eq_false',decide_eq_true_eq,decide_eq_false_iff_not,Bool.not_eq_true,Bool.not_eq_false,Decidable.not_not] at h)) | refine And.intro (by first | omega | exact rfl | assumption | exact ⟨rfl,rfl,rfl,rfl,rfl⟩ | exact ⟨rfl,rfl,rfl,rfl⟩ | exact ⟨rfl,by omega⟩ | exact oneAll_of rfl | exact ⟨rfl,oneAll_of rfl⟩ | exact Ref.refl _ | exact Thin.ref (.skip (Thin.refl _)) | exact Thin.ref (.skip (.skip (Thin.refl _))) | exact ⟨rfl,Nat.le_of_ble_eq_true rfl⟩ | ((try unfold maxLen); (try simp only [List.length_nil,List.length_cons,List.length_append]); omega) | (refine ⟨rfl,?_⟩; (try simp only [List.length_nil,List.length_cons,List.length_append]); omega)) ?_ | intro _)); (all_goals (conv => whnf))
      exact ⟨endP (by (repeat (first | exact Thin.nil _ | exact Thin.refl _ | refine Thin.keep rfl (fun _ h => h) ?_ | refine Thin.skip ?_))) rfl⟩
def newS (key : Nat) (S : Sto) (v : Value) (L1 : List Ent) : Prop := ∃ b fp',v = pS b ∧ L1 = [packE key fp' (fS b S)]
def clipS (m : Int) : Nat := (if m < 0 then 0 else if m > 1048576 then 1048576 else m).toNat
theorem calls_New (m : Int) (key : Nat) (w : World) : Calls Tryz.prog fn_intern_New #[.int .i64 m] w fun e w' => ∃ v L1,e = .returned v ∧ R w [] L1 w' ∧ newS key ⟨clipS m,[]⟩ v L1 := by
  refine new_call [.v (.int .i64 m)] ok_intern_New (by simp) ?_
  have c1 := calls_lClip m 0 1048576
  have e1 : (if m < 0 then 0 else if m > 1048576 then 1048576 else m) = ((clipS m : Nat) : Int) := by unfold clipS; split; rfl; split <;> omega
  rw [e1] at c1
  (repeat' ((conv => whnf); first | (first | refine CallK_pure (.v _) (fun w hR => c1 w) ?_ | refine QCall_pure (.v _) (fun w hR => c1 w) ?_) | (refine bcase_prop (fun h => ?_) (fun h => ?_) <;> try (exfalso; omega)) | (refine bcase_nprop (fun h => ?_) (fun h => ?_) <;> try (exfalso; omega)) | (refine bcase_intro (fun h => ?_) (fun h => ?_) <;> (try simp only [Bool.not_eq_true',Bool.not_eq_false',decide_eq_true_eq,decide_eq_false_iff_not,Bool.not_eq_true,Bool.not_eq_false,Decidable.not_not] at h)) | refine And.intro (by first | omega | exact rfl | assumption | exact ⟨rfl,rfl,rfl,rfl,rfl⟩ | exact ⟨rfl,rfl,rfl,rfl⟩ | exact ⟨rfl,by omega⟩ | exact oneAll_of rfl | exact ⟨rfl,oneAll_of rfl⟩ | exact Ref.refl _ | exact Thin.ref (.skip (Thin.refl _)) | exact Thin.ref (.skip (.skip (Thin.refl _))) | exact ⟨rfl,Nat.le_of_ble_eq_true rfl⟩ | ((try unfold maxLen); (try simp only [List.length_nil,List.length_cons,List.length_append]); omega) | (refine ⟨rfl,?_⟩; (try simp only [List.length_nil,List.length_cons,List.length_append]); omega)) ?_ | intro _)); (all_goals (conv => whnf))
  rename_i mb b
  exact ⟨⟨_,(Ref.ownNil 1001 ty_intern_entry 13).trans ((Ref.perm (.swap _ _ _)).trans (Ref.pack (key := key) (f := fS b ⟨clipS m,[]⟩) (none,0,mb) (by rw [fS_eq]; exact .keep rfl (fun _ h => h) (.keep rfl (fun _ h => h) (.keep rfl (fun _ h => h) (.nil _)))))),_,_,rfl,rfl⟩⟩
theorem splice_ints {k : IntKind} {xs : List Int} {j : Nat} {z : Int} (h : j < xs.length) : splice (ints k xs) j [.int k z] = ints k (xs.set j z) := by
  unfold splice ints
  rw [List.set_eq_take_append_cons_drop,if_pos h]
  simp
structure ImpG where
  i : Nat
  S : Sto
  to : List Int
  fp : List Nat
structure Gram (g : List Rul) : Prop where
  rul : ∀ i,i < g.length → okR (g.getD i rul0) (i + 1)
  let_ : ∀ i,i < g.length → 0 ≤ (g.getD i rul0).l ∧ (g.getD i rul0).l < 256
  tim : ∀ i,i < g.length → (g.getD i rul0).t ≤ 9223372036854775807
theorem drop_cons {α : Type} {l : List α} {i : Nat} {d : α} (h : i < l.length) : l.drop i = l.getD i d :: l.drop (i + 1) := by
  rw [List.drop_eq_getElem_cons h,List.getD_eq_getElem?_getD,List.getElem?_eq_getElem h]; rfl
end Go.Proofs.YtkkhpdkfploodaaGreatDoor
/- The references' functions on rules and grammars; errors' numbers. -/
namespace Go.Proofs.YtkkhpdkfploodaaGreatDoor
open Go.EG
attribute [local irreducible] CallK QCall Go.Calls
set_option linter.unusedSimpArgs false
set_option linter.unusedVariables false
set_option maxRecDepth 20000
set_option maxHeartbeats 1000000
theorem calls_Num (n : Int) (w : World) : Calls Tryz.prog fn_evergreenbase_Num #[errV n] w fun e w' => e = .returned (.int .i64 n) ∧ Ext w w' := by
  refine pure_call [.v (errV n)] w ok_evergreenbase_Num (by simp) ?_
  (repeat' ((conv => whnf); first | (refine bcase_prop (fun h => ?_) (fun h => ?_) <;> try (exfalso; omega)) | (refine bcase_nprop (fun h => ?_) (fun h => ?_) <;> try (exfalso; omega)) | (refine bcase_intro (fun h => ?_) (fun h => ?_) <;> (try simp only [Bool.not_eq_true',Bool.not_eq_false',decide_eq_true_eq,decide_eq_false_iff_not,Bool.not_eq_true,Bool.not_eq_false,Decidable.not_not] at h)) | refine And.intro (by first | omega | exact rfl | assumption | exact ⟨rfl,rfl,rfl,rfl,rfl⟩ | exact ⟨rfl,rfl,rfl,rfl⟩ | exact ⟨rfl,by omega⟩ | exact oneAll_of rfl | exact ⟨rfl,oneAll_of rfl⟩ | exact Ref.refl _ | exact Thin.ref (.skip (Thin.refl _)) | exact Thin.ref (.skip (.skip (Thin.refl _))) | exact ⟨rfl,Nat.le_of_ble_eq_true rfl⟩ | ((try unfold maxLen); (try simp only [List.length_nil,List.length_cons,List.length_append]); omega) | (refine ⟨rfl,?_⟩; (try simp only [List.length_nil,List.length_cons,List.length_append]); omega)) ?_ | intro _)); (all_goals (conv => whnf))
  exact ⟨rfl⟩
theorem calls_Is (n m : Int) (hm : m ≠ 0) (w : World) : Calls Tryz.prog fn_evergreenbase_Is #[errV n,.int .i64 m] w fun e w' => e = .returned (.bool (decide (n = m))) ∧ Ext w w' := by
  refine pure_call [.v (errV n),.v (.int .i64 m)] w ok_evergreenbase_Is (by simp) ?_
  have c1 := calls_Num n
  (repeat' ((conv => whnf); first | (first | refine CallK_pure (.v _) (fun w hR => c1 w) ?_ | refine QCall_pure (.v _) (fun w hR => c1 w) ?_) | (refine bcase_prop (fun h => ?_) (fun h => ?_) <;> try (exfalso; omega)) | (refine bcase_nprop (fun h => ?_) (fun h => ?_) <;> try (exfalso; omega)) | (refine bcase_intro (fun h => ?_) (fun h => ?_) <;> (try simp only [Bool.not_eq_true',Bool.not_eq_false',decide_eq_true_eq,decide_eq_false_iff_not,Bool.not_eq_true,Bool.not_eq_false,Decidable.not_not] at h)) | refine And.intro (by first | omega | exact rfl | assumption | exact ⟨rfl,rfl,rfl,rfl,rfl⟩ | exact ⟨rfl,rfl,rfl,rfl⟩ | exact ⟨rfl,by omega⟩ | exact oneAll_of rfl | exact ⟨rfl,oneAll_of rfl⟩ | exact Ref.refl _ | exact Thin.ref (.skip (Thin.refl _)) | exact Thin.ref (.skip (.skip (Thin.refl _))) | exact ⟨rfl,Nat.le_of_ble_eq_true rfl⟩ | ((try unfold maxLen); (try simp only [List.length_nil,List.length_cons,List.length_append]); omega) | (refine ⟨rfl,?_⟩; (try simp only [List.length_nil,List.length_cons,List.length_append]); omega)) ?_ | intro _)); (all_goals (conv => whnf))
  · refine ⟨?_⟩
    rw [decide_eq_true h]; simp [hm]
  · refine ⟨?_⟩
    rw [decide_eq_false h]
theorem calls_earlier (i n : Int) (w : World) : Calls Tryz.prog fn_evergreenref11_earlier #[.int .i64 i,.int .i64 n] w fun e w' => e = .returned (.bool (earl i n)) ∧ Ext w w' := by
  refine pure_call [.v (.int .i64 i),.v (.int .i64 n)] w ok_evergreenref11_earlier (by simp) ?_
  unfold earl
  (repeat' ((conv => whnf); first | (refine bcase_prop (fun h => ?_) (fun h => ?_) <;> try (exfalso; omega)) | (refine bcase_nprop (fun h => ?_) (fun h => ?_) <;> try (exfalso; omega)) | (refine bcase_intro (fun h => ?_) (fun h => ?_) <;> (try simp only [Bool.not_eq_true',Bool.not_eq_false',decide_eq_true_eq,decide_eq_false_iff_not,Bool.not_eq_true,Bool.not_eq_false,Decidable.not_not] at h)) | refine And.intro (by first | omega | exact rfl | assumption | exact ⟨rfl,rfl,rfl,rfl,rfl⟩ | exact ⟨rfl,rfl,rfl,rfl⟩ | exact ⟨rfl,by omega⟩ | exact oneAll_of rfl | exact ⟨rfl,oneAll_of rfl⟩ | exact Ref.refl _ | exact Thin.ref (.skip (Thin.refl _)) | exact Thin.ref (.skip (.skip (Thin.refl _))) | exact ⟨rfl,Nat.le_of_ble_eq_true rfl⟩ | ((try unfold maxLen); (try simp only [List.length_nil,List.length_cons,List.length_append]); omega) | (refine ⟨rfl,?_⟩; (try simp only [List.length_nil,List.length_cons,List.length_append]); omega)) ?_ | intro _)); (all_goals (conv => whnf))
  · refine ⟨?_⟩
    rw [decide_eq_true h]; rfl
  · refine ⟨?_⟩
    rw [decide_eq_false h]; rfl
theorem calls_r11Rule (r : Rul) (n : Int) (w : World) : Calls Tryz.prog fn_evergreenref11_Rule #[ruV r,.int .i64 n] w fun e w' => e = .returned (.int .i64 (ruleCode r n)) ∧ Ext w w' := by
  refine pure_call [.v (ruV r),.v (.int .i64 n)] w ok_evergreenref11_Rule (by simp) ?_
  have c1 := calls_earlier r.a n
  have c2 := calls_earlier r.b n
  unfold ruleCode
  generalize earl r.a n = ea at *
  generalize earl r.b n = eb at *
  (repeat' ((conv => whnf); first | (first | refine CallK_pure (.v _) (fun w hR => c1 w) ?_ | refine QCall_pure (.v _) (fun w hR => c1 w) ?_) | (first | refine CallK_pure (.v _) (fun w hR => c2 w) ?_ | refine QCall_pure (.v _) (fun w hR => c2 w) ?_) | (refine bcase_prop (fun h => ?_) (fun h => ?_) <;> try (exfalso; omega)) | (refine bcase_nprop (fun h => ?_) (fun h => ?_) <;> try (exfalso; omega)) | (refine bcase_intro (fun h => ?_) (fun h => ?_) <;> (try simp only [Bool.not_eq_true',Bool.not_eq_false',decide_eq_true_eq,decide_eq_false_iff_not,Bool.not_eq_true,Bool.not_eq_false,Decidable.not_not] at h)) | refine And.intro (by first | omega | exact rfl | assumption | exact ⟨rfl,rfl,rfl,rfl,rfl⟩ | exact ⟨rfl,rfl,rfl,rfl⟩ | exact ⟨rfl,by omega⟩ | exact oneAll_of rfl | exact ⟨rfl,oneAll_of rfl⟩ | exact Ref.refl _ | exact Thin.ref (.skip (Thin.refl _)) | exact Thin.ref (.skip (.skip (Thin.refl _))) | exact ⟨rfl,Nat.le_of_ble_eq_true rfl⟩ | ((try unfold maxLen); (try simp only [List.length_nil,List.length_cons,List.length_append]); omega) | (refine ⟨rfl,?_⟩; (try simp only [List.length_nil,List.length_cons,List.length_append]); omega)) ?_ | intro _)); (all_goals (conv => whnf))
  all_goals (refine ⟨?_⟩; congr 1; first | omega | (simp only [*,if_true,if_false]; simp) | (repeat' split) <;> (first | rfl | omega | (simp_all; done) | (exfalso; omega)))
theorem calls_r11Check (g : List Rul) (a : Option Addr) (c : Nat) (hl : g.length ≤ 140737488355328) (w : World) (hin : In w [] a (rulsC g)) : Calls Tryz.prog fn_evergreenref11_Check #[.slice a g.length c] w fun e w' => e = .returned (.int .i64 (chk 1 g)) ∧ Ext w w' := by
  refine pure_call [.v (.slice a g.length c)] w ok_evergreenref11_Check (by simp) ?_
  have hne : ∀ i,i < g.length → a ≠ none := fun i hi => hin.ne' (k := i * 5) (by rw [rulsC_length]; omega)
  have hrd := fun {L : List Ent} (i : Nat) (hi : i < g.length) => In.rdn (L := L) (vs := ruC (g.getD i rul0)) (k := i * 5) hin (Nat.succ_pos _) (rulsC_at hi)
  (repeat' ((conv => whnf); first | (refine bcase_prop (fun h => ?_) (fun h => ?_) <;> try (exfalso; omega)) | (refine bcase_nprop (fun h => ?_) (fun h => ?_) <;> try (exfalso; omega)) | (refine bcase_intro (fun h => ?_) (fun h => ?_) <;> (try simp only [Bool.not_eq_true',Bool.not_eq_false',decide_eq_true_eq,decide_eq_false_iff_not,Bool.not_eq_true,Bool.not_eq_false,Decidable.not_not] at h)) | refine And.intro (by first | omega | exact rfl | assumption | exact ⟨rfl,rfl,rfl,rfl,rfl⟩ | exact ⟨rfl,rfl,rfl,rfl⟩ | exact ⟨rfl,by omega⟩ | exact oneAll_of rfl | exact ⟨rfl,oneAll_of rfl⟩ | exact Ref.refl _ | exact Thin.ref (.skip (Thin.refl _)) | exact Thin.ref (.skip (.skip (Thin.refl _))) | exact ⟨rfl,Nat.le_of_ble_eq_true rfl⟩ | ((try unfold maxLen); (try simp only [List.length_nil,List.length_cons,List.length_append]); omega) | (refine ⟨rfl,?_⟩; (try simp only [List.length_nil,List.length_cons,List.length_append]); omega)) ?_ | intro _)); (all_goals (conv => whnf))
  refine VC_loop Nat (fun i => [(0,.v (.slice a g.length c)),(3,.v (.int .i64 i))]) (fun _ => []) (fun i => i ≤ g.length ∧ chk 1 g = chk ((i : Int) + 1) (g.drop i)) (fun i => g.length - i) 0 ⟨Nat.zero_le _,rfl⟩ (by (repeat ((conv => whnf); refine And.intro (by first | exact rfl | exact vint_eq (by omega) | exact vint_eq (by (dsimp only; omega)) | exact vsl_eq (by omega) | exact vsl_eq (by first | (dsimp only; omega) | (simp; done) | (simp; omega))) ?_)); exact trivial) (.refl _) ?_
  rintro i ⟨hi,hc⟩
  rw [hc]
  have hi0 := hne i
  by_cases hlt : i < g.length
  · rw [drop_cons (d := rul0) hlt]
    simp only [chk]
    have hr1 := fun {L : List Ent} => hrd (L := L) i hlt
    have c1 := calls_r11Rule (g.getD i rul0) ((i : Int) + 1)
    rw [drop_cons (d := rul0) hlt] at hc
    simp only [chk] at hc
    generalize ruleCode (g.getD i rul0) ((i : Int) + 1) = cd at *
    (repeat' ((conv => whnf); first | rw [Int.toNat_natCast] | (first | refine CallK_pure (.v _) (fun w hR => c1 w) ?_ | refine QCall_pure (.v _) (fun w hR => c1 w) ?_) | refine ⟨ruC (g.getD i rul0),rfl,hr1,?_⟩ | (refine bcase_prop (fun h => ?_) (fun h => ?_) <;> try (exfalso; omega)) | (refine bcase_nprop (fun h => ?_) (fun h => ?_) <;> try (exfalso; omega)) | (refine bcase_intro (fun h => ?_) (fun h => ?_) <;> (try simp only [Bool.not_eq_true',Bool.not_eq_false',decide_eq_true_eq,decide_eq_false_iff_not,Bool.not_eq_true,Bool.not_eq_false,Decidable.not_not] at h)) | refine And.intro (by first | omega | exact rfl | assumption | exact ⟨rfl,rfl,rfl,rfl,rfl⟩ | exact ⟨rfl,rfl,rfl,rfl⟩ | exact ⟨rfl,by omega⟩ | exact oneAll_of rfl | exact ⟨rfl,oneAll_of rfl⟩ | exact Ref.refl _ | exact Thin.ref (.skip (Thin.refl _)) | exact Thin.ref (.skip (.skip (Thin.refl _))) | exact hi0 (by omega) | exact ⟨rfl,Nat.le_of_ble_eq_true rfl⟩ | ((try unfold maxLen); (try simp only [List.length_nil,List.length_cons,List.length_append]); omega) | (refine ⟨rfl,?_⟩; (try simp only [List.length_nil,List.length_cons,List.length_append]); omega)) ?_ | intro _)); (all_goals (conv => whnf))
    · exact ⟨by rw [if_pos h]⟩
    · refine loop_next (i + 1) ⟨hlt,?_⟩ (by ((try dsimp only); omega)) (by (repeat ((conv => whnf); refine And.intro (by first | exact rfl | exact vint_eq (by omega) | exact vint_eq (by (dsimp only; omega)) | exact vsl_eq (by omega) | exact vsl_eq (by first | (dsimp only; omega) | (simp; done) | (simp; omega))) ?_)); exact trivial) (Thin.ref (by (repeat (first | exact Thin.nil _ | exact Thin.refl _ | refine Thin.keep rfl (fun _ h => h) ?_ | refine Thin.skip ?_))))
      rw [if_neg (by simp [h])]
      congr 1
  · rw [show g.drop i = [] from List.drop_eq_nil_of_le (by omega)]
    (repeat' ((conv => whnf); first | rw [Int.toNat_natCast] | (refine bcase_prop (fun h => ?_) (fun h => ?_) <;> try (exfalso; omega)) | (refine bcase_nprop (fun h => ?_) (fun h => ?_) <;> try (exfalso; omega)) | (refine bcase_intro (fun h => ?_) (fun h => ?_) <;> (try simp only [Bool.not_eq_true',Bool.not_eq_false',decide_eq_true_eq,decide_eq_false_iff_not,Bool.not_eq_true,Bool.not_eq_false,Decidable.not_not] at h)) | refine And.intro (by first | omega | exact rfl | assumption | exact ⟨rfl,rfl,rfl,rfl,rfl⟩ | exact ⟨rfl,rfl,rfl,rfl⟩ | exact ⟨rfl,by omega⟩ | exact oneAll_of rfl | exact ⟨rfl,oneAll_of rfl⟩ | exact Ref.refl _ | exact Thin.ref (.skip (Thin.refl _)) | exact Thin.ref (.skip (.skip (Thin.refl _))) | exact ⟨rfl,Nat.le_of_ble_eq_true rfl⟩ | ((try unfold maxLen); (try simp only [List.length_nil,List.length_cons,List.length_append]); omega) | (refine ⟨rfl,?_⟩; (try simp only [List.length_nil,List.length_cons,List.length_append]); omega)) ?_ | intro _)); (all_goals (conv => whnf))
    exact ⟨rfl⟩
end Go.Proofs.YtkkhpdkfploodaaGreatDoor
/- Runs,stretches and pairs of rows of numbers: plain facts. No condition. -/
namespace Go.Proofs.YtkkhpdkfploodaaGreatDoor
set_option linter.unusedSimpArgs false
def runs : List Int → List (Int × Int)
  | [] => []
  | x :: xs => match runs xs with
    | [] => [(x,1)]
    | (y,t) :: r => if x = y then (y,t + 1) :: r else (x,1) :: (y,t) :: r
theorem runs_head : ∀ (xs : List Int),(runs xs).head?.map (·.1) = xs.head?
  | [] => rfl
  | x :: xs => by
    simp only [runs]
    cases h : runs xs with
    | nil => rfl
    | cons g r =>
      obtain ⟨y,t⟩ := g
      by_cases hxy : x = y
      · simp [hxy]
      · simp [hxy]
theorem runs_length : ∀ (xs : List Int),(runs xs).length ≤ xs.length
  | [] => Nat.le_refl _
  | x :: xs => by
    have ih := runs_length xs
    simp only [runs]
    cases h : runs xs with
    | nil => simp
    | cons g r =>
      obtain ⟨y,t⟩ := g
      rw [h] at ih
      by_cases hxy : x = y
      · simp only [hxy,if_true,List.length_cons] at ih ⊢; omega
      · simp only [hxy,if_false,List.length_cons] at ih ⊢; omega
theorem runs_rep (x : Int) (ys : List Int) (h : ys.head? ≠ some x) : ∀ m : Nat,runs (List.replicate (m + 1) x ++ ys) = (x,(m : Int) + 1) :: runs ys
  | 0 => by
    have h1 := runs_head ys
    simp only [List.replicate_succ,List.replicate_zero,List.cons_append,List.nil_append,runs]
    cases hr : runs ys with
    | nil => rfl
    | cons g r =>
      obtain ⟨y,t⟩ := g
      rw [hr] at h1
      have hxy : ¬ x = y := by
        rintro rfl
        exact h h1.symm
      simp [hxy]
  | m + 1 => by
    have ih := runs_rep x ys h m
    rw [List.replicate_succ,List.cons_append]
    simp only [runs]
    rw [ih]
    simp
theorem drop_rep (xs : List Int) (x : Int) : ∀ (m i : Nat),i + m ≤ xs.length → (∀ j,j < m → xs.getD (i + j) 0 = x) → xs.drop i = List.replicate m x ++ xs.drop (i + m)
  | 0,i,_,_ => by simp
  | m + 1,i,hl,h => by
    have hi : i < xs.length := by omega
    rw [List.drop_eq_getElem_cons hi,drop_rep xs x m (i + 1) (by omega) (fun j hj => by rw [show i + 1 + j = i + (j + 1) from by omega]; exact h _ (by omega))]
    have h0 := h 0 (by omega)
    simp only [Nat.add_zero,List.getD_eq_getElem?_getD,List.getElem?_eq_getElem hi,Option.getD_some] at h0
    rw [h0,List.replicate_succ,List.cons_append,show i + 1 + m = i + (m + 1) from by omega]
theorem head_drop (xs : List Int) (i : Nat) : (xs.drop i).head? = xs[i]? := by
  rw [List.head?_drop]
structure Block (xs : List Int) (i k : Nat) : Prop where
  lt : i < k
  le : k ≤ xs.length
  all : ∀ j,i ≤ j → j < k → xs.getD j 0 = xs.getD i 0
  stop : k < xs.length → xs.getD k 0 ≠ xs.getD i 0
theorem Block.runs {xs : List Int} {i k : Nat} (h : Block xs i k) : runs (xs.drop i) = (xs.getD i 0,((k : Int) - i)) :: runs (xs.drop k) := by
  obtain ⟨h1,h2,h3,h4⟩ := h
  obtain ⟨m,rfl⟩ : ∃ m,k = i + (m + 1) := ⟨k - i - 1,by omega⟩
  rw [drop_rep xs (xs.getD i 0) (m + 1) i (by omega) (fun j hj => h3 _ (by omega) (by omega))]
  rw [runs_rep]
  · congr 2
    omega
  · rw [head_drop]
    intro he
    obtain ⟨hk,he⟩ := List.getElem?_eq_some_iff.1 he
    refine h4 hk ?_
    rw [← he]
    simp [List.getD_eq_getElem?_getD,List.getElem?_eq_getElem hk]
theorem runs_end {xs : List Int} {i : Nat} (h : xs.length ≤ i) : runs (xs.drop i) = [] := by
  rw [List.drop_eq_nil_of_le h]; rfl
def strs : Int → List (Int × Int) → List (Int × Int)
  | _,[] => []
  | o,(_,t) :: r => (if 1 < t then [(o,t)] else []) ++ strs (o + t) r
def stretches (xs : List Int) : List (Int × Int) := strs 0 (runs xs)
theorem strs_length : ∀ (o : Int) (l : List (Int × Int)),(strs o l).length ≤ l.length
  | _,[] => Nat.le_refl _
  | o,(_,t) :: r => by
    have := strs_length (o + t) r
    simp only [strs,List.length_append,List.length_cons]
    split <;> simp <;> omega
def strFrom (xs : List Int) (i : Nat) : List (Int × Int) := strs i (runs (xs.drop i))
theorem strFrom_zero (xs : List Int) : strFrom xs 0 = stretches xs := by simp [strFrom,stretches]
theorem strFrom_end {xs : List Int} {i : Nat} (h : xs.length ≤ i) : strFrom xs i = [] := by simp [strFrom,runs_end h,strs]
theorem Block.str {xs : List Int} {i k : Nat} (h : Block xs i k) : strFrom xs i = (if 1 < (k : Int) - i then [((i : Int),(k : Int) - i)] else []) ++ strFrom xs k := by
  unfold strFrom
  rw [h.runs]
  simp only [strs]
  rw [show (i : Int) + ((k : Int) - i) = (k : Int) from by omega]
theorem Block.str1 {xs : List Int} {i k : Nat} {z : Int} (h : Block xs i k) (hz : (k : Int) = z) (h1 : 1 < z - i) (out : List (Int × Int)) : out ++ strFrom xs i = (out ++ [((i : Int),z - i)]) ++ strFrom xs k := by
  subst hz
  rw [h.str,if_pos h1,List.append_assoc]
theorem Block.str2 {xs : List Int} {i k : Nat} {z : Int} (h : Block xs i k) (hz : (k : Int) = z) (h1 : ¬ 1 < z - i) (out : List (Int × Int)) : out ++ strFrom xs i = out ++ strFrom xs k := by
  subst hz
  rw [h.str,if_neg h1,List.nil_append]
theorem strFrom_length (xs : List Int) (i : Nat) : (strFrom xs i).length ≤ xs.length := by
  have h1 := strs_length i (runs (xs.drop i))
  have h2 := runs_length (xs.drop i)
  have h3 : (xs.drop i).length ≤ xs.length := by simp
  unfold strFrom
  omega
def pick (p : Nat → Bool) : Nat → List Int
  | 0 => []
  | i + 1 => pick p i ++ if p i then [(i : Int)] else []
theorem pick_length (p : Nat → Bool) : ∀ i,(pick p i).length ≤ i
  | 0 => Nat.le_refl _
  | i + 1 => by
    have := pick_length p i
    simp only [pick,List.length_append]
    split <;> simp <;> omega
theorem pick_congr {p q : Nat → Bool} : ∀ {i : Nat},(∀ j,j < i → p j = q j) → pick p i = pick q i
  | 0,_ => rfl
  | i + 1,h => by simp only [pick]; rw [pick_congr (fun j hj => h j (by omega)),h i (by omega)]
theorem pick_none {p : Nat → Bool} (h : ∀ j,p j = false) : ∀ n,pick p n = []
  | 0 => rfl
  | n + 1 => by simp [pick,pick_none h n,h n]
def numF (l : Int) : Int := (l / 2 - 1) % 123
def evenF (l : Int) : Bool := decide (2 ≤ l ∧ l % 2 = 0)
def bitI (x b : Int) : Int := x / ((2 ^ b.toNat : Nat) : Int) % 2
def tieF (l : Int) : Bool := evenF l && decide (numF l = 122)
def fitsF (x y l : Int) : Bool := evenF l && (if numF l = 122 then decide (x = y) else decide (bitI x (numF l / 2) = numF l % 2) && decide (bitI y (numF l / 2) = 1 - numF l % 2))
def tieOf (g : Int × Int) : List Int := (List.range (g.2 / 2).toNat).map fun q : Nat => g.1 + 2 * (q : Int)
def ties (l : List (Int × Int)) : List Int := l.flatMap tieOf
def pairsF (xs : List Int) (l : Int) : List Int :=
  if evenF l = true then
    if numF l = 122 then ties (stretches xs) else pick (fun i => fitsF (xs.getD i 0) (xs.getD (i + 1) 0) l) (xs.length - 1)
  else []
theorem numF_range (l : Int) : 0 ≤ numF l ∧ numF l ≤ 122 := by unfold numF; omega
theorem bitI_range (x b : Int) : 0 ≤ bitI x b ∧ bitI x b ≤ 1 := by unfold bitI; omega
theorem and_one (x b : Int) (hx : 0 ≤ x) : (((x / ((2 ^ b.toNat : Nat) : Int)).toNat &&& (1 : Int).toNat : Nat) : Int) = bitI x b := by
  have h : 0 ≤ x / ((2 ^ b.toNat : Nat) : Int) := Int.ediv_nonneg hx (Int.natCast_nonneg _)
  unfold bitI
  generalize x / ((2 ^ b.toNat : Nat) : Int) = z at h ⊢
  show ((z.toNat &&& 1 : Nat) : Int) = z % 2
  rw [Nat.and_one_is_mod]
  omega
theorem ties_le : ∀ (l : List (Int × Int)) (o : Int),(∀ g ∈ l,0 ≤ g.2) → (ties (strs o l)).length ≤ (l.map fun g => g.2.toNat).sum
  | [],_,_ => by simp [strs,ties]
  | (y,t) :: r,o,h => by
    have ih := ties_le r (o + t) (fun g hg => h g (List.mem_cons_of_mem _ hg))
    have h0 := h (y,t) List.mem_cons_self
    have e : ties (strs o ((y,t) :: r)) = ties (if 1 < t then [(o,t)] else []) ++ ties (strs (o + t) r) := by
      simp only [strs,ties,List.flatMap_append]
    rw [e,List.length_append]
    simp only [List.map_cons,List.sum_cons]
    simp only at h0
    split
    · simp only [ties] at ih
      simp only [ties,tieOf,List.flatMap_cons,List.flatMap_nil,List.append_nil,List.length_map,List.length_range]
      omega
    · simp only [ties] at ih
      simp only [ties,List.flatMap_nil,List.length_nil]
      omega
theorem runs_pos : ∀ (xs : List Int),∀ g ∈ runs xs,1 ≤ g.2
  | [],g,h => by cases h
  | x :: xs,g,h => by
    have ih := runs_pos xs
    simp only [runs] at h
    cases hr : runs xs with
    | nil => rw [hr] at h; simp at h; subst h; simp
    | cons g' r =>
      obtain ⟨y,t⟩ := g'
      rw [hr] at h ih
      have h1 := ih (y,t) List.mem_cons_self
      by_cases hxy : x = y
      · simp only [hxy,if_true,List.mem_cons] at h
        rcases h with rfl | h
        · simp at h1 ⊢; omega
        · exact ih g (List.mem_cons_of_mem _ h)
      · simp only [hxy,if_false,List.mem_cons] at h
        rcases h with rfl | rfl | h
        · simp
        · exact h1
        · exact ih g (List.mem_cons_of_mem _ h)
theorem runs_sum : ∀ (xs : List Int),((runs xs).map fun g => g.2.toNat).sum = xs.length
  | [] => rfl
  | x :: xs => by
    have ih := runs_sum xs
    have hp := runs_pos xs
    simp only [runs]
    cases hr : runs xs with
    | nil =>
      rw [hr] at ih
      simp only [List.map_nil,List.sum_nil] at ih
      simp only [List.map_cons,List.map_nil,List.sum_cons,List.sum_nil,List.length_cons,← ih]
      rfl
    | cons g' r =>
      obtain ⟨y,t⟩ := g'
      rw [hr] at ih hp
      have h1 := hp (y,t) List.mem_cons_self
      simp only at h1
      by_cases hxy : x = y
      · simp only [hxy,if_true,List.map_cons,List.sum_cons,List.length_cons] at ih ⊢; omega
      · simp only [hxy,if_false,List.map_cons,List.sum_cons,List.length_cons] at ih ⊢; omega
theorem pairsF_length (xs : List Int) (l : Int) : (pairsF xs l).length ≤ xs.length := by
  unfold pairsF
  split
  · split
    · have h1 := ties_le (runs xs) 0 (fun g hg => by have := runs_pos xs g hg; omega)
      rw [runs_sum] at h1
      exact h1
    · have := pick_length (fun i => fitsF (xs.getD i 0) (xs.getD (i + 1) 0) l) (xs.length - 1)
      omega
  · simp
theorem strs_mem : ∀ (l : List (Int × Int)) (o : Int),(∀ g ∈ l,1 ≤ g.2) → ∀ g ∈ strs o l,o ≤ g.1 ∧ 2 ≤ g.2 ∧ g.1 + g.2 ≤ o + ((l.map fun g => g.2.toNat).sum : Nat)
  | [],_,_,g,hg => by cases hg
  | (y,t) :: r,o,h,g,hg => by
    have h0 := h (y,t) List.mem_cons_self
    simp only at h0
    simp only [List.map_cons,List.sum_cons]
    simp only [strs,List.mem_append] at hg
    rcases hg with hg | hg
    · split at hg
      · simp only [List.mem_singleton] at hg
        subst hg
        simp only
        omega
      · cases hg
    · have := strs_mem r (o + t) (fun g hg => h g (List.mem_cons_of_mem _ hg)) g hg
      omega
theorem str_get {xs : List Int} {i : Nat} (h : i < (stretches xs).length) : 0 ≤ ((stretches xs).getD i (0,0)).1 ∧ 2 ≤ ((stretches xs).getD i (0,0)).2 ∧ ((stretches xs).getD i (0,0)).1 + ((stretches xs).getD i (0,0)).2 ≤ xs.length := by
  have h1 : (stretches xs).getD i (0,0) ∈ stretches xs := by
    simp [h]
  have := strs_mem (runs xs) 0 (runs_pos xs) _ h1
  rw [runs_sum] at this
  omega
theorem ties_append (a b : List (Int × Int)) : ties (a ++ b) = ties a ++ ties b := by simp [ties]
theorem ties_take {st : List (Int × Int)} {i : Nat} (h : i < st.length) : ties (st.take (i + 1)) = ties (st.take i) ++ tieOf (st.getD i (0,0)) := by
  rw [List.take_add_one,ties_append]
  simp [h,ties]
theorem ties_take_le (st : List (Int × Int)) (i : Nat) : (ties (st.take i)).length ≤ (ties st).length := by
  have : ties st = ties (st.take i) ++ ties (st.drop i) := by rw [← ties_append,List.take_append_drop]
  rw [this,List.length_append]; omega
def tieTo (g : Int × Int) (q : Nat) : List Int := (List.range q).map fun q : Nat => g.1 + 2 * (q : Int)
theorem tieTo_succ (g : Int × Int) (q : Nat) : tieTo g (q + 1) = tieTo g q ++ [g.1 + 2 * (q : Int)] := by
  simp [tieTo,List.range_succ]
theorem tieTo_length (g : Int × Int) (q : Nat) : (tieTo g q).length = q := by simp [tieTo]
theorem tieTo_all (g : Int × Int) : tieTo g (g.2 / 2).toNat = tieOf g := rfl
def expand (l : List (Int × Int)) : List Int := l.flatMap fun g => List.replicate g.2.toNat g.1
theorem expand_runs : ∀ (xs : List Int),expand (runs xs) = xs
  | [] => rfl
  | x :: xs => by
    have ih := expand_runs xs
    have hp := runs_pos xs
    simp only [runs]
    cases hr : runs xs with
    | nil => rw [hr] at ih; simp only [expand,List.flatMap_nil] at ih; rw [← ih]; rfl
    | cons g r =>
      obtain ⟨y,t⟩ := g
      rw [hr] at ih hp
      have h1 := hp (y,t) List.mem_cons_self
      simp only at h1
      by_cases hxy : x = y
      · subst hxy
        simp only [if_true,expand,List.flatMap_cons] at ih ⊢
        rw [show (t + 1).toNat = t.toNat + 1 from by omega,List.replicate_succ,List.cons_append,ih]
      · simp only [hxy,if_false,expand,List.flatMap_cons] at ih ⊢
        rw [ih]; rfl
theorem expand_take {st : List (Int × Int)} {i : Nat} (h : i < st.length) : expand (st.take (i + 1)) = expand (st.take i) ++ List.replicate (st.getD i (0,0)).2.toNat (st.getD i (0,0)).1 := by
  have e : st[i]? = some (st.getD i (0,0)) := by simp [h]
  rw [List.take_add_one,e]
  simp only [expand,List.flatMap_append,Option.toList_some,List.flatMap_cons,List.flatMap_nil,List.append_nil]
theorem expand_take_le (st : List (Int × Int)) (i : Nat) : (expand (st.take i)).length ≤ (expand st).length := by
  have : expand st = expand (st.take i) ++ expand (st.drop i) := by unfold expand; rw [← List.flatMap_append,List.take_append_drop]
  rw [this,List.length_append]; omega
theorem runs_get {xs : List Int} {i : Nat} (h : i < (runs xs).length) : 1 ≤ ((runs xs).getD i (0,0)).2 := by
  have h1 : (runs xs).getD i (0,0) ∈ runs xs := by simp [h]
  exact runs_pos xs _ h1
end Go.Proofs.YtkkhpdkfploodaaGreatDoor
/- The numbers of a level,and whether two keys fit it: program and reference. No condition. -/
namespace Go.Proofs.YtkkhpdkfploodaaGreatDoor
open Go.EG
attribute [local irreducible] CallK QCall Go.Calls
set_option linter.unusedSimpArgs false
set_option linter.unusedVariables false
set_option maxRecDepth 20000
def bitN (l : Int) : Int := if evenF l = true then (if numF l = 122 then 0 else numF l / 2) else 0
def firstN (l : Int) : Int := if evenF l = true then (if numF l = 122 then 0 else numF l % 2) else 0
theorem even_t {l : Int} (h : 2 ≤ l) (h' : l % 2 = 0) : evenF l = true := by unfold evenF; simp; omega
theorem even_f {l : Int} (h : l < 2 ∨ l % 2 ≠ 0) : evenF l = false := by unfold evenF; simp; omega
theorem even_elim {l : Int} (h : evenF l = true) : 2 ≤ l ∧ l % 2 = 0 := by unfold evenF at h; simpa using h
theorem calls_number (l : Int) (w : World) (h1 : l ≤ 9223372036854775807) : Calls Tryz.prog fn_keys_number #[.int .i64 l] w fun x w' => x = .returned (.tuple #[.int .i64 (if evenF l then numF l else 0),.bool (evenF l)]) ∧ Ext w w' := by
  refine pure_call [.v (.int .i64 l)] w ok_keys_number (by simp) ?_
  (repeat' ((conv => whnf); first | (refine bcase_prop (fun h => ?_) (fun h => ?_) <;> try (exfalso; omega)) | (refine bcase_nprop (fun h => ?_) (fun h => ?_) <;> try (exfalso; omega)) | (refine bcase_intro (fun h => ?_) (fun h => ?_) <;> (try simp only [Bool.not_eq_true',Bool.not_eq_false',decide_eq_true_eq,decide_eq_false_iff_not,Bool.not_eq_true,Bool.not_eq_false,Decidable.not_not] at h)) | refine And.intro (by first | omega | exact rfl | assumption | exact ⟨rfl,rfl,rfl,rfl,rfl⟩ | exact ⟨rfl,rfl,rfl,rfl⟩ | exact ⟨rfl,by omega⟩ | exact oneAll_of rfl | exact ⟨rfl,oneAll_of rfl⟩ | exact Ref.refl _ | exact Thin.ref (.skip (Thin.refl _)) | exact Thin.ref (.skip (.skip (Thin.refl _))) | exact ⟨rfl,Nat.le_of_ble_eq_true rfl⟩ | ((try unfold maxLen); (try simp only [List.length_nil,List.length_cons,List.length_append]); omega) | (refine ⟨rfl,?_⟩; (try simp only [List.length_nil,List.length_cons,List.length_append]); omega)) ?_ | intro _)); (all_goals (conv => whnf))
  · refine ⟨?_⟩
    rw [even_f (.inl h)]; rfl
  · refine ⟨?_⟩
    rw [even_f (.inr h)]; rfl
  · refine ⟨?_⟩
    rw [even_t (by omega) h]; rfl
theorem calls_Number (l : Int) (w : World) (h1 : l ≤ 9223372036854775807) : Calls Tryz.prog fn_keys_Number #[.int .i64 l] w fun x w' => x = .returned (.tuple #[.int .i64 (bitN l),.int .u64 (firstN l),.bool (tieF l)]) ∧ Ext w w' := by
  refine pure_call [.v (.int .i64 l)] w ok_keys_Number (by simp) ?_
  have hr := numF_range l
  cases he : evenF l with
  | true =>
    have hc : ∀ w,Calls Tryz.prog fn_keys_number #[.int .i64 l] w fun x w' => x = .returned (.tuple #[.int .i64 (numF l),.bool true]) ∧ Ext w w' := fun w => by
      have := calls_number l w h1
      rw [he] at this; exact this
    (repeat' ((conv => whnf); first | refine CallK_pure (.v _) (fun w hR => hc w) ?_ | (refine bcase_prop (fun h => ?_) (fun h => ?_) <;> try (exfalso; omega)) | (refine bcase_nprop (fun h => ?_) (fun h => ?_) <;> try (exfalso; omega)) | (refine bcase_intro (fun h => ?_) (fun h => ?_) <;> (try simp only [Bool.not_eq_true',Bool.not_eq_false',decide_eq_true_eq,decide_eq_false_iff_not,Bool.not_eq_true,Bool.not_eq_false,Decidable.not_not] at h)) | refine And.intro (by first | omega | exact rfl | assumption | exact ⟨rfl,rfl,rfl,rfl,rfl⟩ | exact ⟨rfl,rfl,rfl,rfl⟩ | exact ⟨rfl,by omega⟩ | exact oneAll_of rfl | exact ⟨rfl,oneAll_of rfl⟩ | exact Ref.refl _ | exact Thin.ref (.skip (Thin.refl _)) | exact Thin.ref (.skip (.skip (Thin.refl _))) | exact ⟨rfl,Nat.le_of_ble_eq_true rfl⟩ | ((try unfold maxLen); (try simp only [List.length_nil,List.length_cons,List.length_append]); omega) | (refine ⟨rfl,?_⟩; (try simp only [List.length_nil,List.length_cons,List.length_append]); omega)) ?_ | intro _)); (all_goals (conv => whnf))
    · refine ⟨?_⟩
      simp [bitN,firstN,tieF,he,h]
    · refine ⟨?_⟩
      simp only [bitN,firstN,tieF,he,h,if_true,if_false,decide_false,Bool.and_false]
      rw [show numF l % 2 % 18446744073709551616 = numF l % 2 from by omega]
  | false =>
    have hc : ∀ w,Calls Tryz.prog fn_keys_number #[.int .i64 l] w fun x w' => x = .returned (.tuple #[.int .i64 0,.bool false]) ∧ Ext w w' := fun w => by
      have := calls_number l w h1
      rw [he] at this; exact this
    (repeat' ((conv => whnf); first | refine CallK_pure (.v _) (fun w hR => hc w) ?_ | (refine bcase_prop (fun h => ?_) (fun h => ?_) <;> try (exfalso; omega)) | (refine bcase_nprop (fun h => ?_) (fun h => ?_) <;> try (exfalso; omega)) | (refine bcase_intro (fun h => ?_) (fun h => ?_) <;> (try simp only [Bool.not_eq_true',Bool.not_eq_false',decide_eq_true_eq,decide_eq_false_iff_not,Bool.not_eq_true,Bool.not_eq_false,Decidable.not_not] at h)) | refine And.intro (by first | omega | exact rfl | assumption | exact ⟨rfl,rfl,rfl,rfl,rfl⟩ | exact ⟨rfl,rfl,rfl,rfl⟩ | exact ⟨rfl,by omega⟩ | exact oneAll_of rfl | exact ⟨rfl,oneAll_of rfl⟩ | exact Ref.refl _ | exact Thin.ref (.skip (Thin.refl _)) | exact Thin.ref (.skip (.skip (Thin.refl _))) | exact ⟨rfl,Nat.le_of_ble_eq_true rfl⟩ | ((try unfold maxLen); (try simp only [List.length_nil,List.length_cons,List.length_append]); omega) | (refine ⟨rfl,?_⟩; (try simp only [List.length_nil,List.length_cons,List.length_append]); omega)) ?_ | intro _)); (all_goals (conv => whnf))
    refine ⟨?_⟩
    simp [bitN,firstN,tieF,he]
theorem calls_rNumber (l : Int) (w : World) (h1 : l ≤ 9223372036854775807) : Calls Tryz.prog fn_evergreenref20_Number #[.int .i64 l] w fun x w' => x = .returned (.tuple #[.int .i64 (if evenF l then bitN l else -1),.int .u64 (firstN l),.bool (tieF l)]) ∧ Ext w w' := by
  refine pure_call [.v (.int .i64 l)] w ok_evergreenref20_Number (by simp) ?_
  have hr := numF_range l
  (repeat' ((conv => whnf); first | (refine bcase_prop (fun h => ?_) (fun h => ?_) <;> try (exfalso; omega)) | (refine bcase_nprop (fun h => ?_) (fun h => ?_) <;> try (exfalso; omega)) | (refine bcase_intro (fun h => ?_) (fun h => ?_) <;> (try simp only [Bool.not_eq_true',Bool.not_eq_false',decide_eq_true_eq,decide_eq_false_iff_not,Bool.not_eq_true,Bool.not_eq_false,Decidable.not_not] at h)) | refine And.intro (by first | omega | exact rfl | assumption | exact ⟨rfl,rfl,rfl,rfl,rfl⟩ | exact ⟨rfl,rfl,rfl,rfl⟩ | exact ⟨rfl,by omega⟩ | exact oneAll_of rfl | exact ⟨rfl,oneAll_of rfl⟩ | exact Ref.refl _ | exact Thin.ref (.skip (Thin.refl _)) | exact Thin.ref (.skip (.skip (Thin.refl _))) | exact ⟨rfl,Nat.le_of_ble_eq_true rfl⟩ | ((try unfold maxLen); (try simp only [List.length_nil,List.length_cons,List.length_append]); omega) | (refine ⟨rfl,?_⟩; (try simp only [List.length_nil,List.length_cons,List.length_append]); omega)) ?_ | intro _)); (all_goals (conv => whnf))
  · refine ⟨?_⟩
    simp [firstN,tieF,even_f (.inl h)]
  · refine ⟨?_⟩
    simp [firstN,tieF,even_f (.inr h)]
  · rename_i h2 h3
    have he := even_t (by omega) h3
    refine ⟨?_⟩
    have h : numF l = 122 := h
    simp [bitN,firstN,tieF,he,h]
  · rename_i h2 h3
    have he := even_t (by omega) h3
    refine ⟨?_⟩
    have h : ¬ numF l = 122 := h
    simp only [bitN,firstN,tieF,he,h,if_true,if_false,decide_false,Bool.and_false]
    show _ = Value.tuple #[.int .i64 (numF l / 2),.int .u64 (numF l % 2),.bool false]
    rw [show numF l % 2 = numF l % 2 % 18446744073709551616 from by omega]; rfl
theorem calls_rFits (x y l : Int) (w : World) (hx : 0 ≤ x ∧ x ≤ 18446744073709551615) (hy : 0 ≤ y ∧ y ≤ 18446744073709551615) (h1 : l ≤ 9223372036854775807) : Calls Tryz.prog fn_evergreenref20_Fits #[.int .u64 x,.int .u64 y,.int .i64 l] w fun e w' => e = .returned (.bool (fitsF x y l)) ∧ Ext w w' := by
  refine pure_call [.v (.int .u64 x),.v (.int .u64 y),.v (.int .i64 l)] w ok_evergreenref20_Fits (by simp) ?_
  have hr := numF_range l
  have hq : ∀ z : Int,0 ≤ z → z ≤ 18446744073709551615 → ∀ b : Int,0 ≤ z / ((2 ^ b.toNat : Nat) : Int) ∧ z / ((2 ^ b.toNat : Nat) : Int) ≤ 18446744073709551615 := fun z h0 h2 b =>
    ⟨Int.ediv_nonneg h0 (Int.natCast_nonneg _),Int.le_trans (Int.ediv_le_self _ h0) h2⟩
  have q1 := hq x hx.1 hx.2 (numF l / 2)
  have q2 := hq y hy.1 hy.2 (numF l / 2)
  cases he : evenF l with
  | true =>
    by_cases ht : numF l = 122
    · have hc : ∀ w,Calls Tryz.prog fn_evergreenref20_Number #[.int .i64 l] w fun x w' => x = .returned (.tuple #[.int .i64 0,.int .u64 0,.bool true]) ∧ Ext w w' := fun w => by
        have := calls_rNumber l w h1
        simp only [bitN,firstN,tieF,he,ht,if_true,decide_true,Bool.and_true] at this; exact this
      (repeat' ((conv => whnf); first | refine CallK_pure (.v _) (fun w hR => hc w) ?_ | (refine bcase_prop (fun h => ?_) (fun h => ?_) <;> try (exfalso; omega)) | (refine bcase_nprop (fun h => ?_) (fun h => ?_) <;> try (exfalso; omega)) | (refine bcase_intro (fun h => ?_) (fun h => ?_) <;> (try simp only [Bool.not_eq_true',Bool.not_eq_false',decide_eq_true_eq,decide_eq_false_iff_not,Bool.not_eq_true,Bool.not_eq_false,Decidable.not_not] at h)) | refine And.intro (by first | omega | exact rfl | assumption | exact ⟨rfl,rfl,rfl,rfl,rfl⟩ | exact ⟨rfl,rfl,rfl,rfl⟩ | exact ⟨rfl,by omega⟩ | exact oneAll_of rfl | exact ⟨rfl,oneAll_of rfl⟩ | exact Ref.refl _ | exact Thin.ref (.skip (Thin.refl _)) | exact Thin.ref (.skip (.skip (Thin.refl _))) | exact ⟨rfl,Nat.le_of_ble_eq_true rfl⟩ | ((try unfold maxLen); (try simp only [List.length_nil,List.length_cons,List.length_append]); omega) | (refine ⟨rfl,?_⟩; (try simp only [List.length_nil,List.length_cons,List.length_append]); omega)) ?_ | intro _)); (all_goals (conv => whnf))
      refine ⟨?_⟩
      simp [fitsF,he,ht]
    · have hc : ∀ w,Calls Tryz.prog fn_evergreenref20_Number #[.int .i64 l] w fun x w' => x = .returned (.tuple #[.int .i64 (numF l / 2),.int .u64 (numF l % 2),.bool false]) ∧ Ext w w' := fun w => by
        have := calls_rNumber l w h1
        simp only [bitN,firstN,tieF,he,ht,if_true,if_false,decide_false,Bool.and_false] at this; exact this
      (repeat' ((conv => whnf); first | refine CallK_pure (.v _) (fun w hR => hc w) ?_ | (refine bcase_prop (fun h => ?_) (fun h => ?_) <;> try (exfalso; omega)) | (refine bcase_nprop (fun h => ?_) (fun h => ?_) <;> try (exfalso; omega)) | (refine bcase_intro (fun h => ?_) (fun h => ?_) <;> (try simp only [Bool.not_eq_true',Bool.not_eq_false',decide_eq_true_eq,decide_eq_false_iff_not,Bool.not_eq_true,Bool.not_eq_false,Decidable.not_not] at h)) | refine And.intro (by first | omega | exact rfl | assumption | exact ⟨rfl,rfl,rfl,rfl,rfl⟩ | exact ⟨rfl,rfl,rfl,rfl⟩ | exact ⟨rfl,by omega⟩ | exact oneAll_of rfl | exact ⟨rfl,oneAll_of rfl⟩ | exact Ref.refl _ | exact Thin.ref (.skip (Thin.refl _)) | exact Thin.ref (.skip (.skip (Thin.refl _))) | exact ⟨by omega,by show _ ≤ (64 : Int); omega⟩ | (refine ⟨?_,?_,?_,?_⟩ <;> first | exact q1.1 | exact q1.2 | exact q2.1 | exact q2.2 | decide) | exact ⟨rfl,Nat.le_of_ble_eq_true rfl⟩ | ((try unfold maxLen); (try simp only [List.length_nil,List.length_cons,List.length_append]); omega) | (refine ⟨rfl,?_⟩; (try simp only [List.length_nil,List.length_cons,List.length_append]); omega)) ?_ | intro _)); (all_goals (conv => whnf))
      · refine ⟨?_⟩
        rw [and_one _ _ hx.1] at h
        rw [and_one _ _ hy.1]
        simp only [fitsF,he,ht,if_false,Bool.true_and,h,decide_true]
        rw [show (1 - numF l % 2) % 18446744073709551616 = 1 - numF l % 2 from by omega]
      · refine ⟨?_⟩
        rw [and_one _ _ hx.1] at h
        simp only [fitsF,he,ht,if_false,Bool.true_and,h,decide_false,Bool.false_and]
  | false =>
    have hc : ∀ w,Calls Tryz.prog fn_evergreenref20_Number #[.int .i64 l] w fun x w' => x = .returned (.tuple #[.int .i64 (-1),.int .u64 0,.bool false]) ∧ Ext w w' := fun w => by
      have := calls_rNumber l w h1
      simp only [firstN,tieF,he,if_false,Bool.false_and,Bool.false_eq_true] at this; exact this
    (repeat' ((conv => whnf); first | refine CallK_pure (.v _) (fun w hR => hc w) ?_ | (refine bcase_prop (fun h => ?_) (fun h => ?_) <;> try (exfalso; omega)) | (refine bcase_nprop (fun h => ?_) (fun h => ?_) <;> try (exfalso; omega)) | (refine bcase_intro (fun h => ?_) (fun h => ?_) <;> (try simp only [Bool.not_eq_true',Bool.not_eq_false',decide_eq_true_eq,decide_eq_false_iff_not,Bool.not_eq_true,Bool.not_eq_false,Decidable.not_not] at h)) | refine And.intro (by first | omega | exact rfl | assumption | exact ⟨rfl,rfl,rfl,rfl,rfl⟩ | exact ⟨rfl,rfl,rfl,rfl⟩ | exact ⟨rfl,by omega⟩ | exact oneAll_of rfl | exact ⟨rfl,oneAll_of rfl⟩ | exact Ref.refl _ | exact Thin.ref (.skip (Thin.refl _)) | exact Thin.ref (.skip (.skip (Thin.refl _))) | exact ⟨rfl,Nat.le_of_ble_eq_true rfl⟩ | ((try unfold maxLen); (try simp only [List.length_nil,List.length_cons,List.length_append]); omega) | (refine ⟨rfl,?_⟩; (try simp only [List.length_nil,List.length_cons,List.length_append]); omega)) ?_ | intro _)); (all_goals (conv => whnf))
    refine ⟨?_⟩
    simp [fitsF,he]
end Go.Proofs.YtkkhpdkfploodaaGreatDoor
/- Equality of rows of integers. No condition. -/
namespace Go.Proofs.YtkkhpdkfploodaaGreatDoor
open Go.EG
attribute [local irreducible] CallK QCall Go.Calls
set_option linter.unusedSimpArgs false
set_option linter.unusedVariables false
set_option maxRecDepth 20000
theorem getD_some {xs : List Int} {i : Nat} (h : i < xs.length) : xs[i]? = some (xs.getD i 0) := by
  simp [h]
end Go.Proofs.YtkkhpdkfploodaaGreatDoor
/- Runs and stretches,program and reference: the rows that they return. Condition: at most 1000 elements. -/
namespace Go.Proofs.YtkkhpdkfploodaaGreatDoor
open Go.EG
attribute [local irreducible] CallK QCall Go.Calls
set_option linter.unusedSimpArgs false
set_option linter.unusedVariables false
set_option maxRecDepth 20000
theorem vc_Stretches (w : World) (a : Option Addr) (c : Nat) (xs : List Int) (hx : In w [] a (ints .u64 xs)) (hl : xs.length ≤ 1000) :
    VC Tryz.prog w [] ir_levels_Stretches (fnK [.t 2] (endS w ty_api_Span 2 (stretches xs).length (prs .i64 (stretches xs)))) (startE 0 [.v (.slice a xs.length c)]) [] := by
  (repeat' ((conv => whnf); first | (refine bcase_prop (fun h => ?_) (fun h => ?_) <;> try (exfalso; omega)) | (refine bcase_nprop (fun h => ?_) (fun h => ?_) <;> try (exfalso; omega)) | (refine bcase_intro (fun h => ?_) (fun h => ?_) <;> (try simp only [Bool.not_eq_true',Bool.not_eq_false',decide_eq_true_eq,decide_eq_false_iff_not,Bool.not_eq_true,Bool.not_eq_false,Decidable.not_not] at h)) | refine And.intro (by first | omega | exact rfl | assumption | exact ⟨rfl,rfl,rfl,rfl,rfl⟩ | exact ⟨rfl,rfl,rfl,rfl⟩ | exact ⟨rfl,by omega⟩ | exact oneAll_of rfl | exact ⟨rfl,oneAll_of rfl⟩ | exact Ref.refl _ | exact Thin.ref (.skip (Thin.refl _)) | exact Thin.ref (.skip (.skip (Thin.refl _))) | exact ⟨rfl,Nat.le_of_ble_eq_true rfl⟩ | ((try unfold maxLen); (try simp only [List.length_nil,List.length_cons,List.length_append]); omega) | (refine ⟨rfl,?_⟩; (try simp only [List.length_nil,List.length_cons,List.length_append]); omega)) ?_ | intro _)); (all_goals (conv => whnf))
  (conv => whnf)
  refine VC_loop (Nat × Nat × List (Int × Int) × Option Addr × Nat) (fun (i,f,out,a',c') => [(0,.v (.slice a xs.length c)),(3,.sl 3 a' out.length c'),(4,.v (.int .i64 f)),(8,.v (.int .i64 xs.length)),(9,.v (.int .i64 i))])
    (fun (i,f,out,a',c') => [.own 3 a' out.length c' ty_api_Span 2 (prs .i64 out)])
    (fun (i,f,out,a',c') => f ≤ i ∧ i ≤ xs.length ∧ out.length ≤ f ∧ stretches xs = out ++ strFrom xs f ∧ (i = xs.length → f = i) ∧ ∀ j,f ≤ j → j ≤ i → i < xs.length → xs.getD j 0 = xs.getD f 0)
    (fun (i,f,out,a',c') => xs.length - i) (0,0,[],none,0) ⟨by omega,by omega,by simp,by simp [strFrom_zero],by omega,fun j h1 h2 h3 => by rw [show j = 0 from by omega]⟩ (by (repeat ((conv => whnf); refine And.intro (by first | exact rfl | exact vint_eq (by omega) | exact vint_eq (by (dsimp only; omega)) | exact vsl_eq (by omega) | exact vsl_eq (by first | (dsimp only; omega) | (simp; done) | (simp; omega))) ?_)); exact trivial) (Ref.ownNil 3 _ _) ?_
  rintro ⟨i,f,out,a',c'⟩ ⟨h1,h2,h3,h4,h5,h6⟩
  simp only at h1 h2 h3 h4 h5 h6 ⊢
  have hb : ∀ (h : (i : Int) < xs.length) (hs : i + 1 < xs.length → xs.getD (i + 1) 0 ≠ xs.getD i 0),Block xs f (i + 1) := fun h hs =>
    ⟨by omega,by omega,fun j ha hb => h6 j ha (by omega) (by omega),fun hk => by rw [← h6 i h1 (Nat.le_refl _) (by omega)]; exact hs hk⟩
  have hnew : ∀ j,i + 1 ≤ j → j ≤ i + 1 → i + 1 < xs.length → xs.getD j 0 = xs.getD (i + 1) 0 := fun j ha hb _ => by rw [show j = i + 1 from by omega]
  have e1 : ((i : Int) + 1).toNat = i + 1 := by omega
  have hst : xs.getD (i + 1) 0 = xs.getD i 0 → ∀ j,f ≤ j → j ≤ i + 1 → i + 1 < xs.length → xs.getD j 0 = xs.getD f 0 := fun h j ha hb _ => by
    rcases Nat.lt_succ_iff_lt_or_eq.1 (Nat.lt_succ_iff.2 hb) with h9 | rfl
    · exact h6 j ha (by omega) (by omega)
    · rw [h]; exact h6 i h1 (Nat.le_refl _) (by omega)
  (repeat' ((conv => whnf); first | refine ⟨_,rdI hx (by omega),?_⟩ | (refine bcase_prop (fun h => ?_) (fun h => ?_) <;> try (exfalso; omega)) | (refine bcase_nprop (fun h => ?_) (fun h => ?_) <;> try (exfalso; omega)) | (refine bcase_intro (fun h => ?_) (fun h => ?_) <;> (try simp only [Bool.not_eq_true',Bool.not_eq_false',decide_eq_true_eq,decide_eq_false_iff_not,Bool.not_eq_true,Bool.not_eq_false,Decidable.not_not] at h)) | refine And.intro (by first | omega | exact rfl | assumption | exact ⟨rfl,rfl,rfl,rfl,rfl⟩ | exact ⟨rfl,rfl,rfl,rfl⟩ | exact ⟨rfl,by omega⟩ | exact oneAll_of rfl | exact ⟨rfl,oneAll_of rfl⟩ | exact Ref.refl _ | exact Thin.ref (.skip (Thin.refl _)) | exact Thin.ref (.skip (.skip (Thin.refl _))) | exact neI hx (by omega) | exact ⟨rfl,Nat.le_of_ble_eq_true rfl⟩ | ((try unfold maxLen); (try simp only [List.length_nil,List.length_cons,List.length_append]); omega) | (refine ⟨rfl,?_⟩; (try simp only [List.length_nil,List.length_cons,List.length_append]); omega)) ?_ | intro _)); (all_goals (conv => whnf))
  · rename_i h7 h8
    simp only [e1,Int.toNat_natCast] at h
    refine loop_next (i + 1,f,out,a',c') (by dsimp only; refine ⟨by omega,by omega,h3,h4,fun hh => by omega,hst h⟩) (by ((try dsimp only); omega)) (by (repeat ((conv => whnf); refine And.intro (by first | exact rfl | exact vint_eq (by omega) | exact vint_eq (by (dsimp only; omega)) | exact vsl_eq (by omega) | exact vsl_eq (by first | (dsimp only; omega) | (simp; done) | (simp; omega))) ?_)); exact trivial) (.refl _)
  · rename_i h7 h8 h9 b2 a2 b
    rw [e1,Int.toNat_natCast] at h9
    have hB := hb h7 (fun _ => h9)
    refine loop_next (i + 1,i + 1,out ++ [((f : Int),(i : Int) + 1 - f)],a2,b) (by dsimp only; refine ⟨by omega,by omega,by simp; omega,by rw [h4]; first | exact hB.str1 (by omega) h out | exact hB.str2 (by omega) h out,by omega,hnew⟩) (by ((try dsimp only); omega)) (by simp only [List.length_append,List.length_cons,List.length_nil]; (repeat ((conv => whnf); refine And.intro (by first | exact rfl | exact vint_eq (by omega) | exact vint_eq (by (dsimp only; omega)) | exact vsl_eq (by omega) | exact vsl_eq (by first | (dsimp only; omega) | (simp; done) | (simp; omega))) ?_)); exact trivial) (Thin.ref (.skip (.own (by simp) prs_snoc (.nil _))))
  · rename_i h7 h8 h9
    rw [e1,Int.toNat_natCast] at h9
    have hB := hb h7 (fun _ => h9)
    refine loop_next (i + 1,i + 1,out,a',c') (by dsimp only; refine ⟨by omega,by omega,by omega,by rw [h4]; first | exact hB.str1 (by omega) h out | exact hB.str2 (by omega) h out,by omega,hnew⟩) (by ((try dsimp only); omega)) (by (repeat ((conv => whnf); refine And.intro (by first | exact rfl | exact vint_eq (by omega) | exact vint_eq (by (dsimp only; omega)) | exact vsl_eq (by omega) | exact vsl_eq (by first | (dsimp only; omega) | (simp; done) | (simp; omega))) ?_)); exact trivial) (.refl _)
  · rename_i h7 h8 b2 a2 b
    have hB := hb h7 (fun _ => by omega)
    refine loop_next (i + 1,i + 1,out ++ [((f : Int),(i : Int) + 1 - f)],a2,b) (by dsimp only; refine ⟨by omega,by omega,by simp; omega,by rw [h4]; first | exact hB.str1 (by omega) h out | exact hB.str2 (by omega) h out,by omega,hnew⟩) (by ((try dsimp only); omega)) (by simp only [List.length_append,List.length_cons,List.length_nil]; (repeat ((conv => whnf); refine And.intro (by first | exact rfl | exact vint_eq (by omega) | exact vint_eq (by (dsimp only; omega)) | exact vsl_eq (by omega) | exact vsl_eq (by first | (dsimp only; omega) | (simp; done) | (simp; omega))) ?_)); exact trivial) (Thin.ref (.skip (.own (by simp) prs_snoc (.nil _))))
  · rename_i h7 h8
    have hB := hb h7 (fun _ => by omega)
    refine loop_next (i + 1,i + 1,out,a',c') (by dsimp only; refine ⟨by omega,by omega,by omega,by rw [h4]; first | exact hB.str1 (by omega) h out | exact hB.str2 (by omega) h out,by omega,hnew⟩) (by ((try dsimp only); omega)) (by (repeat ((conv => whnf); refine And.intro (by first | exact rfl | exact vint_eq (by omega) | exact vint_eq (by (dsimp only; omega)) | exact vsl_eq (by omega) | exact vsl_eq (by first | (dsimp only; omega) | (simp; done) | (simp; omega))) ?_)); exact trivial) (.refl _)
  · have e2 : stretches xs = out := by rw [h4,strFrom_end (by omega),List.append_nil]
    refine ⟨a',c',by rw [e2],?_⟩
    rw [e2]
    exact Thin.ref (.own rfl rfl (.nil _))
end Go.Proofs.YtkkhpdkfploodaaGreatDoor
/- The reference's stretches and runs. Condition: at most 1000 elements. -/
namespace Go.Proofs.YtkkhpdkfploodaaGreatDoor
open Go.EG
attribute [local irreducible] CallK QCall Go.Calls
set_option linter.unusedSimpArgs false
set_option linter.unusedVariables false
set_option maxRecDepth 20000
end Go.Proofs.YtkkhpdkfploodaaGreatDoor
/- The program's runs. Condition: at most 1000 elements. -/
namespace Go.Proofs.YtkkhpdkfploodaaGreatDoor
open Go.EG
attribute [local irreducible] CallK QCall Go.Calls
set_option linter.unusedSimpArgs false
set_option linter.unusedVariables false
set_option maxRecDepth 20000
def RunRel (xs : List Int) (i : Nat) (out : List (Int × Int)) : Prop :=
  (i = 0 ∧ out = []) ∨ ∃ s init,s < i ∧ i ≤ xs.length ∧ init.length ≤ s ∧ out = init ++ [(xs.getD s 0,(i : Int) - s)] ∧ runs xs = init ++ runs (xs.drop s) ∧ ∀ j,s ≤ j → j < i → xs.getD j 0 = xs.getD s 0
theorem vc_Runs (w : World) (a : Option Addr) (c : Nat) (xs : List Int) (hx : In w [] a (ints .i64 xs)) (hl : xs.length ≤ 1000) :
    VC Tryz.prog w [] ir_levels_Runs (fnK [.t 2] (endS w ty_api_Group 2 (runs xs).length (prs .i64 (runs xs)))) (startE 0 [.v (.slice a xs.length c)]) [] := by
  (repeat' ((conv => whnf); first | (refine bcase_prop (fun h => ?_) (fun h => ?_) <;> try (exfalso; omega)) | (refine bcase_nprop (fun h => ?_) (fun h => ?_) <;> try (exfalso; omega)) | (refine bcase_intro (fun h => ?_) (fun h => ?_) <;> (try simp only [Bool.not_eq_true',Bool.not_eq_false',decide_eq_true_eq,decide_eq_false_iff_not,Bool.not_eq_true,Bool.not_eq_false,Decidable.not_not] at h)) | refine And.intro (by first | omega | exact rfl | assumption | exact ⟨rfl,rfl,rfl,rfl,rfl⟩ | exact ⟨rfl,rfl,rfl,rfl⟩ | exact ⟨rfl,by omega⟩ | exact oneAll_of rfl | exact ⟨rfl,oneAll_of rfl⟩ | exact Ref.refl _ | exact Thin.ref (.skip (Thin.refl _)) | exact Thin.ref (.skip (.skip (Thin.refl _))) | exact ⟨rfl,Nat.le_of_ble_eq_true rfl⟩ | ((try unfold maxLen); (try simp only [List.length_nil,List.length_cons,List.length_append]); omega) | (refine ⟨rfl,?_⟩; (try simp only [List.length_nil,List.length_cons,List.length_append]); omega)) ?_ | intro _)); (all_goals (conv => whnf))
  refine VC_loop (Nat × List (Int × Int) × Option Addr × Nat) (fun (i,out,a',c') => [(0,.v (.slice a xs.length c)),(3,.sl 3 a' out.length c'),(6,.v (.slice a xs.length c)),(7,.v (.int .i64 xs.length)),(8,.v (.int .i64 i))])
    (fun (i,out,a',c') => [.own 3 a' out.length c' ty_api_Group 2 (prs .i64 out)])
    (fun (i,out,a',c') => i ≤ xs.length ∧ RunRel xs i out)
    (fun (i,out,a',c') => xs.length - i) (0,[],none,0) ⟨by omega,.inl ⟨rfl,rfl⟩⟩ (by (repeat ((conv => whnf); refine And.intro (by first | exact rfl | exact vint_eq (by omega) | exact vint_eq (by (dsimp only; omega)) | exact vsl_eq (by omega) | exact vsl_eq (by first | (dsimp only; omega) | (simp; done) | (simp; omega))) ?_)); exact trivial) (Ref.ownNil 3 _ _) ?_
  rintro ⟨i,out,a',c'⟩ ⟨h1,h2⟩
  dsimp only at h1 h2 ⊢
  rcases h2 with ⟨rfl,rfl⟩ | ⟨s,init,hs,_,hi,rfl,hr,hall⟩
  · (repeat' ((conv => whnf); first | rw [prs_snoc] | (rw [last_prs]; rotate_left; · simp) | (rw [set_prs]; rotate_left; · simp) | refine ⟨_,rdI hx (by omega),?_⟩ | (refine bcase_prop (fun h => ?_) (fun h => ?_) <;> try (exfalso; omega)) | (refine bcase_nprop (fun h => ?_) (fun h => ?_) <;> try (exfalso; omega)) | (refine bcase_intro (fun h => ?_) (fun h => ?_) <;> (try simp only [Bool.not_eq_true',Bool.not_eq_false',decide_eq_true_eq,decide_eq_false_iff_not,Bool.not_eq_true,Bool.not_eq_false,Decidable.not_not] at h)) | refine And.intro (by first | omega | exact rfl | assumption | exact ⟨rfl,rfl,rfl,rfl,rfl⟩ | exact ⟨rfl,rfl,rfl,rfl⟩ | exact ⟨rfl,by omega⟩ | exact oneAll_of rfl | exact ⟨rfl,oneAll_of rfl⟩ | exact Ref.refl _ | exact Thin.ref (.skip (Thin.refl _)) | exact Thin.ref (.skip (.skip (Thin.refl _))) | exact neI hx (by omega) | exact isK_prs2 (by simp) | exact ⟨rfl,Nat.le_of_ble_eq_true rfl⟩ | ((try unfold maxLen); (try simp only [List.length_nil,List.length_cons,List.length_append]); omega) | (refine ⟨rfl,?_⟩; (try simp only [List.length_nil,List.length_cons,List.length_append]); omega)) ?_ | intro _)); (all_goals (conv => whnf))
    · exact loop_next (1,[] ++ [(xs.getD 0 0,0 + 1)],_,_) ⟨by ((try dsimp only); omega),.inr ⟨0,[],by omega,by ((try dsimp only); omega),by simp,rfl,by simp,fun j h1 h2 => by dsimp only at h2; rw [show j = 0 from by omega]⟩⟩ (by ((try dsimp only); omega)) (by (repeat ((conv => whnf); refine And.intro (by first | exact rfl | exact vint_eq (by omega) | exact vint_eq (by (dsimp only; omega)) | exact vsl_eq (by omega) | exact vsl_eq (by first | (dsimp only; omega) | (simp; done) | (simp; omega))) ?_)); exact trivial) (Thin.ref (.skip (.own rfl rfl (.nil _))))
    · rw [show xs = [] from List.eq_nil_of_length_eq_zero (by omega)]
      exact ⟨_,_,rfl,Thin.ref (.own rfl rfl (.nil _))⟩
  · have e1 : ((i : Int) - 1).toNat = i - 1 := by omega
    have e2 : xs.getD (i - 1) 0 = xs.getD s 0 := hall (i - 1) (by omega) (by omega)
    (repeat' ((conv => whnf); first | rw [prs_snoc] | (rw [last_prs]; rotate_left; · simp) | (rw [set_prs]; rotate_left; · simp) | refine ⟨_,rdI hx (by omega),?_⟩ | (refine bcase_prop (fun h => ?_) (fun h => ?_) <;> try (exfalso; omega)) | (refine bcase_nprop (fun h => ?_) (fun h => ?_) <;> try (exfalso; omega)) | (refine bcase_intro (fun h => ?_) (fun h => ?_) <;> (try simp only [Bool.not_eq_true',Bool.not_eq_false',decide_eq_true_eq,decide_eq_false_iff_not,Bool.not_eq_true,Bool.not_eq_false,Decidable.not_not] at h)) | refine And.intro (by first | omega | exact rfl | assumption | exact ⟨rfl,rfl,rfl,rfl,rfl⟩ | exact ⟨rfl,rfl,rfl,rfl⟩ | exact ⟨rfl,by omega⟩ | exact oneAll_of rfl | exact ⟨rfl,oneAll_of rfl⟩ | exact Ref.refl _ | exact Thin.ref (.skip (Thin.refl _)) | exact Thin.ref (.skip (.skip (Thin.refl _))) | exact neI hx (by omega) | exact isK_prs2 (by simp) | (dsimp only; omega) | (refine ⟨rfl,?_⟩; rw [prs_length]; simp; omega) | exact ⟨rfl,Nat.le_of_ble_eq_true rfl⟩ | ((try unfold maxLen); (try simp only [List.length_nil,List.length_cons,List.length_append]); omega) | (refine ⟨rfl,?_⟩; (try simp only [List.length_nil,List.length_cons,List.length_append]); omega)) ?_ | intro _)); (all_goals (conv => whnf))
    · rename_i hin hi0 b2 a2 b
      simp only [Int.toNat_natCast,e1,e2] at h
      have hB : Block xs s i := ⟨hs,h1,hall,fun _ hh => h hh.symm⟩
      refine loop_next (i + 1,(init ++ [(xs.getD s 0,(i : Int) - s)]) ++ [(xs.getD i 0,0 + 1)],_,_) ⟨by ((try dsimp only); omega),.inr ⟨i,init ++ [(xs.getD s 0,(i : Int) - s)],by ((try dsimp only); omega),by ((try dsimp only); omega),by simp; omega,?_,?_,fun j h1 h2 => by dsimp only at h2; rw [show j = i from by omega]⟩⟩ (by ((try dsimp only); omega)) (by (try simp only [List.length_append,List.length_cons,List.length_nil]); (repeat ((conv => whnf); refine And.intro (by first | exact rfl | exact vint_eq (by omega) | exact vint_eq (by (dsimp only; omega)) | exact vsl_eq (by omega) | exact vsl_eq (by first | (dsimp only; omega) | (simp; done) | (simp; omega))) ?_)); exact trivial) (Thin.ref (.skip (.own (by simp) rfl (.nil _))))
      · dsimp only
        rw [show ((i + 1 : Nat) : Int) - i = 0 + 1 from by omega]
      · rw [hr,hB.runs,List.append_assoc]; rfl
    · rename_i hin hi0
      simp only [Int.toNat_natCast,e1,e2] at h
      refine loop_next (i + 1,init ++ [(xs.getD s 0,(i : Int) - s + 1)],_,_) ⟨by ((try dsimp only); omega),.inr ⟨s,init,by ((try dsimp only); omega),by ((try dsimp only); omega),hi,?_,hr,fun j h1 h2 => ?_⟩⟩ (by ((try dsimp only); omega)) (by (try simp only [List.length_append,List.length_cons,List.length_nil]); (repeat ((conv => whnf); refine And.intro (by first | exact rfl | exact vint_eq (by omega) | exact vint_eq (by (dsimp only; omega)) | exact vsl_eq (by omega) | exact vsl_eq (by first | (dsimp only; omega) | (simp; done) | (simp; omega))) ?_)); exact trivial) (Thin.ref (.own (by simp) rfl (.nil _)))
      · dsimp only
        rw [show ((i + 1 : Nat) : Int) - s = (i : Int) - s + 1 from by omega]
      · dsimp only at h2
        rcases Nat.lt_succ_iff_lt_or_eq.1 h2 with h9 | rfl
        · exact hall j h1 h9
        · exact h.symm
    · have hB : Block xs s i := ⟨hs,h1,hall,fun hh => by omega⟩
      have e3 : runs xs = init ++ [(xs.getD s 0,(i : Int) - s)] := by rw [hr,hB.runs,runs_end (by omega)]
      exact ⟨_,_,by rw [e3],by rw [e3]; exact Thin.ref (.own rfl rfl (.nil _))⟩
end Go.Proofs.YtkkhpdkfploodaaGreatDoor
/- The pairs of a row at a level: program and reference. Condition: at most 1000 elements. -/
namespace Go.Proofs.YtkkhpdkfploodaaGreatDoor
open Go.EG
attribute [local irreducible] CallK QCall Go.Calls
set_option linter.unusedSimpArgs false
set_option linter.unusedVariables false
set_option maxRecDepth 20000
theorem calls_Stretches (w : World) (a : Option Addr) (c : Nat) (xs : List Int) (hx : In w [] a (ints .u64 xs)) (hl : xs.length ≤ 1000) :
    Calls Tryz.prog fn_levels_Stretches #[.slice a xs.length c] w (RetS ty_api_Span 2 (stretches xs).length (prs .i64 (stretches xs)) w) :=
  slice_call [.v (.slice a xs.length c)] w ok_levels_Stretches (by simp) (vc_Stretches w a c xs hx hl)
def U64s (xs : List Int) : Prop := ∀ i,0 ≤ xs.getD i 0 ∧ xs.getD i 0 ≤ 18446744073709551615
theorem shr_fits {z : Int} (h : 0 ≤ z ∧ z ≤ 18446744073709551615) (b : Int) : 0 ≤ z / ((2 ^ b.toNat : Nat) : Int) ∧ z / ((2 ^ b.toNat : Nat) : Int) ≤ 18446744073709551615 :=
  ⟨Int.ediv_nonneg h.1 (Int.natCast_nonneg _),Int.le_trans (Int.ediv_le_self _ h.1) h.2⟩
theorem bit_ob {z : Int} (h : 0 ≤ z ∧ z ≤ 18446744073709551615) (b : Int) : 0 ≤ z / ((2 ^ b.toNat : Nat) : Int) ∧ z / ((2 ^ b.toNat : Nat) : Int) ≤ 18446744073709551615 ∧ (0 : Int) ≤ 1 ∧ (1 : Int) ≤ 18446744073709551615 :=
  ⟨(shr_fits h b).1,(shr_fits h b).2,by decide,by decide⟩
theorem str_len (xs : List Int) : (stretches xs).length ≤ xs.length := by
  have := strFrom_length xs 0
  rwa [strFrom_zero] at this
theorem fits_eq {x y l : Int} (he : evenF l = true) (ht : ¬ numF l = 122) : fitsF x y l = (decide (bitI x (numF l / 2) = numF l % 2) && !decide (bitI y (numF l / 2) = numF l % 2)) := by
  have h1 := bitI_range y (numF l / 2)
  have h2 : numF l % 2 = 0 ∨ numF l % 2 = 1 := by omega
  simp only [fitsF,he,ht,if_false,Bool.true_and]
  congr 1
  rw [Bool.eq_iff_iff]
  simp
  omega
theorem vc_Pairs (w : World) (a : Option Addr) (c : Nat) (xs : List Int) (l : Int) (hx : In w [] a (ints .u64 xs)) (hl : xs.length ≤ 1000) (hu : U64s xs) (hl1 : l ≤ 9223372036854775807) :
    VC Tryz.prog w [] ir_levels_Pairs (fnK [.t 4] (endS w ty_int 1 (pairsF xs l).length (ints .i64 (pairsF xs l)))) (startE 0 [.v (.slice a xs.length c),.v (.int .i64 l)]) [] := by
  have hr := numF_range l
  have hst := str_len xs
  by_cases he : evenF l = true
  · have he2 := even_elim he
    by_cases ht : numF l = 122
    · have hc : ∀ w,Calls Tryz.prog fn_keys_Number #[.int .i64 l] w fun x w' => x = .returned (.tuple #[.int .i64 0,.int .u64 0,.bool true]) ∧ Ext w w' := fun w => by
        have := calls_Number l w hl1
        simp only [bitN,firstN,tieF,he,ht,if_true,decide_true,Bool.and_true] at this; exact this
      have hp : pairsF xs l = ties (stretches xs) := by simp [pairsF,he,ht]
      have hlen := pairsF_length xs l
      rw [hp] at hlen
      rw [hp]
      (repeat' ((conv => whnf); first | refine CallK_pure (.v _) (fun w hR => hc w) ?_ | refine CallK_slice 28 (fun w' hR => calls_Stretches w' a c xs (hx.cast hR (by simp)) hl) ?_ | (refine bcase_prop (fun h => ?_) (fun h => ?_) <;> try (exfalso; omega)) | (refine bcase_nprop (fun h => ?_) (fun h => ?_) <;> try (exfalso; omega)) | (refine bcase_intro (fun h => ?_) (fun h => ?_) <;> (try simp only [Bool.not_eq_true',Bool.not_eq_false',decide_eq_true_eq,decide_eq_false_iff_not,Bool.not_eq_true,Bool.not_eq_false,Decidable.not_not] at h)) | refine And.intro (by first | omega | exact rfl | assumption | exact ⟨rfl,rfl,rfl,rfl,rfl⟩ | exact ⟨rfl,rfl,rfl,rfl⟩ | exact ⟨rfl,by omega⟩ | exact oneAll_of rfl | exact ⟨rfl,oneAll_of rfl⟩ | exact Ref.refl _ | exact Thin.ref (.skip (Thin.refl _)) | exact Thin.ref (.skip (.skip (Thin.refl _))) | exact ⟨rfl,Nat.le_of_ble_eq_true rfl⟩ | ((try unfold maxLen); (try simp only [List.length_nil,List.length_cons,List.length_append]); omega) | (refine ⟨rfl,?_⟩; (try simp only [List.length_nil,List.length_cons,List.length_append]); omega)) ?_ | intro _)); (all_goals (conv => whnf))
      rename_i sa sc
      refine VC_loop (Nat × List Int × Option Addr × Nat) (fun (i,out,a',c') => [(28,.sl 28 sa (stretches xs).length sc),(29,.v (.int .i64 (stretches xs).length)),(5,.sl 5 a' out.length c'),(30,.v (.int .i64 i))])
        (fun (i,out,a',c') => [.own 28 sa (stretches xs).length sc ty_api_Span 2 (prs .i64 (stretches xs)),.own 5 a' out.length c' ty_int 1 (ints .i64 out)])
        (fun (i,out,a',c') => i ≤ (stretches xs).length ∧ out = ties ((stretches xs).take i))
        (fun (i,out,a',c') => (stretches xs).length - i) (0,[],none,0) ⟨by ((try dsimp only); omega),rfl⟩ (by (repeat ((conv => whnf); refine And.intro (by first | exact rfl | exact vint_eq (by omega) | exact vint_eq (by (dsimp only; omega)) | exact vsl_eq (by omega) | exact vsl_eq (by first | (dsimp only; omega) | (simp; done) | (simp; omega))) ?_)); exact trivial) (Ref.trans (Ref.ownNil 5 _ _) (Ref.perm (.swap _ _ _))) ?_
      rintro ⟨i,out,a',c'⟩ ⟨h1,h2⟩
      dsimp only at h1 h2 ⊢
      by_cases hi : i < (stretches xs).length
      · have hg := str_get hi
        have hout : out.length ≤ 1000 := by
          have := ties_take_le (stretches xs) i
          rw [h2]; omega
        have hnx := ties_take hi
        have e1 := intOf_prs1 (k := .i64) hi
        have e2 := intOf_prs2 (k := .i64) hi
        generalize hgg : (stretches xs).getD i (0,0) = g at *
        (repeat' ((conv => whnf); first | (refine bcase_prop (fun h => ?_) (fun h => ?_) <;> try (exfalso; omega)) | (refine bcase_nprop (fun h => ?_) (fun h => ?_) <;> try (exfalso; omega)) | (refine bcase_intro (fun h => ?_) (fun h => ?_) <;> (try simp only [Bool.not_eq_true',Bool.not_eq_false',decide_eq_true_eq,decide_eq_false_iff_not,Bool.not_eq_true,Bool.not_eq_false,Decidable.not_not] at h)) | refine And.intro (by first | omega | exact rfl | assumption | exact ⟨rfl,rfl,rfl,rfl,rfl⟩ | exact ⟨rfl,rfl,rfl,rfl⟩ | exact ⟨rfl,by omega⟩ | exact oneAll_of rfl | exact ⟨rfl,oneAll_of rfl⟩ | exact Ref.refl _ | exact Thin.ref (.skip (Thin.refl _)) | exact Thin.ref (.skip (.skip (Thin.refl _))) | exact ⟨isK_prs1 (by omega),isK_prs2 (by omega),trivial⟩ | (simp only [Int.toNat_natCast]; exact ⟨isK_prs1 (by omega),isK_prs2 (by omega),trivial⟩) | exact ⟨rfl,Nat.le_of_ble_eq_true rfl⟩ | ((try unfold maxLen); (try simp only [List.length_nil,List.length_cons,List.length_append]); omega) | (refine ⟨rfl,?_⟩; (try simp only [List.length_nil,List.length_cons,List.length_append]); omega)) ?_ | intro _)); (all_goals (conv => whnf))
        rename_i b
        simp only [Int.toNat_natCast,e1,e2]
        refine VC_loop (Nat × List Int × Option Addr × Nat) (fun (q,out2,a2,c2) => [(28,.sl 28 sa (stretches xs).length sc),(29,.v (.int .i64 (stretches xs).length)),(5,.sl 5 a2 out2.length c2),(30,.v (.int .i64 i)),(10,.ptr 10 b 0),(11,.v (.int .i64 (2 * q)))])
          (fun (q,out2,a2,c2) => [.box 10 b [.int .i64 g.1,.int .i64 g.2] ty_api_Span,.own 28 sa (stretches xs).length sc ty_api_Span 2 (prs .i64 (stretches xs)),.own 5 a2 out2.length c2 ty_int 1 (ints .i64 out2)])
          (fun (q,out2,a2,c2) => (q : Int) ≤ g.2 / 2 ∧ out2 = out ++ tieTo g q)
          (fun (q,out2,a2,c2) => (g.2 / 2).toNat - q) (0,out,a',c') ⟨by ((try dsimp only); omega),by simp [tieTo]⟩ (by (repeat ((conv => whnf); refine And.intro (by first | exact rfl | exact vint_eq (by omega) | exact vint_eq (by (dsimp only; omega)) | exact vsl_eq (by omega) | exact vsl_eq (by first | (dsimp only; omega) | (simp; done) | (simp; omega))) ?_)); exact trivial) (.refl _) ?_
        rintro ⟨q,out2,a2,c2⟩ ⟨k1,k2⟩
        dsimp only at k1 k2 ⊢
        have hl2 : out2.length = out.length + q := by rw [k2]; simp [tieTo_length]
        (repeat' ((conv => whnf); first | (refine bcase_prop (fun h => ?_) (fun h => ?_) <;> try (exfalso; omega)) | (refine bcase_nprop (fun h => ?_) (fun h => ?_) <;> try (exfalso; omega)) | (refine bcase_intro (fun h => ?_) (fun h => ?_) <;> (try simp only [Bool.not_eq_true',Bool.not_eq_false',decide_eq_true_eq,decide_eq_false_iff_not,Bool.not_eq_true,Bool.not_eq_false,Decidable.not_not] at h)) | refine And.intro (by first | omega | exact rfl | assumption | exact ⟨rfl,rfl,rfl,rfl,rfl⟩ | exact ⟨rfl,rfl,rfl,rfl⟩ | exact ⟨rfl,by omega⟩ | exact oneAll_of rfl | exact ⟨rfl,oneAll_of rfl⟩ | exact Ref.refl _ | exact Thin.ref (.skip (Thin.refl _)) | exact Thin.ref (.skip (.skip (Thin.refl _))) | exact ⟨rfl,Nat.le_of_ble_eq_true rfl⟩ | ((try unfold maxLen); (try simp only [List.length_nil,List.length_cons,List.length_append]); omega) | (refine ⟨rfl,?_⟩; (try simp only [List.length_nil,List.length_cons,List.length_append]); omega)) ?_ | intro _)); (all_goals (conv => whnf))
        · refine loop_next (q + 1,out2 ++ [g.1 + 2 * (q : Int)],_,_) (by dsimp only; exact ⟨by omega,by rw [k2,tieTo_succ,List.append_assoc]⟩) (by ((try dsimp only); omega)) (by (try simp only [List.length_append,List.length_cons,List.length_nil]); (repeat ((conv => whnf); refine And.intro (by first | exact rfl | exact vint_eq (by omega) | exact vint_eq (by (dsimp only; omega)) | exact vsl_eq (by omega) | exact vsl_eq (by first | (dsimp only; omega) | (simp; done) | (simp; omega))) ?_)); exact trivial) (Thin.ref (.skip (.box rfl (.own rfl rfl (.own (by simp) ints_snoc (.nil _))))))
        · have hq : q = (g.2 / 2).toNat := by omega
          refine loop_next (i + 1,out2,a2,c2) (by dsimp only; exact ⟨by omega,by rw [k2,hnx,h2,hq,tieTo_all]⟩) (by ((try dsimp only); omega)) (by (repeat ((conv => whnf); refine And.intro (by first | exact rfl | exact vint_eq (by omega) | exact vint_eq (by (dsimp only; omega)) | exact vsl_eq (by omega) | exact vsl_eq (by first | (dsimp only; omega) | (simp; done) | (simp; omega))) ?_)); exact trivial) (Thin.ref (.skip (.own rfl rfl (.own rfl rfl (.nil _)))))
      · (repeat' ((conv => whnf); first | (refine bcase_prop (fun h => ?_) (fun h => ?_) <;> try (exfalso; omega)) | (refine bcase_nprop (fun h => ?_) (fun h => ?_) <;> try (exfalso; omega)) | (refine bcase_intro (fun h => ?_) (fun h => ?_) <;> (try simp only [Bool.not_eq_true',Bool.not_eq_false',decide_eq_true_eq,decide_eq_false_iff_not,Bool.not_eq_true,Bool.not_eq_false,Decidable.not_not] at h)) | refine And.intro (by first | omega | exact rfl | assumption | exact ⟨rfl,rfl,rfl,rfl,rfl⟩ | exact ⟨rfl,rfl,rfl,rfl⟩ | exact ⟨rfl,by omega⟩ | exact oneAll_of rfl | exact ⟨rfl,oneAll_of rfl⟩ | exact Ref.refl _ | exact Thin.ref (.skip (Thin.refl _)) | exact Thin.ref (.skip (.skip (Thin.refl _))) | exact ⟨rfl,Nat.le_of_ble_eq_true rfl⟩ | ((try unfold maxLen); (try simp only [List.length_nil,List.length_cons,List.length_append]); omega) | (refine ⟨rfl,?_⟩; (try simp only [List.length_nil,List.length_cons,List.length_append]); omega)) ?_ | intro _)); (all_goals (conv => whnf))
        have ho : out = ties (stretches xs) := by rw [h2,List.take_of_length_le (by omega)]
        subst ho
        exact ⟨a',c',rfl,Thin.ref (.skip (.own rfl rfl (.nil _)))⟩
    · have hc : ∀ w,Calls Tryz.prog fn_keys_Number #[.int .i64 l] w fun x w' => x = .returned (.tuple #[.int .i64 (numF l / 2),.int .u64 (numF l % 2),.bool false]) ∧ Ext w w' := fun w => by
        have := calls_Number l w hl1
        simp only [bitN,firstN,tieF,he,ht,if_true,if_false,decide_false,Bool.and_false] at this; exact this
      generalize hP : pick (fun i => fitsF (xs.getD i 0) (xs.getD (i + 1) 0) l) = P
      have hp : pairsF xs l = P (xs.length - 1) := by rw [← hP]; simp [pairsF,he,ht]
      rw [hp]
      (repeat' ((conv => whnf); first | refine CallK_pure (.v _) (fun w hR => hc w) ?_ | (refine bcase_prop (fun h => ?_) (fun h => ?_) <;> try (exfalso; omega)) | (refine bcase_nprop (fun h => ?_) (fun h => ?_) <;> try (exfalso; omega)) | (refine bcase_intro (fun h => ?_) (fun h => ?_) <;> (try simp only [Bool.not_eq_true',Bool.not_eq_false',decide_eq_true_eq,decide_eq_false_iff_not,Bool.not_eq_true,Bool.not_eq_false,Decidable.not_not] at h)) | refine And.intro (by first | omega | exact rfl | assumption | exact ⟨rfl,rfl,rfl,rfl,rfl⟩ | exact ⟨rfl,rfl,rfl,rfl⟩ | exact ⟨rfl,by omega⟩ | exact oneAll_of rfl | exact ⟨rfl,oneAll_of rfl⟩ | exact Ref.refl _ | exact Thin.ref (.skip (Thin.refl _)) | exact Thin.ref (.skip (.skip (Thin.refl _))) | exact ⟨rfl,Nat.le_of_ble_eq_true rfl⟩ | ((try unfold maxLen); (try simp only [List.length_nil,List.length_cons,List.length_append]); omega) | (refine ⟨rfl,?_⟩; (try simp only [List.length_nil,List.length_cons,List.length_append]); omega)) ?_ | intro _)); (all_goals (conv => whnf))
      refine VC_loop (Nat × Option Addr × Nat) (fun (i,a',c') => [(0,.v (.slice a xs.length c)),(6,.v (.int .i64 (numF l / 2))),(7,.v (.int .u64 (numF l % 2))),(5,.sl 5 a' (P i).length c'),(12,.v (.int .i64 i))])
        (fun (i,a',c') => [.own 5 a' (P i).length c' ty_int 1 (ints .i64 (P i))])
        (fun (i,a',c') => i ≤ xs.length - 1)
        (fun (i,a',c') => xs.length - 1 - i) (0,none,0) (by ((try dsimp only); omega)) (by subst hP; (repeat ((conv => whnf); refine And.intro (by first | exact rfl | exact vint_eq (by omega) | exact vint_eq (by (dsimp only; omega)) | exact vsl_eq (by omega) | exact vsl_eq (by first | (dsimp only; omega) | (simp; done) | (simp; omega))) ?_)); exact trivial) (by subst hP; exact Ref.ownNil 5 _ _) ?_
      rintro ⟨i,a',c'⟩ h1
      dsimp only at h1 ⊢
      have hpl : (P i).length ≤ 1000 := by
        subst hP
        have := pick_length (fun i => fitsF (xs.getD i 0) (xs.getD (i + 1) 0) l) i; omega
      have hnx : P (i + 1) = P i ++ if fitsF (xs.getD i 0) (xs.getD (i + 1) 0) l = true then [(i : Int)] else [] := by subst hP; rfl
      have e1 : ((i : Int) + 1).toNat = i + 1 := by omega
      (repeat' ((conv => whnf); first | refine ⟨_,rdI hx (by omega),?_⟩ | (refine bcase_prop (fun h => ?_) (fun h => ?_) <;> try (exfalso; omega)) | (refine bcase_nprop (fun h => ?_) (fun h => ?_) <;> try (exfalso; omega)) | (refine bcase_intro (fun h => ?_) (fun h => ?_) <;> (try simp only [Bool.not_eq_true',Bool.not_eq_false',decide_eq_true_eq,decide_eq_false_iff_not,Bool.not_eq_true,Bool.not_eq_false,Decidable.not_not] at h)) | refine And.intro (by first | omega | exact rfl | assumption | exact ⟨rfl,rfl,rfl,rfl,rfl⟩ | exact ⟨rfl,rfl,rfl,rfl⟩ | exact ⟨rfl,by omega⟩ | exact oneAll_of rfl | exact ⟨rfl,oneAll_of rfl⟩ | exact Ref.refl _ | exact Thin.ref (.skip (Thin.refl _)) | exact Thin.ref (.skip (.skip (Thin.refl _))) | exact neI hx (by omega) | exact ⟨by omega,by show _ ≤ (64 : Int); omega⟩ | exact bit_ob (hu _) _ | exact ⟨rfl,Nat.le_of_ble_eq_true rfl⟩ | ((try unfold maxLen); (try simp only [List.length_nil,List.length_cons,List.length_append]); omega) | (refine ⟨rfl,?_⟩; (try simp only [List.length_nil,List.length_cons,List.length_append]); omega)) ?_ | intro _)); (all_goals (conv => whnf))
      · rename_i h3 h4 b' a2 c2
        rw [and_one _ _ (hu _).1,Int.toNat_natCast] at h4
        rw [and_one _ _ (hu _).1,e1] at h
        have hf : fitsF (xs.getD i 0) (xs.getD (i + 1) 0) l = true := by rw [fits_eq he ht]; simp only [h4,h,decide_true,decide_false,Bool.not_true,Bool.not_false,Bool.and_self]
        rw [hf,if_pos rfl] at hnx
        exact loop_next (i + 1,a2,c2) (by ((try dsimp only); omega)) (by ((try dsimp only); omega)) (by dsimp only; rw [hnx]; (try simp only [List.length_append,List.length_cons,List.length_nil]); (repeat ((conv => whnf); refine And.intro (by first | exact rfl | exact vint_eq (by omega) | exact vint_eq (by (dsimp only; omega)) | exact vsl_eq (by omega) | exact vsl_eq (by first | (dsimp only; omega) | (simp; done) | (simp; omega))) ?_)); exact trivial) (by dsimp only; rw [hnx]; exact Thin.ref (.skip (.own (by simp) ints_snoc (.nil _))))
      · rename_i h3 h4
        rw [and_one _ _ (hu _).1,Int.toNat_natCast] at h4
        rw [and_one _ _ (hu _).1,e1] at h
        have hf : fitsF (xs.getD i 0) (xs.getD (i + 1) 0) l = false := by rw [fits_eq he ht]; simp only [h4,h,decide_true,decide_false,Bool.not_true,Bool.and_false]
        rw [hf,if_neg (by simp),List.append_nil] at hnx
        exact loop_next (i + 1,a',c') (by ((try dsimp only); omega)) (by ((try dsimp only); omega)) (by dsimp only; rw [hnx]; (repeat ((conv => whnf); refine And.intro (by first | exact rfl | exact vint_eq (by omega) | exact vint_eq (by (dsimp only; omega)) | exact vsl_eq (by omega) | exact vsl_eq (by first | (dsimp only; omega) | (simp; done) | (simp; omega))) ?_)); exact trivial) (by dsimp only; rw [hnx]; exact .refl _)
      · rename_i h3
        rw [and_one _ _ (hu _).1,Int.toNat_natCast] at h
        have hf : fitsF (xs.getD i 0) (xs.getD (i + 1) 0) l = false := by rw [fits_eq he ht]; simp only [h,decide_true,decide_false,Bool.not_true,Bool.and_false,Bool.false_and]
        rw [hf,if_neg (by simp),List.append_nil] at hnx
        exact loop_next (i + 1,a',c') (by ((try dsimp only); omega)) (by ((try dsimp only); omega)) (by dsimp only; rw [hnx]; (repeat ((conv => whnf); refine And.intro (by first | exact rfl | exact vint_eq (by omega) | exact vint_eq (by (dsimp only; omega)) | exact vsl_eq (by omega) | exact vsl_eq (by first | (dsimp only; omega) | (simp; done) | (simp; omega))) ?_)); exact trivial) (by dsimp only; rw [hnx]; exact .refl _)
      · rw [show xs.length - 1 = i from by omega]
        exact ⟨a',c',rfl,Thin.ref (.own rfl rfl (.nil _))⟩
  · have hp : pairsF xs l = [] := by simp [pairsF,he]
    rw [hp]
    have he2 : l < 2 ∨ l % 2 ≠ 0 := by
      by_cases h : l < 2
      · exact .inl h
      · exact .inr fun h' => he (even_t (by omega) h')
    (repeat' ((conv => whnf); first | (refine bcase_prop (fun h => ?_) (fun h => ?_) <;> try (exfalso; omega)) | (refine bcase_nprop (fun h => ?_) (fun h => ?_) <;> try (exfalso; omega)) | (refine bcase_intro (fun h => ?_) (fun h => ?_) <;> (try simp only [Bool.not_eq_true',Bool.not_eq_false',decide_eq_true_eq,decide_eq_false_iff_not,Bool.not_eq_true,Bool.not_eq_false,Decidable.not_not] at h)) | refine And.intro (by first | omega | exact rfl | assumption | exact ⟨rfl,rfl,rfl,rfl,rfl⟩ | exact ⟨rfl,rfl,rfl,rfl⟩ | exact ⟨rfl,by omega⟩ | exact oneAll_of rfl | exact ⟨rfl,oneAll_of rfl⟩ | exact Ref.refl _ | exact Thin.ref (.skip (Thin.refl _)) | exact Thin.ref (.skip (.skip (Thin.refl _))) | exact ⟨rfl,Nat.le_of_ble_eq_true rfl⟩ | ((try unfold maxLen); (try simp only [List.length_nil,List.length_cons,List.length_append]); omega) | (refine ⟨rfl,?_⟩; (try simp only [List.length_nil,List.length_cons,List.length_append]); omega)) ?_ | intro _)); (all_goals (conv => whnf))
    · exact ⟨none,0,rfl,Ref.ownNil 0 _ _⟩
    · exact ⟨none,0,rfl,Ref.ownNil 0 _ _⟩
end Go.Proofs.YtkkhpdkfploodaaGreatDoor
/- More plain facts on pairs of rows: ties,levels that repeat,seams,bits. No condition. -/
namespace Go.Proofs.YtkkhpdkfploodaaGreatDoor
set_option linter.unusedSimpArgs false
theorem block_from (xs : List Int) (i : Nat) : ∀ (m k : Nat),xs.length - k = m → i < k → k ≤ xs.length → (∀ j,i ≤ j → j < k → xs.getD j 0 = xs.getD i 0) → ∃ k',Block xs i k'
  | 0,k,hm,h1,h2,h3 => ⟨k,h1,h2,h3,fun h => by omega⟩
  | m + 1,k,hm,h1,h2,h3 => by
    by_cases h : xs.getD k 0 = xs.getD i 0
    · refine block_from xs i m (k + 1) (by omega) (by omega) (by omega) fun j hj hk => ?_
      rcases Nat.lt_succ_iff_lt_or_eq.1 hk with h9 | rfl
      · exact h3 j hj h9
      · exact h
    · exact ⟨k,h1,h2,h3,fun _ => h⟩
theorem block_ex {xs : List Int} {i : Nat} (h : i < xs.length) : ∃ k,Block xs i k :=
  block_from xs i _ (i + 1) rfl (by omega) (by omega) fun j hj hk => by rw [show j = i from by omega]
theorem str_same (xs : List Int) : ∀ (m i : Nat),xs.length - i ≤ m → ∀ g ∈ strFrom xs i,∀ j : Nat,g.1 ≤ j → (j : Int) < g.1 + g.2 → xs.getD j 0 = xs.getD g.1.toNat 0
  | 0,i,hm,g,hg,j,_,_ => by rw [strFrom_end (by omega)] at hg; cases hg
  | m + 1,i,hm,g,hg,j,h1,h2 => by
    by_cases hi : i < xs.length
    · obtain ⟨k,hB⟩ := block_ex hi
      rw [hB.str,List.mem_append] at hg
      rcases hg with hg | hg
      · split at hg
        · simp only [List.mem_singleton] at hg
          subst hg
          simp only at h1 h2 ⊢
          exact hB.all j (by omega) (by omega)
        · cases hg
      · have := hB.lt
        exact str_same xs m k (by omega) g hg j h1 h2
    · rw [strFrom_end (by omega)] at hg; cases hg
theorem ties_good {xs : List Int} {p : Int} (h : p ∈ ties (stretches xs)) : 0 ≤ p ∧ p + 1 < xs.length ∧ xs.getD p.toNat 0 = xs.getD (p + 1).toNat 0 := by
  simp only [ties,List.mem_flatMap] at h
  obtain ⟨g,hg,hp⟩ := h
  simp only [tieOf,List.mem_map,List.mem_range] at hp
  obtain ⟨q,hq,rfl⟩ := hp
  have h1 := strs_mem (runs xs) 0 (runs_pos xs) g hg
  rw [runs_sum] at h1
  have h2 := str_same xs xs.length 0 (by omega) g (by rw [strFrom_zero]; exact hg)
  have e1 := h2 (g.1 + 2 * (q : Int)).toNat (by omega) (by omega)
  have e2 := h2 (g.1 + 2 * (q : Int) + 1).toNat (by omega) (by omega)
  exact ⟨by omega,by omega,e1.trans e2.symm⟩
end Go.Proofs.YtkkhpdkfploodaaGreatDoor
/- Plain facts for the laws of rounds,seams and pairs that are apart. No condition. -/
namespace Go.Proofs.YtkkhpdkfploodaaGreatDoor
set_option linter.unusedSimpArgs false
set_option linter.unusedVariables false
abbrev pF (xs : List Int) (l : Int) : Nat → Bool := fun i => fitsF (xs.getD i 0) (xs.getD (i + 1) 0) l
theorem pairs_pick {xs : List Int} {l : Int} (ht : tieF l = false) : pairsF xs l = pick (pF xs l) (xs.length - 1) := by
  cases he : evenF l with
  | true =>
    have hn : ¬ numF l = 122 := by unfold tieF at ht; simpa [he] using ht
    unfold pairsF
    rw [if_pos he,if_neg hn]
  | false => rw [pick_none (fun j => by simp [pF,fitsF,he])]; simp [pairsF,he]
theorem pick_split (p : Nat → Bool) (m : Nat) : ∀ n,pick p (m + n) = pick p m ++ (pick (fun i => p (m + i)) n).map fun z => (m : Int) + z
  | 0 => by simp [pick]
  | n + 1 => by
    have ih := pick_split p m n
    rw [← Nat.add_assoc]
    simp only [pick]
    rw [ih,List.map_append,List.append_assoc]
    congr 2
    split
    · simp
    · rfl
theorem getI_append_left {a b : List Int} {i : Nat} (h : i < a.length) : (a ++ b).getD i 0 = a.getD i 0 := by
  simp [List.getD_eq_getElem?_getD,List.getElem?_append,h]
theorem getI_append_right {a b : List Int} {i : Nat} : (a ++ b).getD (a.length + i) 0 = b.getD i 0 := by
  rw [List.getD_eq_getElem?_getD,List.getElem?_append_right (by omega),Nat.add_sub_cancel_left,← List.getD_eq_getElem?_getD]
def seamF (a b : List Int) (l : Int) : List Int :=
  if 0 < a.length ∧ 0 < b.length ∧ fitsF (a.getD (a.length - 1) 0) (b.getD 0 0) l = true then [((a.length - 1 : Nat) : Int)] else []
theorem seams {a b : List Int} {l : Int} (ht : tieF l = false) : pairsF (a ++ b) l = (pairsF a l ++ seamF a b l) ++ (pairsF b l).map fun z => (a.length : Int) + z := by
  rw [pairs_pick ht,pairs_pick ht,pairs_pick ht]
  unfold seamF
  by_cases ha : 0 < a.length
  · by_cases hb : 0 < b.length
    · have e1 : (a ++ b).length - 1 = (a.length - 1) + 1 + (b.length - 1) := by rw [List.length_append]; omega
      rw [e1,pick_split,pick]
      rw [show a.length - 1 + 1 = a.length from by omega]
      congr 1
      · congr 1
        · refine pick_congr fun j hj => ?_
          simp only [pF]
          rw [getI_append_left (by omega),getI_append_left (by omega)]
        · have : pF (a ++ b) l (a.length - 1) = fitsF (a.getD (a.length - 1) 0) (b.getD 0 0) l := by
            simp only [pF]
            rw [getI_append_left (by omega)]
            have := getI_append_right (a := a) (b := b) (i := 0)
            rw [Nat.add_zero] at this
            rw [show a.length - 1 + 1 = a.length from by omega,this]
          rw [this]
          simp [ha,hb]
      · congr 1
        refine pick_congr fun j hj => ?_
        simp only [pF]
        rw [getI_append_right,show a.length + j + 1 = a.length + (j + 1) from by omega,getI_append_right]
    · have : b = [] := List.eq_nil_of_length_eq_zero (by omega)
      subst this
      simp [pick]
  · have : a = [] := List.eq_nil_of_length_eq_zero (by omega)
    subst this
    simp [pick]
def Gap : Int → List Int → Prop
  | _,[] => True
  | o,z :: l => o ≤ z ∧ Gap (z + 2) l
theorem Gap.mono {o o' : Int} (h : o' ≤ o) : ∀ {l : List Int},Gap o l → Gap o' l
  | [],_ => trivial
  | _ :: _,k => ⟨Int.le_trans h k.1,k.2⟩
theorem Gap.append : ∀ {l l' : List Int} {o q : Int},Gap o l → (∀ z ∈ l,z + 2 ≤ q) → o ≤ q → Gap q l' → Gap o (l ++ l')
  | [],l',o,q,_,_,ho,h => Gap.mono ho h
  | z :: l,l',o,q,h,hz,ho,h' => ⟨h.1,Gap.append h.2 (fun z' hz' => hz z' (List.mem_cons_of_mem _ hz')) (hz z List.mem_cons_self) h'⟩
theorem Gap.get : ∀ {l : List Int} {o : Int} {k : Nat},Gap o l → k < l.length → (if k = 0 then o else l.getD (k - 1) 0 + 2) ≤ l.getD k 0
  | z :: l,o,0,h,_ => by simpa using h.1
  | z :: l,o,k + 1,h,hk => by
    have := Gap.get (k := k) h.2 (by simpa using hk)
    simp only [List.getD_cons_succ]
    by_cases h0 : k = 0
    · subst h0; simpa using this
    · simp only [h0,if_false] at this
      simp only [Nat.succ_ne_zero,Nat.add_one_ne_zero,if_false]
      obtain ⟨k,rfl⟩ : ∃ k',k = k' + 1 := ⟨k - 1,by omega⟩
      simpa using this
theorem pick_mem {p : Nat → Bool} : ∀ {n : Nat} {z : Int},z ∈ pick p n → ∃ j : Nat,z = j ∧ j < n ∧ p j = true
  | 0,z,h => by cases h
  | n + 1,z,h => by
    simp only [pick,List.mem_append] at h
    rcases h with h | h
    · obtain ⟨j,h1,h2,h3⟩ := pick_mem h; exact ⟨j,h1,by omega,h3⟩
    · split at h
      · rename_i hp
        simp only [List.mem_singleton] at h
        exact ⟨n,h,by omega,hp⟩
      · cases h
theorem fits_once {x y z l : Int} (ht : tieF l = false) (h : fitsF x y l = true) : fitsF y z l = false := by
  have he : evenF l = true := by
    cases he : evenF l with
    | true => rfl
    | false => simp [fitsF,he] at h
  have hn : ¬ numF l = 122 := by unfold tieF at ht; simpa [he] using ht
  rw [fits_eq he hn] at h ⊢
  simp only [Bool.and_eq_true,decide_eq_true_eq,Bool.not_eq_true',decide_eq_false_iff_not] at h
  simp [h.2]
theorem pick_gap {p : Nat → Bool} (h : ∀ j,p j = true → p (j + 1) = false) : ∀ n,Gap 0 (pick p n) ∧ ∀ z ∈ pick p n,z + 2 ≤ n + (if n = 0 then 0 else if p (n - 1) = true then 1 else 0)
  | 0 => ⟨trivial,fun z hz => by cases hz⟩
  | n + 1 => by
    obtain ⟨h1,h2⟩ := pick_gap h n
    simp only [Nat.add_one_ne_zero,if_false,Nat.add_sub_cancel]
    simp only [pick]
    by_cases hp : p n = true
    · simp only [hp,if_true]
      have hb : ∀ z ∈ pick p n,z + 2 ≤ (n : Int) := fun z hz => by
        have := h2 z hz
        by_cases h0 : n = 0
        · subst h0; simp [pick] at hz
        · have hq : ¬ p (n - 1) = true := fun hq => by
            have := h (n - 1) hq
            rw [show n - 1 + 1 = n from by omega,hp] at this
            cases this
          rw [if_neg h0,if_neg hq] at this
          omega
      refine ⟨Gap.append h1 hb (by omega) ⟨by omega,trivial⟩,fun z hz => ?_⟩
      rcases List.mem_append.1 hz with hz | hz
      · have := hb z hz; omega
      · simp only [List.mem_singleton] at hz; omega
    · rw [if_neg hp,List.append_nil]
      refine ⟨h1,fun z hz => ?_⟩
      have := h2 z hz
      rw [if_neg hp]
      split at this
      · omega
      · split at this <;> omega
theorem tieTo_gap (g : Int × Int) : ∀ q : Nat,Gap g.1 (tieTo g q) ∧ ∀ z ∈ tieTo g q,z + 2 ≤ g.1 + 2 * (q : Int)
  | 0 => ⟨trivial,fun z hz => by simp [tieTo] at hz⟩
  | q + 1 => by
    obtain ⟨h1,h2⟩ := tieTo_gap g q
    rw [tieTo_succ]
    refine ⟨Gap.append h1 h2 (by omega) ⟨by omega,trivial⟩,fun z hz => ?_⟩
    rcases List.mem_append.1 hz with hz | hz
    · have := h2 z hz; omega
    · simp only [List.mem_singleton] at hz; omega
theorem ties_gap : ∀ (l : List (Int × Int)) (o : Int),(∀ g ∈ l,1 ≤ g.2) → Gap o (ties (strs o l))
  | [],_,_ => trivial
  | (y,t) :: r,o,h => by
    have h0 := h (y,t) List.mem_cons_self
    have ih := ties_gap r (o + t) (fun g hg => h g (List.mem_cons_of_mem _ hg))
    simp only at h0
    simp only [strs,ties_append]
    split
    · have e : ties [(o,t)] = tieTo (o,t) (t / 2).toNat := by simp [ties,tieTo_all]; rfl
      rw [e]
      obtain ⟨h1,h2⟩ := tieTo_gap (o,t) (t / 2).toNat
      exact Gap.append h1 (fun z hz => by have := h2 z hz; simp only at this; omega) (by omega) ih
    · simp only [ties,List.flatMap_nil,List.nil_append]
      exact Gap.mono (by omega) ih
theorem pairs_gap (xs : List Int) (l : Int) : Gap 0 (pairsF xs l) := by
  by_cases ht : tieF l = true
  · have he : evenF l = true := by unfold tieF at ht; simp only [Bool.and_eq_true] at ht; exact ht.1
    have hn : numF l = 122 := by unfold tieF at ht; simpa [he] using ht
    simp only [pairsF,he,hn,if_true]
    exact ties_gap _ 0 (runs_pos xs)
  · have ht : tieF l = false := by simpa using ht
    rw [pairs_pick ht]
    exact (pick_gap (p := pF xs l) (fun j hj => fits_once ht hj) _).1
theorem pairs_fit {xs : List Int} {l z : Int} (h : z ∈ pairsF xs l) : 0 ≤ z ∧ z + 1 < xs.length ∧ fitsF (xs.getD z.toNat 0) (xs.getD (z + 1).toNat 0) l = true := by
  by_cases ht : tieF l = true
  · have he : evenF l = true := by unfold tieF at ht; simp only [Bool.and_eq_true] at ht; exact ht.1
    have hn : numF l = 122 := by unfold tieF at ht; simpa [he] using ht
    simp only [pairsF,he,hn,if_true] at h
    obtain ⟨h1,h2,h3⟩ := ties_good h
    refine ⟨h1,h2,?_⟩
    simp only [fitsF,he,hn,if_true,Bool.true_and,decide_eq_true_eq]
    exact h3
  · have ht : tieF l = false := by simpa using ht
    rw [pairs_pick ht] at h
    obtain ⟨j,rfl,h1,h2⟩ := pick_mem h
    refine ⟨by omega,by omega,?_⟩
    rw [Int.toNat_natCast,show ((j : Int) + 1).toNat = j + 1 from by omega]
    exact h2
end Go.Proofs.YtkkhpdkfploodaaGreatDoor
/- The least level that two keys fit: plain facts. No condition. -/
namespace Go.Proofs.YtkkhpdkfploodaaGreatDoor
set_option linter.unusedSimpArgs false
set_option linter.unusedVariables false
def fitC (x y c : Int) : Bool := if c = 122 then decide (x = y) else decide (bitI x (c / 2) = c % 2) && decide (bitI y (c / 2) = 1 - c % 2)
theorem fits_num {x y l : Int} (h : evenF l = true) : fitsF x y l = fitC x y (numF l) := by
  unfold fitsF fitC; rw [h,Bool.true_and]
structure Least (x y c r : Int) : Prop where
  none : r < 0 → ∀ c',c ≤ c' → c' ≤ 122 → fitC x y c' = false
  some : 0 ≤ r → c ≤ r ∧ r ≤ 122 ∧ fitC x y r = true ∧ ∀ c',c ≤ c' → c' < r → fitC x y c' = false
  low : -1 ≤ r
theorem bitI_testN (x b : Nat) : bitI x b = if x.testBit b then 1 else 0 := by
  have h0 : bitI x b = ((x / 2 ^ b % 2 : Nat) : Int) := by
    unfold bitI
    rw [Int.toNat_natCast]
    norm_cast
  rw [h0,Nat.testBit_eq_decide_div_mod_eq]
  by_cases h : x / 2 ^ b % 2 = 1
  · simp [h]
  · have : x / 2 ^ b % 2 = 0 := by omega
    simp [this]
theorem fitC_bit {x y b v : Nat} (hb : b ≤ 60) (hv : v ≤ 1) : fitC x y ((2 * b + v : Nat) : Int) = true ↔ (x.testBit b = decide (v = 1) ∧ y.testBit b = !decide (v = 1)) := by
  have e1 : ((2 * b + v : Nat) : Int) / 2 = (b : Nat) := by omega
  have e2 : ((2 * b + v : Nat) : Int) % 2 = (v : Nat) := by omega
  have e3 : ¬ ((2 * b + v : Nat) : Int) = 122 := by omega
  unfold fitC
  rw [if_neg e3,e1,e2,bitI_testN,bitI_testN]
  rcases (by omega : v = 0 ∨ v = 1) with rfl | rfl <;> cases x.testBit b <;> cases y.testBit b <;> simp
def diffN (x y c : Nat) : Nat :=
  let d := (((x ^^^ y) &&& 2305843009213693951) / 2 ^ (c / 2)) * 2 ^ (c / 2)
  if c % 2 = 1 ∧ x / 2 ^ (c / 2) % 2 = 0 then d ^^^ (d &&& 2 ^ (c / 2)) else d
theorem diff_base (x y c b : Nat) : ((((x ^^^ y) &&& 2305843009213693951) / 2 ^ (c / 2)) * 2 ^ (c / 2)).testBit b = (decide (c / 2 ≤ b) && (decide (b < 61) && (x.testBit b ^^ y.testBit b))) := by
  rw [show (2305843009213693951 : Nat) = 2 ^ 61 - 1 from rfl,Nat.testBit_mul_two_pow,Nat.testBit_div_two_pow,Nat.testBit_and,Nat.testBit_xor,Nat.testBit_two_pow_sub_one]
  by_cases h : c / 2 ≤ b
  · rw [show b - c / 2 + c / 2 = b from by omega]
    simp [h,Bool.and_comm]
  · simp [h]
theorem diff_test {x y c b : Nat} : (diffN x y c).testBit b = true ↔ (b ≤ 60 ∧ x.testBit b ≠ y.testBit b ∧ c ≤ 2 * b + (if x.testBit b then 1 else 0)) := by
  have hx2 : x / 2 ^ (c / 2) % 2 = 0 ↔ x.testBit (c / 2) = false := by
    rw [Nat.testBit_eq_decide_div_mod_eq]
    simp
  unfold diffN
  simp only
  split
  · rename_i hc
    rw [Nat.testBit_xor,Nat.testBit_and,diff_base,Nat.testBit_two_pow]
    have h0 := hx2.1 hc.2
    by_cases hb : b = c / 2
    · subst hb
      simp only [decide_true,Bool.and_true,Bool.xor_self,Bool.false_eq_true,false_iff,not_and,h0,if_false]
      intro _ _; omega
    · have hb' : ¬ c / 2 = b := fun h => hb h.symm
      simp only [hb',decide_false,Bool.and_false,Bool.xor_false,Bool.and_eq_true,decide_eq_true_eq]
      constructor
      · rintro ⟨h1,h2,h3⟩
        exact ⟨by omega,by cases hx : x.testBit b <;> cases hy : y.testBit b <;> simp_all,by split <;> omega⟩
      · rintro ⟨h1,h2,h3⟩
        refine ⟨by split at h3 <;> omega,by omega,by cases hx : x.testBit b <;> cases hy : y.testBit b <;> simp_all⟩
  · rename_i hc
    rw [diff_base]
    simp only [Bool.and_eq_true,decide_eq_true_eq]
    constructor
    · rintro ⟨h1,h2,h3⟩
      refine ⟨by omega,by cases hx : x.testBit b <;> cases hy : y.testBit b <;> simp_all,?_⟩
      split
      · omega
      · rename_i hxb
        by_cases hb : b = c / 2
        · subst hb
          have : ¬ c % 2 = 1 := fun h => hc ⟨h,hx2.2 (by simpa using hxb)⟩
          omega
        · omega
    · rintro ⟨h1,h2,h3⟩
      exact ⟨by split at h3 <;> omega,by omega,by cases hx : x.testBit b <;> cases hy : y.testBit b <;> simp_all⟩
theorem ctz_test {x : Nat} (h0 : 0 < x) (h : x < 2 ^ 64) : x.testBit (Lib.ctz 64 x) = true ∧ Lib.ctz 64 x < 64 ∧ ∀ b,b < Lib.ctz 64 x → x.testBit b = false := by
  obtain ⟨m,hm,hl⟩ := Lib.ctzFrom_spec 64 x h0 h
  have e : Lib.ctz 64 x = Lib.ctzFrom 64 x := by unfold Lib.ctz; rw [if_neg (by omega)]
  rw [e]
  generalize Lib.ctzFrom 64 x = k at hm hl
  subst hm
  refine ⟨?_,hl,fun b hb => ?_⟩
  · rw [Nat.testBit_two_pow_mul]; simp
  · rw [Nat.testBit_two_pow_mul]; simp; omega
def fittingN (x y c : Nat) : Int :=
  if x = y then 122 else if c = 122 then -1 else if diffN x y c = 0 then -1 else
    2 * (Lib.ctz 64 (diffN x y c) : Int) + (if x.testBit (Lib.ctz 64 (diffN x y c)) then 1 else 0)
theorem diff_lt (x y c : Nat) : diffN x y c < 2 ^ 61 := by
  apply Nat.lt_pow_two_of_testBit
  intro i hi
  cases h : (diffN x y c).testBit i with
  | false => rfl
  | true => have := (diff_test.1 h).1; omega
theorem fitC_split {c : Int} (h0 : 0 ≤ c) (h1 : c < 122) : ∃ b v : Nat,c = ((2 * b + v : Nat) : Int) ∧ b ≤ 60 ∧ v ≤ 1 := ⟨(c / 2).toNat,(c % 2).toNat,by omega,by omega,by omega⟩
theorem fitting_least {x y c : Nat} (hc : c ≤ 122) : Least x y c (fittingN x y c) := by
  unfold fittingN
  by_cases hxy : x = y
  · subst hxy
    rw [if_pos rfl]
    refine ⟨fun h => by omega,fun _ => ⟨by omega,by omega,by simp [fitC],fun c' h1 h2 => ?_⟩,by omega⟩
    obtain ⟨b,v,rfl,hb,hv⟩ := fitC_split (by omega) h2
    cases h : fitC (x : Int) x ((2 * b + v : Nat) : Int) with
    | false => rfl
    | true =>
      have := (fitC_bit hb hv).1 h
      rw [this.1] at this
      simp at this
  · rw [if_neg hxy]
    have h122 : fitC (x : Int) y 122 = false := by
      have : ¬ (x : Int) = y := by omega
      simp [fitC,this]
    by_cases h1 : c = 122
    · rw [if_pos h1]
      refine ⟨fun _ c' h2 h3 => ?_,fun h => by omega,by omega⟩
      rw [show c' = 122 from by omega]; exact h122
    · rw [if_neg h1]
      have key : ∀ b v : Nat,b ≤ 60 → v ≤ 1 → c ≤ 2 * b + v → fitC (x : Int) y ((2 * b + v : Nat) : Int) = true → (diffN x y c).testBit b = true ∧ (if x.testBit b then 1 else 0) = v := fun b v hb hv hcb hf => by
        obtain ⟨f1,f2⟩ := (fitC_bit hb hv).1 hf
        have e : (if x.testBit b then 1 else 0) = v := by
          rw [f1]
          rcases (by omega : v = 0 ∨ v = 1) with rfl | rfl <;> simp
        refine ⟨diff_test.2 ⟨hb,by rw [f1,f2]; cases decide (v = 1) <;> simp,by rw [e]; exact hcb⟩,e⟩
      by_cases hd : diffN x y c = 0
      · rw [if_pos hd]
        refine ⟨fun _ c' h2 h3 => ?_,fun h => by omega,by omega⟩
        by_cases h4 : c' = 122
        · rw [h4]; exact h122
        · obtain ⟨b,v,rfl,hb,hv⟩ := fitC_split (c := c') (by omega) (by omega)
          cases hf : fitC (x : Int) y ((2 * b + v : Nat) : Int) with
          | false => rfl
          | true =>
            have := (key b v hb hv (by omega) hf).1
            rw [hd] at this
            simp at this
      · rw [if_neg hd]
        have hlt := diff_lt x y c
        obtain ⟨t1,t2,t3⟩ := ctz_test (x := diffN x y c) (by omega) (by omega)
        generalize Lib.ctz 64 (diffN x y c) = k at t1 t2 t3
        obtain ⟨d1,d2,d3⟩ := diff_test.1 t1
        have hv : (if x.testBit k then 1 else 0) ≤ 1 := by split <;> omega
        have hr : 2 * (k : Int) + (if x.testBit k then 1 else 0) = ((2 * k + (if x.testBit k then 1 else 0) : Nat) : Int) := by split <;> omega
        rw [hr]
        generalize hvv : (if x.testBit k then 1 else 0) = v at *
        refine ⟨fun h => by omega,fun _ => ⟨by omega,by omega,(fitC_bit d1 hv).2 ?_,fun c' h2 h3 => ?_⟩,by omega⟩
        · cases hx : x.testBit k <;> cases hy : y.testBit k <;> rw [hx] at hvv <;> rw [hx,hy] at d2 <;> simp at hvv d2 <;> subst hvv <;> simp
        · obtain ⟨b,v',rfl,hb,hv'⟩ := fitC_split (c := c') (by omega) (by omega)
          cases hf : fitC (x : Int) y ((2 * b + v' : Nat) : Int) with
          | false => rfl
          | true =>
            obtain ⟨k1,k2⟩ := key b v' hb hv' (by omega) hf
            exfalso
            by_cases hbk : b < k
            · rw [t3 b hbk] at k1; cases k1
            · by_cases hbe : b = k
              · subst hbe
                rw [k2] at hvv
                omega
              · omega
structure Aft (low x y r : Int) : Prop where
  zero : r = 0 → ∀ l,low < l → l ≤ low + 246 → fitsF x y l = false
  some : r ≠ 0 → low < r ∧ r ≤ low + 246 ∧ fitsF x y r = true ∧ ∀ l,low < l → l < r → fitsF x y l = false
def srch (p : Int → Bool) : Nat → Int → Int
  | 0,_ => 0
  | n + 1,k => if p k = true then k else srch p n (k + 1)
def afterF (low x y : Int) : Int := srch (fitsF x y) 246 (low + 1)
theorem srch_none {p : Int → Bool} : ∀ {n : Nat} {k : Int},(∀ l,k ≤ l → l < k + n → p l = false) → srch p n k = 0
  | 0,_,_ => rfl
  | n + 1,k,h => by
    simp only [srch]
    rw [if_neg (by rw [h k (by omega) (by omega)]; simp)]
    exact srch_none fun l h1 h2 => h l (by omega) (by omega)
theorem srch_some {p : Int → Bool} {r : Int} (hr : p r = true) : ∀ {n : Nat} {k : Int},k ≤ r → r < k + n → (∀ l,k ≤ l → l < r → p l = false) → srch p n k = r
  | 0,k,h1,h2,_ => by omega
  | n + 1,k,h1,h2,h => by
    simp only [srch]
    by_cases hk : k = r
    · rw [hk,if_pos hr]
    · rw [if_neg (by rw [h k (by omega) (by omega)]; simp)]
      exact srch_some hr (by omega) (by omega) fun l h3 h4 => h l (by omega) h4
theorem Aft.eq {low x y r : Int} (h : Aft low x y r) : r = afterF low x y := by
  unfold afterF
  by_cases h0 : r = 0
  · rw [srch_none fun l h1 h2 => h.zero h0 l (by omega) (by omega)]; exact h0
  · obtain ⟨h1,h2,h3,h4⟩ := h.some h0
    rw [srch_some h3 (by omega) (by omega) fun l h5 h6 => h4 l (by omega) h6]
theorem even_t' {l : Int} (h : 2 ≤ l) (h' : l % 2 = 0) : evenF l = true := by unfold evenF; simp; omega
theorem even_f' {l : Int} (h : l < 2 ∨ l % 2 ≠ 0) : evenF l = false := by unfold evenF; simp; omega
def afterN (low x y : Nat) : Int :=
  let j := low / 2 + 1
  let c := (j - 1) % 123
  if 0 ≤ fittingN x y c then 2 * ((j : Int) + fittingN x y c - c)
  else if 0 ≤ fittingN x y 0 then 2 * ((j : Int) + fittingN x y 0 - c + 123) else 0
theorem after_aft (low x y : Nat) : Aft low x y (afterN low x y) := by
  unfold afterN
  simp only
  generalize hj : low / 2 + 1 = j
  generalize hc : (j - 1) % 123 = c
  have hc1 : c ≤ 122 := by omega
  have L1 := fitting_least (x := x) (y := y) hc1
  have L0 := fitting_least (x := x) (y := y) (c := 0) (by omega)
  generalize fittingN x y c = n1 at L1
  generalize fittingN x y 0 = n0 at L0
  have odd : ∀ l : Int,l % 2 ≠ 0 → fitsF x y l = false := fun l h => by unfold fitsF; rw [even_f' (.inr h)]; rfl
  have num : ∀ d : Int,0 ≤ d → d ≤ 122 → numF (2 * ((j : Int) + d)) = if (c : Int) + d ≤ 122 then c + d else c + d - 123 := fun d h1 h2 => by
    unfold numF; split <;> omega
  have fit : ∀ d : Int,0 ≤ d → d ≤ 122 → fitsF x y (2 * ((j : Int) + d)) = fitC x y (if (c : Int) + d ≤ 122 then c + d else c + d - 123) := fun d h1 h2 => by
    rw [fits_num (even_t' (by omega) (by omega)),num d h1 h2]
  have lev : ∀ l : Int,(low : Int) < l → l ≤ low + 246 → l % 2 = 0 → ∃ d : Int,0 ≤ d ∧ d ≤ 122 ∧ l = 2 * (j + d) := fun l h1 h2 h3 => ⟨l / 2 - j,by omega,by omega,by omega⟩
  by_cases h1 : 0 ≤ n1
  · rw [if_pos h1]
    obtain ⟨a1,a2,a3,a4⟩ := L1.some h1
    refine ⟨fun h => by omega,fun _ => ⟨by omega,by omega,?_,fun l h2 h3 => ?_⟩⟩
    · rw [show 2 * ((j : Int) + n1 - c) = 2 * ((j : Int) + (n1 - c)) from by omega,fit _ (by omega) (by omega),if_pos (by omega),show (c : Int) + (n1 - c) = n1 from by omega]
      exact a3
    · by_cases h4 : l % 2 = 0
      · obtain ⟨d,d1,d2,rfl⟩ := lev l h2 (by omega) h4
        rw [fit d d1 d2,if_pos (by omega)]
        exact a4 _ (by omega) (by omega)
      · exact odd l h4
  · rw [if_neg h1]
    have N1 := L1.none (by omega)
    by_cases h0 : 0 ≤ n0
    · rw [if_pos h0]
      obtain ⟨a1,a2,a3,a4⟩ := L0.some h0
      have hlt : n0 < c := by
        by_cases h : n0 < c
        · exact h
        · rw [N1 n0 (by omega) a2] at a3; cases a3
      refine ⟨fun h => by omega,fun _ => ⟨by omega,by omega,?_,fun l h2 h3 => ?_⟩⟩
      · rw [show 2 * ((j : Int) + n0 - c + 123) = 2 * ((j : Int) + (n0 - c + 123)) from by omega,fit _ (by omega) (by omega),if_neg (by omega),show (c : Int) + (n0 - c + 123) - 123 = n0 from by omega]
        exact a3
      · by_cases h4 : l % 2 = 0
        · obtain ⟨d,d1,d2,rfl⟩ := lev l h2 (by omega) h4
          rw [fit d d1 d2]
          split
          · exact N1 _ (by omega) (by omega)
          · exact a4 _ (by omega) (by omega)
        · exact odd l h4
    · rw [if_neg h0]
      have N0 := L0.none (by omega)
      refine ⟨fun _ l h2 h3 => ?_,fun h => absurd rfl h⟩
      by_cases h4 : l % 2 = 0
      · obtain ⟨d,d1,d2,rfl⟩ := lev l h2 h3 h4
        rw [fit d d1 d2]
        split
        · exact N0 _ (by omega) (by omega)
        · exact N0 _ (by omega) (by omega)
      · exact odd l h4
theorem afterN_eq (low x y : Nat) : afterN low x y = afterF low x y := (after_aft low x y).eq
theorem after_ok (low x y : Nat) : Aft low x y (afterF low x y) := by rw [← afterN_eq]; exact after_aft low x y
theorem after_found {low : Int} {x y : Nat} (h0 : 0 ≤ low) (hx : x < 2 ^ 61) (hy : y < 2 ^ 61) : afterF low x y ≠ 0 := by
  obtain ⟨low,rfl⟩ := Int.eq_ofNat_of_zero_le h0
  intro hz
  have hn := (after_ok low x y).zero hz
  have lev : ∀ c : Int,0 ≤ c → c ≤ 122 → ∃ l : Int,(low : Int) < l ∧ l ≤ low + 246 ∧ evenF l = true ∧ numF l = c := fun c h1 h2 => by
    refine ⟨2 * ((low / 2 + 1 : Nat) + (c - ((low / 2 : Nat) % 123 : Nat)) % 123),by omega,by omega,even_t' (by omega) (by omega),?_⟩
    unfold numF; omega
  have nf : ∀ c : Int,0 ≤ c → c ≤ 122 → fitC x y c = false := fun c h1 h2 => by
    obtain ⟨l,l1,l2,l3,l4⟩ := lev c h1 h2
    rw [← l4,← fits_num l3]
    exact hn l l1 l2
  by_cases hxy : x = y
  · have := nf 122 (by omega) (by omega)
    simp [fitC,hxy] at this
  · apply hxy
    apply Nat.eq_of_testBit_eq
    intro b
    by_cases hb : b ≤ 60
    · cases h1 : x.testBit b <;> cases h2 : y.testBit b <;> try rfl
      · have := nf ((2 * b + 0 : Nat) : Int) (by omega) (by omega)
        rw [(fitC_bit (x := x) (y := y) hb (by omega)).2 ⟨by simp [h1],by simp [h2]⟩] at this
        cases this
      · have := nf ((2 * b + 1 : Nat) : Int) (by omega) (by omega)
        rw [(fitC_bit (x := x) (y := y) hb (by omega)).2 ⟨by simp [h1],by simp [h2]⟩] at this
        cases this
    · rw [Nat.testBit_lt_two_pow (Nat.lt_of_lt_of_le hx (Nat.pow_le_pow_right (by decide) (by omega))),Nat.testBit_lt_two_pow (Nat.lt_of_lt_of_le hy (Nat.pow_le_pow_right (by decide) (by omega)))]
end Go.Proofs.YtkkhpdkfploodaaGreatDoor
