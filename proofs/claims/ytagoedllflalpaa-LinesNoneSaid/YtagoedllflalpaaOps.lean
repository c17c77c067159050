/- Operations in a small form of their own, what each asks and leaves (VI), and that this is sound for the model's operations. Generic over the program: no condition. -/
import Derived.Test.YtagoedllflalpaaCore
namespace Go.EG
open Go.RowKit

inductive X where
  | t (n : Nat)
  | c (v : Value)
  | g (n : Nat)
  | f (n : Nat)

def cX : Operand → X
  | .tmp n => .t n
  | .const v => .c v
  | .global g => .g g
  | .func f => .f f

def ev (e : Env) : X → Option SV
  | .t n => look e n
  | .c v => some (.v v)
  | .g n => some (.v (.pointer (some ⟨n, 0, none⟩)))
  | .f n => some (.v (.func (.func n) #[] #[]))

theorem ev_eval {n : Nat} {e : Env} {a : Act} (h : Agree n e a) {x : Operand} {s : SV} (hx : ev e (cX x) = some s) : a.eval x = s.val := by
  cases x with
  | tmp t => exact h.getD hx
  | const v => simp only [cX, ev, Option.some.injEq] at hx; subst hx; rfl
  | global g => simp only [cX, ev, Option.some.injEq] at hx; subst hx; rfl
  | func f => simp only [cX, ev, Option.some.injEq] at hx; subst hx; rfl

/-! ### Getters -/

def gA (s : Option SV) (K : SV → Prop) : Prop :=
  match s with
  | some s => K s
  | none => False

def gInt : IntKind → Option SV → (Int → Prop) → Prop
  | .i64, some (.v (.int .i64 n)), K => K n
  | .u64, some (.v (.int .u64 n)), K => K n
  | .u8, some (.v (.int .u8 n)), K => K n
  | .u16, some (.v (.int .u16 n)), K => K n
  | .u32, some (.v (.int .u32 n)), K => K n
  | .i32, some (.v (.int .i32 n)), K => K n
  | .i8, some (.v (.int .i8 n)), K => K n
  | .i16, some (.v (.int .i16 n)), K => K n
  | _, _, _ => False

/-- An integer of any kind. -/
def gNum (s : Option SV) (K : Int → Prop) : Prop :=
  match s with
  | some (.v (.int _ n)) => K n
  | _ => False

def gBool (s : Option SV) (K : Bool → Prop) : Prop :=
  match s with
  | some (.v (.bool b)) => K b
  | _ => False

theorem gA_elim {s : Option SV} {K : SV → Prop} (h : gA s K) : ∃ u, s = some u ∧ K u := by
  cases s with
  | none => exact h.elim
  | some u => exact ⟨u, rfl, h⟩
theorem gInt_elim {k : IntKind} {s : Option SV} {K : Int → Prop} (h : gInt k s K) : ∃ n, s = some (.v (.int k n)) ∧ K n := by
  unfold gInt at h
  split at h
  all_goals first | exact ⟨_, rfl, h⟩ | exact h.elim
theorem gNum_elim {s : Option SV} {K : Int → Prop} (h : gNum s K) : ∃ k n, s = some (.v (.int k n)) ∧ K n := by
  unfold gNum at h
  split at h
  · exact ⟨_, _, rfl, h⟩
  · exact h.elim
theorem gBool_elim {s : Option SV} {K : Bool → Prop} (h : gBool s K) : ∃ b, s = some (.v (.bool b)) ∧ K b := by
  unfold gBool at h
  split at h
  · exact ⟨_, rfl, h⟩
  · exact h.elim
theorem gA_mono {s : Option SV} {K K' : SV → Prop} (hk : ∀ u, K u → K' u) (h : gA s K) : gA s K' := by
  obtain ⟨u, rfl, h⟩ := gA_elim h; exact hk _ h
theorem gInt_mono {k : IntKind} {s : Option SV} {K K' : Int → Prop} (hk : ∀ u, K u → K' u) (h : gInt k s K) : gInt k s K' := by
  obtain ⟨u, rfl, h⟩ := gInt_elim h
  cases k <;> exact hk _ h
theorem gNum_mono {s : Option SV} {K K' : Int → Prop} (hk : ∀ u, K u → K' u) (h : gNum s K) : gNum s K' := by
  obtain ⟨_, u, rfl, h⟩ := gNum_elim h; exact hk _ h
theorem gBool_mono {s : Option SV} {K K' : Bool → Prop} (hk : ∀ u, K u → K' u) (h : gBool s K) : gBool s K' := by
  obtain ⟨u, rfl, h⟩ := gBool_elim h; exact hk _ h

/-! ### Integers -/

/-- A result of a signed kind must fit it; of an unsigned kind it wraps. -/
def wrapK : IntKind → Int → (Int → Prop) → Prop
  | .i64, n, K => (-9223372036854775808 ≤ n ∧ n ≤ 9223372036854775807) ∧ K n
  | .i32, n, K => (-2147483648 ≤ n ∧ n ≤ 2147483647) ∧ K n
  | .i16, n, K => (-32768 ≤ n ∧ n ≤ 32767) ∧ K n
  | .i8, n, K => (-128 ≤ n ∧ n ≤ 127) ∧ K n
  | .u64, n, K => K (n % 18446744073709551616)
  | .u32, n, K => K (n % 4294967296)
  | .u16, n, K => K (n % 65536)
  | .u8, n, K => K (n % 256)

/-- The other way round: an unsigned result must fit, a signed one wraps. -/
def flipK : IntKind → Int → (Int → Prop) → Prop
  | .u64, n, K => (0 ≤ n ∧ n ≤ 18446744073709551615) ∧ K n
  | .u32, n, K => (0 ≤ n ∧ n ≤ 4294967295) ∧ K n
  | .u16, n, K => (0 ≤ n ∧ n ≤ 65535) ∧ K n
  | .u8, n, K => (0 ≤ n ∧ n ≤ 255) ∧ K n
  | .i64, n, K => K ((n + 9223372036854775808) % 18446744073709551616 - 9223372036854775808)
  | .i32, n, K => K ((n + 2147483648) % 4294967296 - 2147483648)
  | .i16, n, K => K ((n + 32768) % 65536 - 32768)
  | .i8, n, K => K ((n + 128) % 256 - 128)

theorem wrap_u64' (n : Int) : IntKind.u64.wrap n = n % 18446744073709551616 := by
  unfold IntKind.wrap; simp [IntKind.signed, IntKind.bits]
theorem wrap_u32' (n : Int) : IntKind.u32.wrap n = n % 4294967296 := by
  unfold IntKind.wrap; simp [IntKind.signed, IntKind.bits]
theorem wrap_u16' (n : Int) : IntKind.u16.wrap n = n % 65536 := by
  unfold IntKind.wrap; simp [IntKind.signed, IntKind.bits]
theorem wrap_u8' (n : Int) : IntKind.u8.wrap n = n % 256 := by
  unfold IntKind.wrap; simp [IntKind.signed, IntKind.bits]
theorem wrap_i64' (n : Int) : IntKind.i64.wrap n = (n + 9223372036854775808) % 18446744073709551616 - 9223372036854775808 := by
  simp [IntKind.wrap, IntKind.signed, IntKind.bits]; split <;> omega
theorem wrap_i32' (n : Int) : IntKind.i32.wrap n = (n + 2147483648) % 4294967296 - 2147483648 := by
  simp [IntKind.wrap, IntKind.signed, IntKind.bits]; split <;> omega
theorem wrap_i16' (n : Int) : IntKind.i16.wrap n = (n + 32768) % 65536 - 32768 := by
  simp [IntKind.wrap, IntKind.signed, IntKind.bits]; split <;> omega
theorem wrap_i8' (n : Int) : IntKind.i8.wrap n = (n + 128) % 256 - 128 := by
  simp [IntKind.wrap, IntKind.signed, IntKind.bits]; split <;> omega
theorem wrapK_elim {k : IntKind} {n : Int} {K : Int → Prop} (h : wrapK k n K) : K (k.wrap n) := by
  cases k <;> simp only [wrapK] at h
  · rw [IntWalk.i8_in _ h.1]; exact h.2
  · rw [IntWalk.i16_in _ h.1]; exact h.2
  · rw [IntWalk.i32_in _ h.1]; exact h.2
  · rw [IntWalk.i64_in _ h.1]; exact h.2
  · rw [wrap_u8']; exact h
  · rw [wrap_u16']; exact h
  · rw [wrap_u32']; exact h
  · rw [wrap_u64']; exact h
theorem flipK_elim {k : IntKind} {n : Int} {K : Int → Prop} (h : flipK k n K) : K (k.wrap n) := by
  cases k <;> simp only [flipK] at h
  · rw [wrap_i8']; exact h
  · rw [wrap_i16']; exact h
  · rw [wrap_i32']; exact h
  · rw [wrap_i64']; exact h
  · rw [IntWalk.u8_in _ h.1]; exact h.2
  · rw [IntWalk.u16_in _ h.1]; exact h.2
  · rw [IntWalk.u32_in _ h.1]; exact h.2
  · rw [IntWalk.u64_in _ h.1]; exact h.2
theorem wrapK_mono {k : IntKind} {n : Int} {K K' : Int → Prop} (hk : ∀ u, K u → K' u) (h : wrapK k n K) : wrapK k n K' := by
  cases k <;> simp only [wrapK] at h ⊢ <;> first | exact hk _ h | exact ⟨h.1, hk _ h.2⟩
theorem flipK_mono {k : IntKind} {n : Int} {K K' : Int → Prop} (hk : ∀ u, K u → K' u) (h : flipK k n K) : flipK k n K' := by
  cases k <;> simp only [flipK] at h ⊢ <;> first | exact hk _ h | exact ⟨h.1, hk _ h.2⟩

def hiK : IntKind → Int
  | .i64 => 9223372036854775807
  | .i32 => 2147483647
  | .i16 => 32767
  | .i8 => 127
  | .u64 => 18446744073709551615
  | .u32 => 4294967295
  | .u16 => 65535
  | .u8 => 255

def biK : IntKind → Int
  | .i64 => 64
  | .u64 => 64
  | .i32 => 32
  | .u32 => 32
  | .i16 => 16
  | .u16 => 16
  | .i8 => 8
  | .u8 => 8
theorem biK_eq (k : IntKind) : biK k = (k.bits : Int) := by cases k <;> rfl

theorem wrap_fits {k : IntKind} {n : Int} (h0 : 0 ≤ n) (h1 : n ≤ hiK k) : k.wrap n = n := by
  cases k <;> simp only [hiK] at h1
  · exact IntWalk.i8_in _ (by omega)
  · exact IntWalk.i16_in _ (by omega)
  · exact IntWalk.i32_in _ (by omega)
  · exact IntWalk.i64_in _ (by omega)
  · exact IntWalk.u8_in _ (by omega)
  · exact IntWalk.u16_in _ (by omega)
  · exact IntWalk.u32_in _ (by omega)
  · exact IntWalk.u64_in _ (by omega)

def arF : BinOp → Int → Int → Int
  | .add, p, q => p + q
  | .sub, p, q => p - q
  | .mul, p, q => p * q
  | _, _, _ => 0

def cmpF : BinOp → Int → Int → Bool
  | .eql, p, q => decide (p = q)
  | .neq, p, q => decide (p ≠ q)
  | .lss, p, q => decide (p < q)
  | .leq, p, q => decide (p ≤ q)
  | .gtr, p, q => decide (q < p)
  | .geq, p, q => decide (q ≤ p)
  | _, _, _ => false

def bitF : BinOp → Nat → Nat → Nat
  | .and, p, q => p &&& q
  | .or, p, q => p ||| q
  | .xor, p, q => p ^^^ q
  | .andNot, p, q => p ^^^ (p &&& q)
  | _, _, _ => 0

def isAr : BinOp → Bool
  | .add | .sub | .mul => true
  | _ => false
def isCmp : BinOp → Bool
  | .eql | .neq | .lss | .leq | .gtr | .geq => true
  | _ => false
def isBit : BinOp → Bool
  | .and | .or | .xor | .andNot => true
  | _ => false

theorem run_ar {o : BinOp} (h : isAr o = true) (P : Program) (w : World) (k : IntKind) (p q : Int) (t : TypeId) :
    (binOp o t (.int k p) (.int k q)).run P w = .ok (.int k (k.wrap (arF o p q))) w := by
  cases o <;> simp [isAr] at h <;> simp [binOp, Op.intArith, arF]

theorem run_cmp {o : BinOp} (h : isCmp o = true) (P : Program) (w : World) (k : IntKind) (p q : Int) (t : TypeId) :
    (binOp o t (.int k p) (.int k q)).run P w = .ok (.bool (cmpF o p q)) w := by
  cases o <;> simp [isCmp] at h <;> simp [binOp, Op.intCmp, cmpF]
  all_goals first | rfl | (by_cases hpq : p = q <;> simp [hpq])

theorem bitF_le {o : BinOp} (ho : isBit o = true) {n a b : Nat} (ha : a < 2 ^ n) (hb : b < 2 ^ n) : bitF o a b < 2 ^ n := by
  cases o <;> simp [isBit] at ho
  · exact Nat.and_lt_two_pow _ hb
  · exact Nat.or_lt_two_pow ha hb
  · exact Nat.xor_lt_two_pow ha hb
  · exact Nat.xor_lt_two_pow ha (Nat.and_lt_two_pow _ hb)

theorem bits_pow (k : IntKind) (n : Int) (h0 : 0 ≤ n) (h : n ≤ hiK k) : n.toNat < 2 ^ k.bits := by
  cases k <;> simp only [hiK, IntKind.bits] at * <;> omega

theorem andNot_bv (w : Nat) (a b : BitVec w) : (a &&& ~~~b).toNat = a.toNat ^^^ (a.toNat &&& b.toNat) := by
  rw [← BitVec.toNat_and, ← BitVec.toNat_xor]
  congr 1
  ext i hi
  simp
  cases a[i] <;> cases b[i] <;> rfl

theorem run_bit {o : BinOp} (h : isBit o = true) (P : Program) (w : World) (k : IntKind) (p q : Int) (t : TypeId) (hp : 0 ≤ p) (hp' : p ≤ hiK k) (hq : 0 ≤ q) (hq' : q ≤ hiK k) :
    (binOp o t (.int k p) (.int k q)).run P w = .ok (.int k ((bitF o p.toNat q.toNat : Nat) : Int)) w := by
  have e1 : (BitVec.ofInt k.bits p).toNat = p.toNat := by
    have h1 := bits_pow k p hp hp'
    rw [BitVec.toNat_ofInt]
    rw [Int.emod_eq_of_lt hp (by have : ((p.toNat : Nat) : Int) < ((2 ^ k.bits : Nat) : Int) := by exact_mod_cast h1
                                 omega)]
  have e2 : (BitVec.ofInt k.bits q).toNat = q.toNat := by
    have h1 := bits_pow k q hq hq'
    rw [BitVec.toNat_ofInt]
    rw [Int.emod_eq_of_lt hq (by have : ((q.toNat : Nat) : Int) < ((2 ^ k.bits : Nat) : Int) := by exact_mod_cast h1
                                 omega)]
  have e3 : k.wrap ((bitF o p.toNat q.toNat : Nat) : Int) = ((bitF o p.toNat q.toNat : Nat) : Int) := by
    refine wrap_fits (by omega) ?_
    have hs : ∃ m, (2 ^ m : Int) = hiK k + 1 := by
      cases k
      · exact ⟨7, rfl⟩
      · exact ⟨15, rfl⟩
      · exact ⟨31, rfl⟩
      · exact ⟨63, rfl⟩
      · exact ⟨8, rfl⟩
      · exact ⟨16, rfl⟩
      · exact ⟨32, rfl⟩
      · exact ⟨64, rfl⟩
    obtain ⟨m, hm⟩ := hs
    have hm' : ((2 ^ m : Nat) : Int) = hiK k + 1 := by rw [← hm]; simp
    have := bitF_le h (n := m) (a := p.toNat) (b := q.toNat) (by omega) (by omega)
    omega
  cases o <;> simp [isBit] at h
  case andNot =>
    have e4 := andNot_bv k.bits (BitVec.ofInt k.bits p) (BitVec.ofInt k.bits q)
    rw [e1, e2] at e4
    simp only [bitF] at e3
    simp only [binOp, Op.intBits, bitF, ne_eq, not_true_eq_false, if_false, Sem.run_pure]
    rw [e4, e3]
  all_goals
    simp [binOp, Op.intBits, bitF, e1, e2] at *
    exact e3

theorem run_dv (P : Program) (w : World) (k : IntKind) (p q : Int) (t : TypeId) (hp : 0 ≤ p) (hp' : p ≤ hiK k) (hq : 0 < q) :
    (binOp .quo t (.int k p) (.int k q)).run P w = .ok (.int k (p / q)) w ∧ (binOp .rem t (.int k p) (.int k q)).run P w = .ok (.int k (p % q)) w := by
  have h1 : p.tdiv q = p / q := Int.tdiv_eq_ediv_of_nonneg hp
  have h2 : p.tmod q = p % q := Int.tmod_eq_emod_of_nonneg hp
  have h3 : ¬ q = 0 := by omega
  have h4 : k.wrap (p / q) = p / q := wrap_fits (Int.ediv_nonneg hp (by omega)) (by have := Int.ediv_le_self q hp; omega)
  constructor <;> simp [binOp, Op.intDiv, h3, h1, h2, h4]

theorem run_dvr (P : Program) (w : World) (k : IntKind) (p q : Int) (t : TypeId) (hq : q ≠ 0) :
    (binOp .quo t (.int k p) (.int k q)).run P w = .ok (.int k (k.wrap (p.tdiv q))) w ∧ (binOp .rem t (.int k p) (.int k q)).run P w = .ok (.int k (p.tmod q)) w := by
  constructor <;> simp [binOp, Op.intDiv, hq]

theorem run_shr (P : Program) (w : World) (k yk : IntKind) (p q : Int) (t : TypeId) (hq : 0 ≤ q) (hq' : q ≤ k.bits) :
    (binOp .shr t (.int k p) (.int yk q)).run P w = .ok (.int k (p / ((2 ^ q.toNat : Nat) : Int))) w := by
  have h1 : ¬ q < 0 := by omega
  have h2 : min q.toNat k.bits = q.toNat := by omega
  simp [binOp, Op.shift, h1, h2]
  exact Int.fdiv_eq_ediv_of_nonneg _ (Int.pow_nonneg (by omega))

theorem run_shl (P : Program) (w : World) (k yk : IntKind) (p q : Int) (t : TypeId) (hq : 0 ≤ q) (hq' : q ≤ k.bits) :
    (binOp .shl t (.int k p) (.int yk q)).run P w = .ok (.int k (k.wrap (p * ((2 ^ q.toNat : Nat) : Int)))) w := by
  have h1 : ¬ q < 0 := by omega
  have h2 : min q.toNat k.bits = q.toNat := by omega
  simp [binOp, Op.shift, h1, h2]

end Go.EG
