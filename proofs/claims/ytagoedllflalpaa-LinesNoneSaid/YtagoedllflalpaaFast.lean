/- A second form of what code asks (WC), shaped so that it can be unfolded step by step to a weak head normal form; it is enough for the first (WC_VC). Generic over the program: no condition. -/
import Derived.Test.YtagoedllflalpaaPoint
namespace Go.EG
open Go.RowKit
set_option linter.unusedVariables false

/-- Where the unfolding stops. -/
structure Stop (p : Prop) : Prop where
  h : p

/-- Both ways of a test. -/
def bcase (t : Bool) (A B : Prop) : Prop :=
  match t with
  | true => A
  | false => B
theorem bcase_intro {t : Bool} {A B : Prop} (h1 : t = true → A) (h2 : t = false → B) : bcase t A B := by
  cases t
  · exact h2 rfl
  · exact h1 rfl
theorem bcase_prop {p : Prop} [Decidable p] {A B : Prop} (h1 : p → A) (h2 : ¬ p → B) : bcase (decide p) A B :=
  bcase_intro (fun h => h1 (of_decide_eq_true h)) (fun h => h2 (of_decide_eq_false h))
theorem bcase_nprop {p : Prop} [Decidable p] {A B : Prop} (h1 : ¬ p → A) (h2 : p → B) : bcase (!decide p) A B :=
  bcase_intro (fun h => h1 (by simpa using h)) (fun h => h2 (by simpa using h))
theorem bcase_t {A B : Prop} (h : A) : bcase true A B := h
theorem bcase_f {A B : Prop} (h : B) : bcase false A B := h
theorem bcase_elim {t : Bool} {A B : Prop} (h : bcase t A B) : (t = true → A) ∧ (t = false → B) := by
  cases t
  · exact ⟨fun h => (by cases h), fun _ => h⟩
  · exact ⟨fun _ => h, fun h => (by cases h)⟩

/-- Each value takes one cell. -/
def oneAllB : List Value → Bool
  | [] => true
  | .agg _ :: _ => false
  | .tuple _ :: _ => false
  | _ :: l => oneAllB l
theorem oneAll_of : ∀ {l : List Value}, oneAllB l = true → oneAll l
  | [], _ => trivial
  | v :: l, h => by
    cases v <;> first | (cases h; done) | exact ⟨trivial, oneAll_of (l := l) h⟩

/-! ### Reading rows -/

def atL (xs : List Value) (i : Nat) : Value := (xs[i]?).getD undef
def intOf : Value → Int
  | .int _ n => n
  | _ => 0
def boolOf : Value → Bool
  | .bool b => b
  | _ => false
def strOf : Value → ByteArray
  | .string s => s
  | _ => ByteArray.empty
def ptrOf : Value → Option Addr
  | .pointer p => p
  | _ => none
def slAOf : Value → Option Addr
  | .slice a _ _ => a
  | _ => none
def slNOf : Value → Nat
  | .slice _ n _ => n
  | _ => 0
def slCOf : Value → Nat
  | .slice _ _ c => c
  | _ => 0
def mapOf : Value → Option Nat
  | .map r => r
  | _ => none

def valK : LK → Value → Value
  | .int k, v => .int k (intOf v)
  | .bool, v => .bool (boolOf v)
  | .str, v => .string (strOf v)
  | .ptr, v => .pointer (ptrOf v)
  | .slc, v => .slice (slAOf v) (slNOf v) (slCOf v)
  | .map, v => .map (mapOf v)
  | .raw, v => v

/-- The value read is of its kind. -/
def isK (lk : LK) (xs : List Value) (i : Nat) : Prop := xs[i]? = some (valK lk (atL xs i))

theorem loadK_val {lk : LK} {K : Value → Prop} (v : Value) (h : K (valK lk v)) : loadK lk K := by
  cases lk <;> simp only [loadK, valK] at h ⊢
  · exact ⟨_, h⟩
  · exact ⟨_, h⟩
  · exact ⟨_, h⟩
  · exact ⟨_, h⟩
  · exact ⟨_, _, _, h⟩
  · exact ⟨_, h⟩
  · exact ⟨_, h⟩

def rowK : List LK → List Value → Nat → List Value
  | [], _, _ => []
  | k :: ks, xs, i => valK k (atL xs i) :: rowK ks xs (i + 1)
def isRow : List LK → List Value → Nat → Prop
  | [], _, _ => True
  | k :: ks, xs, i => isK k xs i ∧ isRow ks xs (i + 1)
theorem rowK_length : ∀ (ks : List LK) (xs : List Value) (i : Nat), (rowK ks xs i).length = ks.length
  | [], _, _ => rfl
  | _ :: ks, xs, i => by simp [rowK, rowK_length ks]
theorem isRow_eq : ∀ (ks : List LK) (xs : List Value) (i : Nat), isRow ks xs i → (xs.drop i).take ks.length = rowK ks xs i
  | [], _, _, _ => by simp [rowK]
  | k :: ks, xs, i, h => by
    obtain ⟨h1, h2⟩ := h
    obtain ⟨hi, h1⟩ := List.getElem?_eq_some_iff.1 h1
    rw [List.drop_eq_getElem_cons hi]
    simp only [List.length_cons, List.take_succ_cons, rowK]
    rw [isRow_eq ks xs (i + 1) h2, h1]

def valKK (lk : LK) (v : Value) (K : Value → Prop) : Prop :=
  match lk with
  | .int k => K (.int k (intOf v))
  | .bool => K (.bool (boolOf v))
  | .str => K (.string (strOf v))
  | .ptr => K (.pointer (ptrOf v))
  | .slc => K (.slice (slAOf v) (slNOf v) (slCOf v))
  | .map => K (.map (mapOf v))
  | .raw => K v
theorem valKK_elim {lk : LK} {v : Value} {K : Value → Prop} (h : valKK lk v K) : K (valK lk v) := by cases lk <;> exact h
def rowKK : List LK → List Value → Nat → (List Value → Prop) → Prop
  | [], _, _, K => K []
  | k :: ks, xs, i, K => valKK k (atL xs i) fun v => rowKK ks xs (i + 1) fun l => K (v :: l)
theorem rowKK_elim : ∀ {ks : List LK} {xs : List Value} {i : Nat} {K : List Value → Prop}, rowKK ks xs i K → K (rowK ks xs i)
  | [], _, _, _, h => h
  | k :: ks, xs, i, K, h => by
    have h1 := valKK_elim (K := fun v => rowKK ks xs (i + 1) fun l => K (v :: l)) h
    exact rowKK_elim (K := fun l => K (valK k (atL xs i) :: l)) h1

/-! ### Integers, the result handed on as it is to be shown -/

def arK (o : BinOp) (p q : Int) (K : Int → Prop) : Prop :=
  match o with
  | .add => K (p + q)
  | .sub => K (p - q)
  | .mul => K (p * q)
  | _ => False
theorem arK_elim {o : BinOp} {p q : Int} {K : Int → Prop} (h : arK o p q K) : K (arF o p q) := by
  cases o <;> first | exact h | exact h.elim
def cmpK (o : BinOp) (p q : Int) (K : Bool → Prop) : Prop :=
  match o with
  | .eql => K (decide (p = q))
  | .neq => K (!decide (p = q))
  | .lss => K (decide (p < q))
  | .leq => K (decide (p ≤ q))
  | .gtr => K (decide (q < p))
  | .geq => K (decide (q ≤ p))
  | _ => False
theorem cmpK_elim {o : BinOp} {p q : Int} {K : Bool → Prop} (h : cmpK o p q K) : K (cmpF o p q) := by
  cases o <;> first | exact h | exact h.elim | (simp only [cmpK, cmpF] at h ⊢; rw [decide_not]; exact h)
def bitK (o : BinOp) (p q : Int) (K : Int → Prop) : Prop :=
  match o with
  | .and => K ((p.toNat &&& q.toNat : Nat) : Int)
  | .or => K ((p.toNat ||| q.toNat : Nat) : Int)
  | .xor => K ((p.toNat ^^^ q.toNat : Nat) : Int)
  | .andNot => K ((p.toNat ^^^ (p.toNat &&& q.toNat) : Nat) : Int)
  | _ => False
theorem bitK_elim {o : BinOp} {p q : Int} {K : Int → Prop} (h : bitK o p q K) : K ((bitF o p.toNat q.toNat : Nat) : Int) := by
  cases o <;> first | exact h | exact h.elim
def hiKK (k : IntKind) (K : Int → Prop) : Prop :=
  match k with
  | .i64 => K 9223372036854775807
  | .i32 => K 2147483647
  | .i16 => K 32767
  | .i8 => K 127
  | .u64 => K 18446744073709551615
  | .u32 => K 4294967295
  | .u16 => K 65535
  | .u8 => K 255
theorem hiKK_elim {k : IntKind} {K : Int → Prop} (h : hiKK k K) : K (hiK k) := by cases k <;> exact h
def remK (rem : Bool) (p q : Int) (K : Int → Prop) : Prop :=
  match rem with
  | true => K (p % q)
  | false => K (p / q)
def ngK (ng b : Bool) (K : Bool → Prop) : Prop :=
  match ng with
  | true => K (!b)
  | false => K b
theorem ngK_elim {ng b : Bool} {K : Bool → Prop} (h : ngK ng b K) : K (ngB ng b) := by cases ng <;> exact h
/-- i * sz, spelled shortly. -/
def mulK (i sz : Nat) (K : Nat → Prop) : Prop :=
  match sz with
  | 1 => K i
  | _ => K (i * sz)
theorem mulK_elim {i sz : Nat} {K : Nat → Prop} (h : mulK i sz K) : K (i * sz) := by
  unfold mulK at h
  split at h
  · rw [Nat.mul_one]; exact h
  · exact h
def addK (i j : Nat) (K : Nat → Prop) : Prop :=
  match j with
  | 0 => K i
  | _ => K (i + j)
theorem addK_elim {i j : Nat} {K : Nat → Prop} (h : addK i j K) : K (i + j) := by
  unfold addK at h
  split at h
  · rw [Nat.add_zero]; exact h
  · exact h

/-! ### Lists written out -/

def svK (s : SV) (K : Value → Prop) : Prop :=
  match s with
  | .v x => K x
  | .ptr _ b off => K (.pointer (some ⟨b, off, none⟩))
  | .el a k => K (.pointer (a.map (·.add k)))
  | .sl _ a n c => K (.slice a n c)
  | .ek _ a k => K (.pointer (a.map (·.add k)))
  | .mp _ b => K (.map (some b))
theorem svK_elim {s : SV} {K : Value → Prop} (h : svK s K) : K s.val := by cases s <;> exact h

def copyK : List Value → (List Value → Prop) → Prop
  | [], K => K []
  | v :: l, K => copyK l fun l => K (v :: l)
theorem copyK_elim : ∀ {l : List Value} {K : List Value → Prop}, copyK l K → K l
  | [], _, h => h
  | v :: l, K, h => copyK_elim (l := l) (K := fun l => K (v :: l)) h

def cellsK (s : SV) (K : List Value → Prop) : Prop :=
  match s with
  | .v (.agg cs) => copyK cs.toList K
  | s => svK s fun v => K [v]
theorem cellsK_elim {s : SV} {K : List Value → Prop} (h : cellsK s K) : K (cellsV s) := by
  unfold cellsK at h
  split at h
  · exact copyK_elim h
  · rename_i h1
    have h2 := svK_elim (K := fun v => K [v]) h
    have e : cellsV s = [s.val] := by
      unfold cellsV
      split
      · exact absurd rfl (h1 _)
      · rfl
    rw [e]; exact h2

def takeK : Nat → List Value → (List Value → Prop) → Prop
  | 0, _, K => K []
  | _ + 1, [], K => K []
  | n + 1, v :: l, K => takeK n l fun l => K (v :: l)
theorem takeK_elim : ∀ {n : Nat} {l : List Value} {K : List Value → Prop}, takeK n l K → K (l.take n)
  | 0, _, _, h => by simpa [takeK] using h
  | _ + 1, [], _, h => by simpa [takeK] using h
  | n + 1, v :: l, K, h => by
    have := takeK_elim (K := fun l => K (v :: l)) h
    simpa using this

def spliceK : Nat → List Value → List Value → (List Value → Prop) → Prop
  | off + 1, c :: cs, vs, K => spliceK off cs vs fun l => K (c :: l)
  | 0, cs, [], K => K cs
  | 0, _ :: cs, v :: vs, K => spliceK 0 cs vs fun l => K (v :: l)
  | _, [], _, _ => False
theorem spliceK_elim : ∀ {off : Nat} {cs vs : List Value} {K : List Value → Prop}, spliceK off cs vs K → K (splice cs off vs)
  | off + 1, c :: cs, vs, K, h => by
    have := spliceK_elim (K := fun l => K (c :: l)) h
    simp only [splice, List.take_succ_cons, List.cons_append] at this ⊢
    rw [show off + 1 + vs.length = (off + vs.length) + 1 from by omega, List.drop_succ_cons]
    exact this
  | 0, cs, [], K, h => by
    cases cs <;> simpa [splice, spliceK] using h
  | 0, c :: cs, v :: vs, K, h => by
    have := spliceK_elim (K := fun l => K (v :: l)) h
    simp only [splice, List.take_zero, List.nil_append, List.length_cons, Nat.zero_add, List.drop_succ_cons, List.cons_append] at this ⊢
    exact this
  | 0, [], v :: vs, K, h => h.elim
  | off + 1, [], vs, K, h => h.elim

def fillK : List Value → List (Nat × List Value) → (List Value → Prop) → Prop
  | z, [], K => K z
  | z, (off, vs) :: ps, K => spliceK off z vs fun z' => fillK z' ps K
theorem fillK_elim : ∀ {ps : List (Nat × List Value)} {z : List Value} {K : List Value → Prop}, fillK z ps K → K (fillL z ps)
  | [], _, _, h => h
  | (off, vs) :: ps, z, K, h => by
    have h1 := spliceK_elim (K := fun z' => fillK z' ps K) h
    exact fillK_elim (ps := ps) (z := splice z off vs) h1

def gPsK (e : Env) : List (Nat × Nat × X) → (List (Nat × List Value) → Prop) → Prop
  | [], K => K []
  | (off, sz, x) :: xs, K => gA (ev e x) fun s => cellsK s fun vs => vs.length = sz ∧ gPsK e xs fun l => K ((off, vs) :: l)
theorem gPsK_elim {e : Env} : ∀ {ps : List (Nat × Nat × X)} {K : List (Nat × List Value) → Prop}, gPsK e ps K → gPs e ps K
  | [], _, h => h
  | (off, sz, x) :: xs, K, h => gA_mono (fun s h => by
      have := cellsK_elim (K := fun vs => vs.length = sz ∧ gPsK e xs fun l => K ((off, vs) :: l)) h
      exact ⟨this.1, gPsK_elim this.2⟩) h
theorem gPs_mono {e : Env} : ∀ {ps : List (Nat × Nat × X)} {K K' : List (Nat × List Value) → Prop}, (∀ l, K l → K' l) → gPs e ps K → gPs e ps K'
  | [], _, _, hk, h => hk _ h
  | (off, sz, x) :: xs, K, K', hk, h => gA_mono (fun s h => ⟨h.1, gPs_mono (fun l hl => hk _ hl) h.2⟩) h

def gVs (e : Env) : List X → (List Value → Prop) → Prop
  | [], K => K []
  | x :: xs, K => gA (ev e x) fun s => svK s fun v => gVs e xs fun l => K (v :: l)
theorem gVs_elim {e : Env} : ∀ {xs : List X} {K : List Value → Prop}, gVs e xs K → gAs e xs fun l => K (l.map SV.val)
  | [], _, h => h
  | x :: xs, K, h => gA_mono (fun s h => gVs_elim (svK_elim (K := fun v => gVs e xs fun l => K (v :: l)) h)) h
theorem gAs_mono {e : Env} : ∀ {xs : List X} {K K' : List SV → Prop}, (∀ l, K l → K' l) → gAs e xs K → gAs e xs K'
  | [], _, _, hk, h => hk _ h
  | x :: xs, K, K', hk, h => gA_mono (fun s h => gAs_mono (fun l hl => hk _ hl) h) h

def setBoxK (key : Nat) (cs' : List Value) : List Ent → (List Ent → Prop) → Prop
  | .box k b cs T :: L, K => match Nat.decEq k key with
    | .isTrue _ => K (.box k b cs' T :: L)
    | .isFalse _ => setBoxK key cs' L fun L' => K (.box k b cs T :: L')
  | .own k a n c T sz xs :: L, K => setBoxK key cs' L fun L' => K (.own k a n c T sz xs :: L')
  | .abs k fp ok :: L, K => setBoxK key cs' L fun L' => K (.abs k fp ok :: L')
  | .mapE k b kk m :: L, K => setBoxK key cs' L fun L' => K (.mapE k b kk m :: L')
  | [], K => K []
theorem setBoxK_elim {key : Nat} {cs' : List Value} : ∀ {L : List Ent} {K : List Ent → Prop}, setBoxK key cs' L K → K (setBox key cs' L)
  | .box k b cs T :: L, K, h => by
    simp only [setBoxK] at h
    simp only [setBox]
    split at h
    · rename_i hk _; rw [if_pos hk]; exact h
    · rename_i hk _; rw [if_neg hk]; exact setBoxK_elim (K := fun L' => K (.box k b cs T :: L')) h
  | .own k a n c T sz xs :: L, K, h => setBoxK_elim (K := fun L' => K (.own k a n c T sz xs :: L')) h
  | .abs k fp ok :: L, K, h => setBoxK_elim (K := fun L' => K (.abs k fp ok :: L')) h
  | .mapE k b kk m :: L, K, h => setBoxK_elim (K := fun L' => K (.mapE k b kk m :: L')) h
  | [], _, h => h

def setOwnK (key : Nat) (a' : Option Addr) (n' c' : Nat) (xs' : List Value) : List Ent → (List Ent → Prop) → Prop
  | .own k a n c T sz xs :: L, K => match Nat.decEq k key with
    | .isTrue _ => K (.own k a' n' c' T sz xs' :: L)
    | .isFalse _ => setOwnK key a' n' c' xs' L fun L' => K (.own k a n c T sz xs :: L')
  | .box k b cs T :: L, K => setOwnK key a' n' c' xs' L fun L' => K (.box k b cs T :: L')
  | .abs k fp ok :: L, K => setOwnK key a' n' c' xs' L fun L' => K (.abs k fp ok :: L')
  | .mapE k b kk m :: L, K => setOwnK key a' n' c' xs' L fun L' => K (.mapE k b kk m :: L')
  | [], K => K []
theorem setOwnK_elim {key : Nat} {a' : Option Addr} {n' c' : Nat} {xs' : List Value} : ∀ {L : List Ent} {K : List Ent → Prop}, setOwnK key a' n' c' xs' L K → K (setOwn key a' n' c' xs' L)
  | .own k a n c T sz xs :: L, K, h => by
    simp only [setOwnK] at h
    simp only [setOwn]
    split at h
    · rename_i hk _; rw [if_pos hk]; exact h
    · rename_i hk _; rw [if_neg hk]; exact setOwnK_elim (K := fun L' => K (.own k a n c T sz xs :: L')) h
  | .box k b cs T :: L, K, h => setOwnK_elim (K := fun L' => K (.box k b cs T :: L')) h
  | .abs k fp ok :: L, K, h => setOwnK_elim (K := fun L' => K (.abs k fp ok :: L')) h
  | .mapE k b kk m :: L, K, h => setOwnK_elim (K := fun L' => K (.mapE k b kk m :: L')) h
  | [], _, h => h

def setMapK (key : Nat) (m' : List (Value × Value)) : List Ent → (List Ent → Prop) → Prop
  | .mapE k b kk m :: L, K => match Nat.decEq k key with
    | .isTrue _ => K (.mapE k b kk m' :: L)
    | .isFalse _ => setMapK key m' L fun L' => K (.mapE k b kk m :: L')
  | .own k a n c T sz xs :: L, K => setMapK key m' L fun L' => K (.own k a n c T sz xs :: L')
  | .box k b cs T :: L, K => setMapK key m' L fun L' => K (.box k b cs T :: L')
  | .abs k fp ok :: L, K => setMapK key m' L fun L' => K (.abs k fp ok :: L')
  | [], K => K []
theorem setMapK_elim {key : Nat} {m' : List (Value × Value)} : ∀ {L : List Ent} {K : List Ent → Prop}, setMapK key m' L K → K (setMap key m' L)
  | .mapE k b kk m :: L, K, h => by
    simp only [setMapK] at h
    simp only [setMap]
    split at h
    · rename_i hk _; rw [if_pos hk]; exact h
    · rename_i hk _; rw [if_neg hk]; exact setMapK_elim (K := fun L' => K (.mapE k b kk m :: L')) h
  | .own k a n c T sz xs :: L, K, h => setMapK_elim (K := fun L' => K (.own k a n c T sz xs :: L')) h
  | .box k b cs T :: L, K, h => setMapK_elim (K := fun L' => K (.box k b cs T :: L')) h
  | .abs k fp ok :: L, K, h => setMapK_elim (K := fun L' => K (.abs k fp ok :: L')) h
  | [], _, h => h

/-- The value of a key. -/
def keyV (s : SV) (K : Value → Prop) : Prop :=
  match s with
  | .v (.agg cs) => K (.agg cs)
  | .v (.int k n) => K (.int k n)
  | _ => False
theorem keyV_elim {s : SV} {K : Value → Prop} (h : keyV s K) : K s.val := by
  unfold keyV at h
  split at h <;> first | exact h | exact h.elim

/-- Equality of cells, one after the other. -/
def okCellsB : List Value → List Value → List LK → Bool
  | .int k _ :: xs, .int k' _ :: ys, .int k'' :: ks => decide (k = k'') && decide (k' = k'') && okCellsB xs ys ks
  | .bool _ :: xs, .bool _ :: ys, .bool :: ks => okCellsB xs ys ks
  | [], [], [] => true
  | _, _, _ => false
theorem okCellsB_elim : ∀ {xs ys : List Value} {ks : List LK}, okCellsB xs ys ks = true → okCells xs ys ks
  | .int k _ :: xs, .int k' _ :: ys, .int k'' :: ks, h => by
    simp only [okCellsB, Bool.and_eq_true, decide_eq_true_eq] at h
    exact ⟨h.1, okCellsB_elim h.2⟩
  | .bool _ :: xs, .bool _ :: ys, .bool :: ks, h => okCellsB_elim (xs := xs) (ys := ys) (ks := ks) h
  | [], [], [], _ => trivial
  | [], _ :: _, _, h => by simp [okCellsB] at h
  | [], [], _ :: _, h => by simp [okCellsB] at h
  | x :: xs, [], _, h => by cases x <;> simp [okCellsB] at h
  | x :: xs, y :: ys, [], h => by cases x <;> cases y <;> simp [okCellsB] at h
  | x :: xs, y :: ys, k :: ks, h => by
    cases x <;> cases y <;> cases k <;> first
      | (simp [okCellsB] at h; done)
      | (simp only [okCellsB, Bool.and_eq_true, decide_eq_true_eq] at h; exact ⟨h.1, okCellsB_elim h.2⟩)
      | exact okCellsB_elim (xs := xs) (ys := ys) (ks := ks) h
def eqK : List Value → List Value → (Bool → Prop) → Prop
  | .int _ a :: xs, .int _ b :: ys, K => bcase (decide (a = b)) (eqK xs ys K) (K false)
  | .bool a :: xs, .bool b :: ys, K => bcase (decide (a = b)) (eqK xs ys K) (K false)
  | [], [], K => K true
  | _, _, K => K false
theorem eqK_elim : ∀ {xs ys : List Value} {ks : List LK} {K : Bool → Prop}, okCells xs ys ks → eqK xs ys K → K (eqCells xs ys)
  | .int _ a :: xs, .int _ b :: ys, .int _ :: ks, K, ho, h => by
    simp only [eqCells]
    rcases bcase_elim h with ⟨h1, h2⟩
    by_cases hab : a = b
    · simp only [hab, decide_true, Bool.true_and]
      exact eqK_elim ho.2 (h1 (by simp [hab]))
    · simp only [hab, decide_false, Bool.false_and]
      exact h2 (by simp [hab])
  | .bool a :: xs, .bool b :: ys, .bool :: ks, K, ho, h => by
    simp only [eqCells]
    rcases bcase_elim h with ⟨h1, h2⟩
    by_cases hab : a = b
    · simp only [hab, decide_true, Bool.true_and]
      exact eqK_elim (xs := xs) (ys := ys) (ks := ks) ho (h1 (by simp [hab]))
    · simp only [hab, decide_false, Bool.false_and]
      exact h2 (by simp [hab])
  | [], [], [], K, _, h => h
  | [], _ :: _, _, _, ho, _ => by simp [okCells] at ho
  | [], [], _ :: _, _, ho, _ => by simp [okCells] at ho
  | x :: xs, [], _, _, ho, _ => by cases x <;> simp [okCells] at ho
  | x :: xs, y :: ys, [], _, ho, _ => by cases x <;> cases y <;> simp [okCells] at ho
  | x :: xs, y :: ys, k :: ks, K, ho, h => by
    cases x <;> cases y <;> cases k <;> first
      | (simp [okCells] at ho; done)
      | (simp only [eqCells]
         rcases bcase_elim h with ⟨h1, h2⟩
         rename_i a b
         by_cases hab : a = b
         · simp only [hab, decide_true, Bool.true_and]
           exact eqK_elim (xs := xs) (ys := ys) (ks := ks) (by first | exact ho.2 | exact ho) (h1 (by simp [hab]))
         · simp only [hab, decide_false, Bool.false_and]
           exact h2 (by simp [hab]))
      | (simp only [eqCells]
         rcases bcase_elim h with ⟨h1, h2⟩
         rename_i a _ b _
         by_cases hab : a = b
         · simp only [hab, decide_true, Bool.true_and]
           exact eqK_elim (xs := xs) (ys := ys) (ks := ks) (by first | exact ho.2 | exact ho) (h1 (by simp [hab]))
         · simp only [hab, decide_false, Bool.false_and]
           exact h2 (by simp [hab]))

/-- The elements of what is appended. -/
def gCellsK (w0 : World) (fp0 : List Nat) (L : List Ent) (sz : Nat) (s : SV) (K : Nat → List Value → Prop) : Prop :=
  match s with
  | .sl key a n c => match ownAt key L with
    | some ⟨oa, on, oc, _, osz, oxs⟩ => (oa = a ∧ on = n ∧ oc = c ∧ osz = sz) ∧ K n oxs
    | none => False
  | .v (.slice a n _) => ∃ xs, RdS w0 fp0 L a (n * sz) xs ∧ K n xs
  | _ => False
theorem gCellsK_elim {w0 : World} {fp0 : List Nat} {L : List Ent} {sz : Nat} {s : SV} {K K' : Nat → List Value → Prop} (hk : ∀ m ys, K m ys → K' m ys) (h : gCellsK w0 fp0 L sz s K) : gCells w0 fp0 L sz s K' := by
  unfold gCellsK at h
  unfold gCells
  split at h
  · split at h
    · rename_i ho
      simp only [ho]
      exact ⟨h.1, hk _ _ h.2⟩
    · exact h.elim
  · obtain ⟨xs, h1, h2⟩ := h
    exact ⟨xs, h1, hk _ _ h2⟩
  · exact h.elim

/-! ### Operations -/

section
variable (P : Program) (w0 : World) (fp0 : List Nat)

def WI (i : I) (e : Env) (L : List Ent) (k : SV → List Ent → Prop) : Prop :=
  match i with
  | .mv x => gA (ev e x) fun s => k s L
  | .pick c a b => gBool (ev e c) fun t => gA (ev e a) fun s => gA (ev e b) fun u => bcase t (k s L) (k u L)
  | .ar o kd x y => gInt kd (ev e x) fun p => gInt kd (ev e y) fun q => arK o p q fun n => wrapK kd n fun r => k (.v (.int kd r)) L
  | .arf o kd x y => gInt kd (ev e x) fun p => gInt kd (ev e y) fun q => arK o p q fun n => flipK kd n fun r => k (.v (.int kd r)) L
  | .dv rem kd x y => gInt kd (ev e x) fun p => gInt kd (ev e y) fun q => hiKK kd fun hi => (0 ≤ p ∧ p ≤ hi ∧ 0 < q) ∧ remK rem p q fun r => k (.v (.int kd r)) L
  | .cmp o kd x y => gInt kd (ev e x) fun p => gInt kd (ev e y) fun q => cmpK o p q fun b => k (.v (.bool b)) L
  | .bit o kd x y => gInt kd (ev e x) fun p => gInt kd (ev e y) fun q => hiKK kd fun hi => (0 ≤ p ∧ p ≤ hi ∧ 0 ≤ q ∧ q ≤ hi) ∧ bitK o p q fun r => k (.v (.int kd r)) L
  | .eqb ng x y => gBool (ev e x) fun p => gBool (ev e y) fun q => ngK ng (p == q) fun b => k (.v (.bool b)) L
  | .eqn nk ng x => gA (ev e x) fun s => nilB nk s fun b => ngK ng b fun b => k (.v (.bool b)) L
  | .eqa ng ks x y => gA (ev e x) fun s => gA (ev e y) fun u => match s, u with
    | .v (.agg p), .v (.agg q) => match okCellsB p.toList q.toList ks with
      | true => eqK p.toList q.toList fun b => ngK ng b fun b => k (.v (.bool b)) L
      | false => False
    | _, _ => False
  | .sh left kd x y => gInt kd (ev e x) fun p => gNum (ev e y) fun q => (0 ≤ q ∧ q ≤ biK kd) ∧ match left with
    | true => wrapK kd (p * ((2 ^ q.toNat : Nat) : Int)) fun r => k (.v (.int kd r)) L
    | false => k (.v (.int kd (p / ((2 ^ q.toNat : Nat) : Int)))) L
  | .mm mx kd x y => gInt kd (ev e x) fun p => gInt kd (ev e y) fun q => match mx with
    | true => k (.v (.int kd (max p q))) L
    | false => k (.v (.int kd (min p q))) L
  | .ld lk x => gA (ev e x) fun s => match s with
    | .ptr key b off => match boxAt key L with
      | some (b', cs, _) => b' = b ∧ gV (nth cs off) fun v => k (.v v) L
      | none => loadK lk fun v => Rd w0 fp0 L s [v] ∧ k (.v v) L
    | .ek key a i => match ownAt key L with
      | some ⟨oa, _, _, _, _, oxs⟩ => oa = a ∧ isK lk oxs i ∧ valKK lk (atL oxs i) fun v => k (.v v) L
      | none => False
    | s => loadK lk fun v => Rd w0 fp0 L s [v] ∧ k (.v v) L
  | .lda n ks x => gA (ev e x) fun s => match s with
    | .ptr key b off => match boxAt key L with
      | some (b', cs, _) => (b' = b ∧ off + n ≤ cs.length) ∧ takeK n (cs.drop off) fun vs => k (.v (.agg vs.toArray)) L
      | none => ∃ vs : List Value, vs.length = n ∧ Rd w0 fp0 L s vs ∧ k (.v (.agg vs.toArray)) L
    | .ek key a i => match ownAt key L with
      | some ⟨oa, _, _, _, _, oxs⟩ => oa = a ∧ ks.length = n ∧ isRow ks oxs i ∧ rowKK ks oxs i fun vs => k (.v (.agg vs.toArray)) L
      | none => False
    | s => ∃ vs : List Value, vs.length = n ∧ Rd w0 fp0 L s vs ∧ k (.v (.agg vs.toArray)) L
  | .fa off x => gA (ev e x) fun s => match s with
    | .ptr key b o => addK o off fun o => k (.ptr key b o) L
    | .el a o => a ≠ none ∧ addK o off fun o => k (.el a o) L
    | .ek key a o => okA key a L ∧ addK o off fun o => k (.ek key a o) L
    | .v (.pointer (some ad)) => k (.v (.pointer (some (ad.add off)))) L
    | _ => False
  | .ia sz x y => gA (ev e x) fun s => gNum (ev e y) fun i => match s with
    | .v (.slice a n _) => (0 ≤ i ∧ i < n) ∧ a ≠ none ∧ mulK i.toNat sz fun j => k (.el a j) L
    | .sl key a n _ => (0 ≤ i ∧ i < n) ∧ okA key a L ∧ mulK i.toNat sz fun j => k (.ek key a j) L
    | _ => False
  | .iaa sz len x y => gA (ev e x) fun s => gNum (ev e y) fun i => match s with
    | .v (.pointer (some ad)) => (0 ≤ i ∧ i < len) ∧ mulK i.toNat sz fun j => k (.v (.pointer (some (ad.add j)))) L
    | .ptr key b o => (0 ≤ i ∧ i < len) ∧ k (.ptr key b (o + i.toNat * sz)) L
    | _ => False
  | .app key T sz bytes x y => gA (ev e x) fun s => gA (ev e y) fun u => gCellsK w0 fp0 L sz u fun m ys => oneAll ys ∧ match s with
    | .sl key' a n c => match ownAt key' L with
      | some ⟨oa, on, oc, oT, osz, oxs⟩ => (oa = a ∧ on = n ∧ oc = c ∧ oT = T ∧ osz = sz) ∧ (n + m ≤ maxLen ∧ (n + m) * bytes ≤ 140737488355328) ∧ ∀ a' c', setOwnK key' a' (n + m) c' (oxs ++ ys) L fun L' => k (.sl key' a' (n + m) c') L'
      | none => False
    | .v (.slice none 0 0) => (m ≤ maxLen ∧ m * bytes ≤ 140737488355328) ∧ ∀ a' c', k (.sl key a' m c') (.own key a' m c' T sz ys :: L)
    | _ => False
  | .lku kk ok z x y => gA (ev e x) fun s => gA (ev e y) fun u => keyV u fun u => match s with
    | .mp key b => match mapAt key L with
      | some (b', kk', m) => (b' = b ∧ kk' = kk ∧ keyOk kk u) ∧ Stop ((∀ v, mget m u = some v → k (.v (lkV ok v true)) L) ∧ (mget m u = none → k (.v (lkV ok z false)) L))
      | none => False
    | .v (.map none) => keyOk kk u ∧ k (.v (lkV ok z false)) L
    | _ => False
  | .mup kk x y z => gA (ev e x) fun s => gA (ev e y) fun u => gA (ev e z) fun t => keyV u fun u => svK t fun t => match s with
    | .mp key b => match mapAt key L with
      | some (b', kk', m) => (b' = b ∧ kk' = kk ∧ keyOk kk u) ∧ setMapK key (mset m u t) L fun L' => k (.v undef) L'
      | none => False
    | _ => False
  | .tas T ok z x => gA (ev e x) fun s => match s with
    | .v (.iface T' v) => match Nat.decEq T' T with
      | .isTrue _ => k (.v (lkV ok v true)) L
      | .isFalse _ => ok = true ∧ k (.v (lkV ok z false)) L
    | .v .nilIface => ok = true ∧ k (.v (lkV ok z false)) L
    | _ => False
  | .apz key T sz bytes z x y => gA (ev e x) fun s => gNum (ev e y) fun q => (0 ≤ q ∧ oneAll z) ∧ match s with
    | .sl key' a n c => match ownAt key' L with
      | some ⟨oa, on, oc, oT, osz, oxs⟩ => (oa = a ∧ on = n ∧ oc = c ∧ oT = T ∧ osz = sz) ∧ (n + q.toNat ≤ maxLen ∧ (n + q.toNat) * bytes ≤ 140737488355328) ∧ ∀ a' c', setOwnK key' a' (n + q.toNat) c' (oxs ++ (List.replicate q.toNat z).flatten) L fun L' => k (.sl key' a' (n + q.toNat) c') L'
      | none => False
    | .v (.slice none 0 0) => (q.toNat ≤ maxLen ∧ q.toNat * bytes ≤ 140737488355328) ∧ ∀ a' c', k (.sl key a' q.toNat c') (.own key a' q.toNat c' T sz (List.replicate q.toNat z).flatten :: L)
    | _ => False
  | .slo sz x hi => gA (ev e x) fun s => match s with
    | .sl key a n c => match ownAt key L with
      | some ⟨oa, on, oc, _, osz, oxs⟩ => gOpt e hi n fun h => (oa = a ∧ oc = c ∧ osz = sz ∧ 0 ≤ h ∧ h ≤ on) ∧ setOwnK key a h.toNat c (oxs.take (h.toNat * sz)) L fun L' => k (.sl key a h.toNat c) L'
      | none => False
    | _ => False
  | .call f args => gVs e args fun l => CallK P w0 fp0 f l L k
  | .bld z ps => gPsK e ps fun l => fillK z l fun cs => k (.v (.agg cs.toArray)) L
  | .bsl key T sz n z ps => gPsK e ps fun l => fillK z l fun cs => oneAll cs ∧ ∀ b : Nat, k (.sl key (some ⟨b, 0, none⟩) n n) (.own key (some ⟨b, 0, none⟩) n n T sz cs :: L)
  | .box key T x => gA (ev e x) fun s => cellsK s fun cs => ∀ b : Nat, k (.ptr key b 0) (.box key b cs T :: L)
  | .st n x y => gA (ev e x) fun s => gA (ev e y) fun u => cellsK u fun vs => (vs.length = n ∧ oneAll vs) ∧ match s with
    | .ptr key b off => match boxAt key L with
      | some (b', cs, _) => (b' = b ∧ off + n ≤ cs.length) ∧ spliceK off cs vs fun cs' => setBoxK key cs' L fun L' => k (.v undef) L'
      | none => ∃ L', St w0 fp0 L s vs L' ∧ k (.v undef) L'
    | .ek key a i => match ownAt key L with
      | some ⟨oa, on, oc, _, _, oxs⟩ => (oa = a ∧ i + n ≤ oxs.length) ∧ setOwnK key oa on oc (splice oxs i vs) L fun L' => k (.v undef) L'
      | none => False
    | s => ∃ L', St w0 fp0 L s vs L' ∧ k (.v undef) L'
  | .fls off n x => gA (ev e x) fun s => match s with
    | .v (.agg cs) => off + n ≤ cs.toList.length ∧ takeK n (cs.toList.drop off) fun vs => k (.v (.agg vs.toArray)) L
    | _ => False
  | .apc T sz x y => gA (ev e x) fun s => gA (ev e y) fun u => gCellsK w0 fp0 L sz u fun m ys => oneAll ys ∧ match s with
    | .sl key' a n c => match ownAt key' L with
      | some ⟨oa, on, oc, oT, osz, oxs⟩ => (oa = a ∧ on = n ∧ oc = c ∧ oT = T ∧ osz = sz ∧ 0 < m ∧ n + m ≤ c) ∧ setOwnK key' a (n + m) c (oxs ++ ys) L fun L' => k (.sl key' a (n + m) c) L'
      | none => False
    | _ => False
  | i => VI P w0 fp0 i e L k
end

section
variable {P : Program} {w0 : World} {fp0 : List Nat} {e : Env} {L : List Ent} {k : SV → List Ent → Prop} {i : I}

theorem gCells_mono {sz : Nat} {s : SV} {K K' : Nat → List Value → Prop} (hk : ∀ m ys, K m ys → K' m ys) (h : gCells w0 fp0 L sz s K) : gCells w0 fp0 L sz s K' := by
  unfold gCells at h ⊢
  split at h
  · split at h
    · exact ⟨h.1, hk _ _ h.2⟩
    · exact h
  · obtain ⟨xs, h1, h2⟩ := h
    exact ⟨xs, h1, hk _ _ h2⟩
  · exact h

theorem WI_VI (h : WI P w0 fp0 i e L k) : VI P w0 fp0 i e L k := by
  cases i with
  | mv x => exact h
  | pick c x y => exact gBool_mono (fun t h => gA_mono (fun s h => gA_mono (fun u h => bcase_elim h) h) h) h
  | ar o kd x y => exact gInt_mono (fun p h => gInt_mono (fun q h => arK_elim h) h) h
  | arf o kd x y => exact gInt_mono (fun p h => gInt_mono (fun q h => arK_elim h) h) h
  | dv rem kd x y =>
    refine gInt_mono (fun p h => gInt_mono (fun q h => ?_) h) h
    have h := hiKK_elim (K := fun hi => (0 ≤ p ∧ p ≤ hi ∧ 0 < q) ∧ remK rem p q fun r => k (.v (.int kd r)) L) h
    refine ⟨h.1, ?_⟩
    cases rem <;> exact h.2
  | cmp o kd x y => exact gInt_mono (fun p h => gInt_mono (fun q h => cmpK_elim (K := fun b => k (.v (.bool b)) L) h) h) h
  | bit o kd x y =>
    refine gInt_mono (fun p h => gInt_mono (fun q h => ?_) h) h
    have h := hiKK_elim (K := fun hi => (0 ≤ p ∧ p ≤ hi ∧ 0 ≤ q ∧ q ≤ hi) ∧ bitK o p q fun r => k (.v (.int kd r)) L) h
    exact ⟨h.1, bitK_elim (K := fun r => k (.v (.int kd r)) L) h.2⟩
  | eqb ng x y => exact gBool_mono (fun p h => gBool_mono (fun q h => ngK_elim (K := fun b => k (.v (.bool b)) L) h) h) h
  | eqn nk ng x =>
    refine gA_mono (fun s h => ?_) h
    unfold nilB at h ⊢
    split at h <;> first | exact h.elim | exact ngK_elim (K := fun b => k (.v (.bool b)) L) h
  | eqa ng ks x y =>
    refine gA_mono (fun s h => gA_mono (fun u h => ?_) h) h
    split at h
    · split at h
      · rename_i hb
        have ho := okCellsB_elim hb
        exact ⟨ho, ngK_elim (K := fun b => k (.v (.bool b)) L) (eqK_elim (K := fun b => ngK ng b fun b => k (.v (.bool b)) L) ho h)⟩
      · exact h.elim
    · exact h.elim
  | sh left kd x y => exact h
  | mm mx kd x y =>
    refine gInt_mono (fun p h => gInt_mono (fun q h => ?_) h) h
    cases mx
    · have e1 : min p q = if q < p then q else p := by split <;> omega
      simp only at h ⊢
      rw [← e1]; exact h
    · have e1 : max p q = if q > p then q else p := by split <;> omega
      simp only at h ⊢
      rw [← e1]; exact h
  | ld lk x =>
    refine gA_mono (fun s h => ?_) h
    split at h
    · exact h
    · split at h
      · rename_i ho
        simp only [ho]
        exact ⟨h.1, loadK_val _ ⟨h.2.1, valKK_elim (K := fun v => k (.v v) L) h.2.2⟩⟩
      · exact h.elim
    · rename_i h1 h2
      split
      · exact absurd rfl (h1 _ _ _)
      · exact absurd rfl (h2 _ _ _)
      · exact h
  | lda n ks x =>
    refine gA_mono (fun s h => ?_) h
    split at h
    · split at h
      · rename_i hb
        simp only [hb]
        exact ⟨h.1, takeK_elim (K := fun vs => k (.v (.agg vs.toArray)) L) h.2⟩
      · rename_i hb
        simp only [hb]
        exact h
    · split at h
      · rename_i ho
        simp only [ho]
        obtain ⟨h1, rfl, h3, h4⟩ := h
        exact ⟨h1, _, rowK_length _ _ _, isRow_eq _ _ _ h3, rowKK_elim (K := fun vs => k (.v (.agg vs.toArray)) L) h4⟩
      · exact h.elim
    · rename_i h1 h2
      split
      · exact absurd rfl (h1 _ _ _)
      · exact absurd rfl (h2 _ _ _)
      · exact h
  | fa off x =>
    refine gA_mono (fun s h => ?_) h
    split at h
    · exact addK_elim (K := fun o => k (.ptr _ _ o) L) h
    · exact ⟨h.1, addK_elim (K := fun o => k (.el _ o) L) h.2⟩
    · exact ⟨h.1, addK_elim (K := fun o => k (.ek _ _ o) L) h.2⟩
    · exact h
    · exact h.elim
  | ia sz x y =>
    refine gA_mono (fun s h => gNum_mono (fun q h => ?_) h) h
    split at h
    · exact ⟨h.1, h.2.1, mulK_elim (K := fun j => k (.el _ j) L) h.2.2⟩
    · exact ⟨h.1, h.2.1, mulK_elim (K := fun j => k (.ek _ _ j) L) h.2.2⟩
    · exact h.elim
  | iaa sz len x y =>
    refine gA_mono (fun s h => gNum_mono (fun q h => ?_) h) h
    split at h
    · exact ⟨h.1, mulK_elim (K := fun j => k (.v (.pointer (some (Addr.add _ j)))) L) h.2⟩
    · exact h
    · exact h.elim
  | app key T sz bytes x y =>
    refine gA_mono (fun s h => gA_mono (fun u h => gCellsK_elim (fun m ys h => ⟨h.1, ?_⟩) h) h) h
    have h := h.2
    split at h
    · split at h
      · rename_i ho
        simp only [ho]
        exact ⟨h.1, h.2.1, fun a' c' => setOwnK_elim (K := fun L' => k (.sl _ a' _ c') L') (h.2.2 a' c')⟩
      · exact h.elim
    · exact h
    · exact h.elim
  | lku kk ok z x y =>
    refine gA_mono (fun s h => gA_mono (fun u h => ?_) h) h
    have h := keyV_elim h
    split at h
    · split at h
      · rename_i hm
        simp only [hm]
        exact ⟨h.1, h.2.h⟩
      · exact h.elim
    · exact h
    · exact h.elim
  | mup kk x y z =>
    refine gA_mono (fun s h => gA_mono (fun u h => gA_mono (fun t h => ?_) h) h) h
    have h := svK_elim (keyV_elim h)
    split at h
    · split at h
      · rename_i hm
        simp only [hm]
        exact ⟨h.1, setMapK_elim (K := fun L' => k (.v undef) L') h.2⟩
      · exact h.elim
    · exact h.elim
  | tas T ok z x =>
    refine gA_mono (fun s h => ?_) h
    split at h
    · split at h
      · rename_i hT _
        exact ⟨fun _ => h, fun hn => absurd hT hn⟩
      · rename_i hT _
        exact ⟨fun hn => absurd hn hT, fun _ => h⟩
    · exact h
    · exact h.elim
  | apz key T sz bytes z x y =>
    refine gA_mono (fun s h => gNum_mono (fun q h => ⟨h.1, ?_⟩) h) h
    have h := h.2
    split at h
    · split at h
      · rename_i ho
        simp only [ho]
        exact ⟨h.1, h.2.1, fun a' c' => setOwnK_elim (K := fun L' => k (.sl _ a' _ c') L') (h.2.2 a' c')⟩
      · exact h.elim
    · exact h
    · exact h.elim
  | fls off n x =>
    refine gA_mono (fun s h => ?_) h
    split at h
    · exact ⟨h.1, takeK_elim (K := fun vs => k (.v (.agg vs.toArray)) L) h.2⟩
    · exact h.elim
  | apc T sz x y =>
    refine gA_mono (fun s h => gA_mono (fun u h => gCellsK_elim (fun m ys h => ⟨h.1, ?_⟩) h) h) h
    have h := h.2
    split at h
    · split at h
      · rename_i ho
        simp only [ho]
        exact ⟨h.1, setOwnK_elim (K := fun L' => k (.sl _ _ _ _) L') h.2⟩
      · exact h.elim
    · exact h.elim
  | slo sz x hi =>
    refine gA_mono (fun s h => ?_) h
    split at h
    · split at h
      · rename_i ho
        simp only [ho]
        revert h
        cases hi with
        | none => intro h; exact ⟨h.1, setOwnK_elim (K := fun L' => k (.sl _ _ _ _) L') h.2⟩
        | some y => intro h; exact gNum_mono (fun q h => ⟨h.1, setOwnK_elim (K := fun L' => k (.sl _ _ _ _) L') h.2⟩) h
      · exact h.elim
    · exact h.elim
  | call f args => exact gVs_elim (K := fun l => CallK P w0 fp0 f l L k) h
  | bld z ps => exact gPs_mono (fun l h => fillK_elim (K := fun cs => k (.v (.agg cs.toArray)) L) h) (gPsK_elim h)
  | bsl key T sz n z ps => exact gPs_mono (fun l h => fillK_elim (K := fun cs => oneAll cs ∧ ∀ b : Nat, k (.sl key (some ⟨b, 0, none⟩) n n) (.own key (some ⟨b, 0, none⟩) n n T sz cs :: L)) h) (gPsK_elim h)
  | box key T x => exact gA_mono (fun s h => cellsK_elim (K := fun cs => ∀ b : Nat, k (.ptr key b 0) (.box key b cs T :: L)) h) h
  | st n x y =>
    refine gA_mono (fun s h => gA_mono (fun u h => ?_) h) h
    have h := cellsK_elim h
    refine ⟨h.1, ?_⟩
    have h := h.2
    split at h
    · split at h
      · rename_i hb
        simp only [hb]
        exact ⟨h.1, setBoxK_elim (K := fun L' => k (.v undef) L') (spliceK_elim (K := fun cs' => setBoxK _ cs' L fun L' => k (.v undef) L') h.2)⟩
      · rename_i hb
        simp only [hb]
        exact h
    · split at h
      · rename_i ho
        simp only [ho]
        exact ⟨h.1, setOwnK_elim (K := fun L' => k (.v undef) L') h.2⟩
      · exact h.elim
    · rename_i h1 h2
      split
      · exact absurd rfl (h1 _ _ _)
      · exact absurd rfl (h2 _ _ _)
      · exact h
  | _ => exact h

end
end Go.EG
