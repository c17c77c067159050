/- The operations' small form: what each asks of the symbolic state and hands on (VI). Generic over the program: no condition. -/
import Derived.Test.YtagoedllflalpaaOps
namespace Go.EG
open Go.RowKit

def ngB : Bool → Bool → Bool
  | true, b => !b
  | false, b => b

def loadK : LK → (Value → Prop) → Prop
  | .int k, K => ∃ n : Int, K (.int k n)
  | .bool, K => ∃ b : Bool, K (.bool b)
  | .str, K => ∃ s : ByteArray, K (.string s)
  | .ptr, K => ∃ p : Option Addr, K (.pointer p)
  | .slc, K => ∃ (a : Option Addr) (n c : Nat), K (.slice a n c)
  | .map, K => ∃ r : Option Nat, K (.map r)
  | .raw, K => ∃ v : Value, K v

theorem loadK_elim {lk : LK} {K : Value → Prop} (h : loadK lk K) : ∃ v, K v := by
  cases lk <;> simp only [loadK] at h
  · obtain ⟨_, h⟩ := h; exact ⟨_, h⟩
  · obtain ⟨_, h⟩ := h; exact ⟨_, h⟩
  · obtain ⟨_, h⟩ := h; exact ⟨_, h⟩
  · obtain ⟨_, h⟩ := h; exact ⟨_, h⟩
  · obtain ⟨_, _, _, h⟩ := h; exact ⟨_, h⟩
  · obtain ⟨_, h⟩ := h; exact ⟨_, h⟩
  · exact h
theorem loadK_mono {lk : LK} {K K' : Value → Prop} (hk : ∀ v, K v → K' v) (h : loadK lk K) : loadK lk K' := by
  cases lk <;> simp only [loadK] at h ⊢
  · obtain ⟨_, h⟩ := h; exact ⟨_, hk _ h⟩
  · obtain ⟨_, h⟩ := h; exact ⟨_, hk _ h⟩
  · obtain ⟨_, h⟩ := h; exact ⟨_, hk _ h⟩
  · obtain ⟨_, h⟩ := h; exact ⟨_, hk _ h⟩
  · obtain ⟨_, _, _, h⟩ := h; exact ⟨_, _, _, hk _ h⟩
  · obtain ⟨_, h⟩ := h; exact ⟨_, hk _ h⟩
  · obtain ⟨_, h⟩ := h; exact ⟨_, hk _ h⟩

/-- Kinds of types that are compared with nil. -/
inductive NK where
  | ptr | ifc | slc | map | fn

def nilB : NK → SV → (Bool → Prop) → Prop
  | .ptr, .v (.pointer p), K => K p.isNone
  | .ptr, .ptr .., K => K false
  | .ptr, .el a _, K => K a.isNone
  | .ptr, .ek _ a _, K => K a.isNone
  | .ifc, .v .nilIface, K => K true
  | .ifc, .v (.iface _ _), K => K false
  | .slc, .v (.slice a _ _), K => K a.isNone
  | .slc, .sl _ a _ _, K => K a.isNone
  | .map, .v (.map r), K => K r.isNone
  | .fn, .v .nilFunc, K => K true
  | .fn, .v (.func ..), K => K false
  | _, _, _ => False

/-- The cells of a value. -/
def cellsV : SV → List Value
  | .v (.agg cs) => cs.toList
  | s => [s.val]

def oneV : Value → Prop
  | .agg _ => False
  | .tuple _ => False
  | _ => True
def oneAll : List Value → Prop
  | [] => True
  | v :: l => oneV v ∧ oneAll l

theorem oneV_iff {v : Value} (h : oneV v) : v.oneCell' = true := by cases v <;> first | rfl | exact h.elim
theorem oneAll_iff : ∀ {l : List Value}, oneAll l → ∀ v ∈ l, v.oneCell' = true
  | [], _, v, hv => by cases hv
  | _ :: _, h, v, hv => by
    rcases List.mem_cons.1 hv with rfl | hv
    · exact oneV_iff h.1
    · exact oneAll_iff h.2 v hv

def nth : List Value → Nat → Option Value
  | [], _ => none
  | v :: _, 0 => some v
  | _ :: l, n + 1 => nth l n
theorem nth_eq : ∀ (l : List Value) (n : Nat), nth l n = l[n]?
  | [], n => by simp [nth]
  | _ :: _, 0 => by simp [nth]
  | _ :: l, n + 1 => by simp [nth, nth_eq l n]

def gV (v : Option Value) (K : Value → Prop) : Prop :=
  match v with
  | some v => K v
  | none => False
theorem gV_elim {s : Option Value} {K : Value → Prop} (h : gV s K) : ∃ u, s = some u ∧ K u := by
  cases s with
  | none => exact h.elim
  | some u => exact ⟨u, rfl, h⟩

/-- vs written over cs from off on. -/
def splice (cs : List Value) (off : Nat) (vs : List Value) : List Value := cs.take off ++ vs ++ cs.drop (off + vs.length)
theorem splice_length {cs vs : List Value} {off : Nat} (h : off + vs.length ≤ cs.length) : (splice cs off vs).length = cs.length := by
  simp [splice]; omega

/-- A list of operands. -/
def gAs (e : Env) : List X → (List SV → Prop) → Prop
  | [], K => K []
  | x :: xs, K => gA (ev e x) fun s => gAs e xs fun l => K (s :: l)

def gPs (e : Env) : List (Nat × Nat × X) → (List (Nat × List Value) → Prop) → Prop
  | [], K => K []
  | (off, sz, x) :: xs, K => gA (ev e x) fun s => (cellsV s).length = sz ∧ gPs e xs fun l => K ((off, cellsV s) :: l)

def fillL (z : List Value) : List (Nat × List Value) → List Value
  | [] => z
  | (off, vs) :: ps => fillL (splice z off vs) ps

def eqCells : List Value → List Value → Bool
  | .int _ a :: xs, .int _ b :: ys => decide (a = b) && eqCells xs ys
  | .bool a :: xs, .bool b :: ys => decide (a = b) && eqCells xs ys
  | [], [] => true
  | _, _ => false
/-- Equality of two keys. -/
def keyEq : Value → Value → Bool
  | .int _ a, .int _ b => decide (a = b)
  | .agg p, .agg q => eqCells p.toList q.toList
  | _, _ => false
def mget : List (Value × Value) → Value → Option Value
  | [], _ => none
  | (k, v) :: m, x => if keyEq x k then some v else mget m x
/-- A map's entries behind an update. -/
def mset : List (Value × Value) → Value → Value → List (Value × Value)
  | [], x, v => [(x, v)]
  | (k, u) :: m, x, v => if keyEq x k then (x, v) :: m else (k, u) :: mset m x v
def lkK (o : Option Value) (A : Value → Prop) (B : Prop) : Prop := (∀ v, o = some v → A v) ∧ (o = none → B)
def lkV (ok : Bool) (v : Value) (b : Bool) : Value :=
  match ok with
  | true => .tuple #[v, .bool b]
  | false => v

inductive I where
  | mv (x : X)
  | pick (c a b : X)
  | ar (o : BinOp) (k : IntKind) (x y : X)
  | arf (o : BinOp) (k : IntKind) (x y : X)
  | dv (rem : Bool) (k : IntKind) (x y : X)
  | dvr (rem : Bool) (k : IntKind) (x y : X)
  | cmp (o : BinOp) (k : IntKind) (x y : X)
  | sh (left : Bool) (k : IntKind) (x y : X)
  | bit (o : BinOp) (k : IntKind) (x y : X)
  | eqb (neg : Bool) (x y : X)
  | eqs (neg : Bool) (x y : X)
  | eqn (nk : NK) (neg : Bool) (x : X)
  | eqa (neg : Bool) (ks : List LK) (x y : X)
  | eqp (neg : Bool) (x y : X)
  | not (x : X)
  | neg (k : IntKind) (x : X)
  | cv (k : IntKind) (x : X)
  | cvf (k : IntKind) (x : X)
  | ext (x : X) (i : Nat)
  | bld (z : List Value) (ps : List (Nat × Nat × X))
  | bsl (key T sz n : Nat) (z : List Value) (ps : List (Nat × Nat × X))
  | alc (key T : Nat) (z : List Value)
  | box (key T : Nat) (x : X)
  | ld (lk : LK) (x : X)
  | lda (n : Nat) (ks : List LK) (x : X)
  | st (n : Nat) (x y : X)
  | nil (x : X)
  | fa (off : Nat) (x : X)
  | ia (sz : Nat) (x y : X)
  | iaa (sz len : Nat) (x y : X)
  | lens (x : X)
  | lent (x : X)
  | mm (max : Bool) (k : IntKind) (x y : X)
  | app (key T sz bytes : Nat) (x y : X)
  | mks (key T sz bytes : Nat) (z : List Value) (x y : X)
  | mki (T : Nat) (x : X)
  | mkf (fn : Fn) (first captured : List X)
  | call (f : Nat) (args : List X)
  | cald (x : X) (args : List X)
  | slc (sz : Nat) (x : X) (lo hi : Option X)
  | slo (sz : Nat) (x : X) (hi : Option X)
  | apz (key T sz bytes : Nat) (z : List Value) (x y : X)
  | fld (off : Nat) (lk : LK) (x : X)
  | fls (off n : Nat) (x : X)
  | cvs (x : X)
  | apc (T sz : Nat) (x y : X)
  | mkm (key : Nat) (kk : KK) (hint : Option X)
  | lku (kk : KK) (ok : Bool) (z : Value) (x y : X)
  | mup (kk : KK) (x y z : X)
  | tas (T : Nat) (ok : Bool) (z : Value) (x : X)
  | raw (o : Oper)

section
variable (P : Program) (w0 : World) (fp0 : List Nat)

/-- The cells cs are read behind the pointer s. -/
def Rd (L : List Ent) (s : SV) (cs : List Value) : Prop :=
  ∀ w, R w0 fp0 L w → ∃ b off, s.val = .pointer (some ⟨b, off, none⟩) ∧ ∀ j v, cs[j]? = some v → w.cell? ⟨b, off + j, none⟩ = some v

/-- The cells of the slice a, n elements of sz cells, are xs. -/
def RdS (L : List Ent) (a : Option Addr) (len : Nat) (xs : List Value) : Prop :=
  len = xs.length ∧ (xs = [] ∨ ∀ w, R w0 fp0 L w → ∃ b off, a = some ⟨b, off, none⟩ ∧ ∀ j v, xs[j]? = some v → w.cell? ⟨b, off + j, none⟩ = some v)

/-- What behind a store is left. -/
def St (L : List Ent) (s : SV) (vs : List Value) (L' : List Ent) : Prop :=
  ∀ w, R w0 fp0 L w → ∃ b off cur T, s.val = .pointer (some ⟨b, off, none⟩) ∧ w.heap[b]? = some (.cells cur T (0, 0)) ∧ off + vs.length ≤ cur.size ∧ R w0 fp0 L' (w.setRow b (splice cur.toList off vs).toArray)

def CallK (f : FuncId) (args : List Value) (L : List Ent) (k : SV → List Ent → Prop) : Prop :=
  ∀ w, R w0 fp0 L w → Calls P f args.toArray w fun e w' => ∃ v s L', e = .returned v ∧ s.val = v ∧ R w0 fp0 L' w' ∧ k s L'

def okFn (f : FuncId) : Bool :=
  match P.funcs[f]? with
  | some fn => fn.name != "runtime.NumGoroutine" && fn.body.isSome
  | none => false

/-- The elements of what is appended. -/
def gCells (L : List Ent) (sz : Nat) (s : SV) (K : Nat → List Value → Prop) : Prop :=
  match s with
  | .sl key a n c => match ownAt key L with
    | some o => (o.a = a ∧ o.n = n ∧ o.c = c ∧ o.sz = sz) ∧ K n o.xs
    | none => False
  | .v (.slice a n _) => ∃ xs, RdS w0 fp0 L a (n * sz) xs ∧ K n xs
  | _ => False

def gOpt (e : Env) (o : Option X) (d : Int) (K : Int → Prop) : Prop :=
  match o with
  | some x => gNum (ev e x) K
  | none => K d

/-- A row of one's own that is not empty (or an address that is there). -/
def okA (key : Nat) (a : Option Addr) (L : List Ent) : Prop :=
  match ownAt key L with
  | some o => o.a = a ∧ 0 < o.n
  | none => a ≠ none
theorem okA_ne {w0 w : World} {fp0 : List Nat} {key : Nat} {a : Option Addr} {L : List Ent} (hR : R w0 fp0 L w) (h : okA key a L) : a ≠ none := by
  unfold okA at h
  split at h
  · rename_i o ho
    obtain ⟨rfl, hn⟩ := h
    obtain ⟨L', h1, _⟩ := ownAt_perm (a := o.a) (n := o.n) (c := o.c) (T := o.T) (sz := o.sz) (xs := o.xs) ho
    have hk : w.ownsRow 0 o.T o.sz (.slice o.a o.n o.c) o.n o.xs := (hR.perm h1).ok _ List.mem_cons_self
    rcases hk.2 with ⟨h2, h3⟩ | ⟨g, cap, cur, h2, _⟩
    · omega
    · simp only [Value.slice.injEq] at h2
      rw [h2.1]
      simp
  · exact h

def offA (a : Option Addr) (c l sz : Nat) : Option Addr := if c = l then a else a.map fun x => x.add (l * sz)


def VI (i : I) (e : Env) (L : List Ent) (k : SV → List Ent → Prop) : Prop :=
  match i with
  | .mv x => gA (ev e x) fun s => k s L
  | .pick c a b => gBool (ev e c) fun t => gA (ev e a) fun s => gA (ev e b) fun u => (t = true → k s L) ∧ (t = false → k u L)
  | .ar o kd x y => gInt kd (ev e x) fun p => gInt kd (ev e y) fun q => wrapK kd (arF o p q) fun r => k (.v (.int kd r)) L
  | .arf o kd x y => gInt kd (ev e x) fun p => gInt kd (ev e y) fun q => flipK kd (arF o p q) fun r => k (.v (.int kd r)) L
  | .dv rem kd x y => gInt kd (ev e x) fun p => gInt kd (ev e y) fun q => (0 ≤ p ∧ p ≤ hiK kd ∧ 0 < q) ∧ k (.v (.int kd (match rem with | true => p % q | false => p / q))) L
  | .dvr rem kd x y => gInt kd (ev e x) fun p => gInt kd (ev e y) fun q => q ≠ 0 ∧ k (.v (.int kd (match rem with | true => p.tmod q | false => kd.wrap (p.tdiv q)))) L
  | .cmp o kd x y => gInt kd (ev e x) fun p => gInt kd (ev e y) fun q => k (.v (.bool (cmpF o p q))) L
  | .sh left kd x y => gInt kd (ev e x) fun p => gNum (ev e y) fun q => (0 ≤ q ∧ q ≤ biK kd) ∧ match left with
    | true => wrapK kd (p * ((2 ^ q.toNat : Nat) : Int)) fun r => k (.v (.int kd r)) L
    | false => k (.v (.int kd (p / ((2 ^ q.toNat : Nat) : Int)))) L
  | .bit o kd x y => gInt kd (ev e x) fun p => gInt kd (ev e y) fun q => (0 ≤ p ∧ p ≤ hiK kd ∧ 0 ≤ q ∧ q ≤ hiK kd) ∧ k (.v (.int kd ((bitF o p.toNat q.toNat : Nat) : Int))) L
  | .eqb ng x y => gBool (ev e x) fun p => gBool (ev e y) fun q => k (.v (.bool (ngB ng (p == q)))) L
  | .eqs ng x y => gA (ev e x) fun s => gA (ev e y) fun u => match s, u with
    | .v (.string p), .v (.string q) => k (.v (.bool (ngB ng (p == q)))) L
    | _, _ => False
  | .eqn nk ng x => gA (ev e x) fun s => nilB nk s fun b => k (.v (.bool (ngB ng (b)))) L
  | .eqa ng ks x y => gA (ev e x) fun s => gA (ev e y) fun u => match s, u with
    | .v (.agg p), .v (.agg q) => okCells p.toList q.toList ks ∧ k (.v (.bool (ngB ng (eqCells p.toList q.toList)))) L
    | _, _ => False
  | .eqp ng x y => gA (ev e x) fun s => gA (ev e y) fun u => ∃ a b : Addr, (s.val = .pointer (some a) ∧ u.val = .pointer (some b) ∧ a.block = b.block) ∧ k (.v (.bool (ngB ng (decide (a = b))))) L
  | .not x => gBool (ev e x) fun b => k (.v (.bool (!b))) L
  | .neg kd x => gInt kd (ev e x) fun p => wrapK kd (0 - p) fun r => k (.v (.int kd r)) L
  | .cv kd x => gNum (ev e x) fun p => wrapK kd p fun r => k (.v (.int kd r)) L
  | .cvf kd x => gNum (ev e x) fun p => flipK kd p fun r => k (.v (.int kd r)) L
  | .ext x i => gA (ev e x) fun s => match s with
    | .v (.tuple vs) => gV (nth vs.toList i) fun v => k (.v v) L
    | _ => False
  | .bld z ps => gPs e ps fun l => k (.v (.agg (fillL z l).toArray)) L
  | .bsl key T sz n z ps => gPs e ps fun l => oneAll (fillL z l) ∧ ∀ b : Nat, k (.sl key (some ⟨b, 0, none⟩) n n) (.own key (some ⟨b, 0, none⟩) n n T sz (fillL z l) :: L)
  | .alc key T z => ∀ b : Nat, k (.ptr key b 0) (.box key b z T :: L)
  | .box key T x => gA (ev e x) fun s => ∀ b : Nat, k (.ptr key b 0) (.box key b (cellsV s) T :: L)
  | .ld lk x => gA (ev e x) fun s => match s with
    | .ptr key b off => match boxAt key L with
      | some (b', cs, _) => b' = b ∧ gV (nth cs off) fun v => k (.v v) L
      | none => loadK lk fun v => Rd w0 fp0 L s [v] ∧ k (.v v) L
    | .ek key a i => match ownAt key L with
      | some o => o.a = a ∧ loadK lk fun v => o.xs[i]? = some v ∧ k (.v v) L
      | none => False
    | s => loadK lk fun v => Rd w0 fp0 L s [v] ∧ k (.v v) L
  | .lda n _ks x => gA (ev e x) fun s => match s with
    | .ptr key b off => match boxAt key L with
      | some (b', cs, _) => (b' = b ∧ off + n ≤ cs.length) ∧ k (.v (.agg ((cs.drop off).take n).toArray)) L
      | none => ∃ vs : List Value, vs.length = n ∧ Rd w0 fp0 L s vs ∧ k (.v (.agg vs.toArray)) L
    | .ek key a i => match ownAt key L with
      | some o => o.a = a ∧ ∃ vs : List Value, vs.length = n ∧ (o.xs.drop i).take n = vs ∧ k (.v (.agg vs.toArray)) L
      | none => False
    | s => ∃ vs : List Value, vs.length = n ∧ Rd w0 fp0 L s vs ∧ k (.v (.agg vs.toArray)) L
  | .st n x y => gA (ev e x) fun s => gA (ev e y) fun u => ((cellsV u).length = n ∧ oneAll (cellsV u)) ∧ match s with
    | .ptr key b off => match boxAt key L with
      | some (b', cs, _) => (b' = b ∧ off + n ≤ cs.length) ∧ k (.v undef) (setBox key (splice cs off (cellsV u)) L)
      | none => ∃ L', St w0 fp0 L s (cellsV u) L' ∧ k (.v undef) L'
    | .ek key a i => match ownAt key L with
      | some o => (o.a = a ∧ i + n ≤ o.xs.length) ∧ k (.v undef) (setOwn key o.a o.n o.c (splice o.xs i (cellsV u)) L)
      | none => False
    | s => ∃ L', St w0 fp0 L s (cellsV u) L' ∧ k (.v undef) L'
  | .nil x => gA (ev e x) fun s => match s with
    | .v (.pointer p) => p ≠ none ∧ k s L
    | .ptr .. => k s L
    | .el a _ => a ≠ none ∧ k s L
    | .ek key a _ => okA key a L ∧ k s L
    | _ => False
  | .fa off x => gA (ev e x) fun s => match s with
    | .ptr key b o => k (.ptr key b (o + off)) L
    | .el a o => a ≠ none ∧ k (.el a (o + off)) L
    | .ek key a o => okA key a L ∧ k (.ek key a (o + off)) L
    | .v (.pointer (some ad)) => k (.v (.pointer (some (ad.add off)))) L
    | _ => False
  | .ia sz x y => gA (ev e x) fun s => gNum (ev e y) fun i => match s with
    | .v (.slice a n _) => (0 ≤ i ∧ i < n) ∧ a ≠ none ∧ k (.el a (i.toNat * sz)) L
    | .sl key a n _ => (0 ≤ i ∧ i < n) ∧ okA key a L ∧ k (.ek key a (i.toNat * sz)) L
    | _ => False
  | .iaa sz len x y => gA (ev e x) fun s => gNum (ev e y) fun i => match s with
    | .v (.pointer (some ad)) => (0 ≤ i ∧ i < len) ∧ k (.v (.pointer (some (ad.add (i.toNat * sz))))) L
    | .ptr key b o => (0 ≤ i ∧ i < len) ∧ k (.ptr key b (o + i.toNat * sz)) L
    | _ => False
  | .lens x => gA (ev e x) fun s => match s with
    | .v (.slice _ n _) => k (.v (.int .i64 (n : Int))) L
    | .sl _ _ n _ => k (.v (.int .i64 (n : Int))) L
    | _ => False
  | .lent x => gA (ev e x) fun s => match s with
    | .v (.string b) => k (.v (.int .i64 (b.size : Int))) L
    | _ => False
  | .mm mx kd x y => gInt kd (ev e x) fun p => gInt kd (ev e y) fun q => k (.v (.int kd (match mx with | true => if q > p then q else p | false => if q < p then q else p))) L
  | .app key T sz bytes x y => gA (ev e x) fun s => gA (ev e y) fun u => gCells w0 fp0 L sz u fun m ys => oneAll ys ∧ match s with
    | .sl key' a n c => match ownAt key' L with
      | some o => (o.a = a ∧ o.n = n ∧ o.c = c ∧ o.T = T ∧ o.sz = sz) ∧ (n + m ≤ maxLen ∧ (n + m) * bytes ≤ 140737488355328) ∧ ∀ a' c', k (.sl key' a' (n + m) c') (setOwn key' a' (n + m) c' (o.xs ++ ys) L)
      | none => False
    | .v (.slice none 0 0) => (m ≤ maxLen ∧ m * bytes ≤ 140737488355328) ∧ ∀ a' c', k (.sl key a' m c') (.own key a' m c' T sz ys :: L)
    | _ => False
  | .mks key T sz bytes z x y => gNum (ev e x) fun l => gNum (ev e y) fun c => (0 ≤ l ∧ l ≤ c ∧ bytes * c ≤ 281474976710656 ∧ c ≤ maxLen) ∧
      ∀ b : Nat, k (.sl key (some ⟨b, 0, none⟩) l.toNat c.toNat) (.own key (some ⟨b, 0, none⟩) l.toNat c.toNat T sz (List.replicate l.toNat z).flatten :: L)
  | .mki T x => gA (ev e x) fun s => k (.v (.iface T s.val)) L
  | .mkf fn first captured => gAs e first fun l => gAs e captured fun l' => k (.v (.func fn (l.map SV.val).toArray (l'.map SV.val).toArray)) L
  | .call f args => gAs e args fun l => CallK P w0 fp0 f (l.map SV.val) L k
  | .cald x args => gA (ev e x) fun s => gAs e args fun l => match s with
    | .v (.func (.func f) first captured) => okFn P f = true ∧ CallK P w0 fp0 f (first.toList ++ l.map SV.val ++ captured.toList) L k
    | _ => False
  | .slc sz x lo hi => gA (ev e x) fun s => gOpt e lo 0 fun l => match s with
    | .v (.slice a n c) => gOpt e hi n fun h => (0 ≤ l ∧ l ≤ h ∧ h ≤ c) ∧ k (.v (.slice (offA a c l.toNat sz) (h.toNat - l.toNat) (c - l.toNat))) L
    | .sl _ a n c => gOpt e hi n fun h => (0 ≤ l ∧ l ≤ h ∧ h ≤ c) ∧ k (.v (.slice (offA a c l.toNat sz) (h.toNat - l.toNat) (c - l.toNat))) L
    | _ => False
  | .apz key T sz bytes z x y => gA (ev e x) fun s => gNum (ev e y) fun q => (0 ≤ q ∧ oneAll z) ∧ match s with
    | .sl key' a n c => match ownAt key' L with
      | some o => (o.a = a ∧ o.n = n ∧ o.c = c ∧ o.T = T ∧ o.sz = sz) ∧ (n + q.toNat ≤ maxLen ∧ (n + q.toNat) * bytes ≤ 140737488355328) ∧ ∀ a' c', k (.sl key' a' (n + q.toNat) c') (setOwn key' a' (n + q.toNat) c' (o.xs ++ (List.replicate q.toNat z).flatten) L)
      | none => False
    | .v (.slice none 0 0) => (q.toNat ≤ maxLen ∧ q.toNat * bytes ≤ 140737488355328) ∧ ∀ a' c', k (.sl key a' q.toNat c') (.own key a' q.toNat c' T sz (List.replicate q.toNat z).flatten :: L)
    | _ => False
  | .slo sz x hi => gA (ev e x) fun s => match s with
    | .sl key a n c => match ownAt key L with
      | some o => gOpt e hi n fun h => (o.a = a ∧ o.c = c ∧ o.sz = sz ∧ 0 ≤ h ∧ h ≤ o.n) ∧ k (.sl key a h.toNat c) (setOwn key a h.toNat c (o.xs.take (h.toNat * sz)) L)
      | none => False
    | _ => False
  | .fld off _ x => gA (ev e x) fun s => match s with
    | .v (.agg cs) => gV (nth cs.toList off) fun v => k (.v v) L
    | _ => False
  | .fls off n x => gA (ev e x) fun s => match s with
    | .v (.agg cs) => off + n ≤ cs.toList.length ∧ k (.v (.agg ((cs.toList.drop off).take n).toArray)) L
    | _ => False
  | .cvs x => gA (ev e x) fun s => gCells w0 fp0 L 1 s fun _ ys => ∃ l : List UInt8, ys = l.map (fun b : UInt8 => Value.int .u8 (b.toNat : Int)) ∧ k (.v (.string ⟨l.toArray⟩)) L
  | .apc T sz x y => gA (ev e x) fun s => gA (ev e y) fun u => gCells w0 fp0 L sz u fun m ys => oneAll ys ∧ match s with
    | .sl key' a n c => match ownAt key' L with
      | some o => (o.a = a ∧ o.n = n ∧ o.c = c ∧ o.T = T ∧ o.sz = sz ∧ 0 < m ∧ n + m ≤ c) ∧ k (.sl key' a (n + m) c) (setOwn key' a (n + m) c (o.xs ++ ys) L)
      | none => False
    | _ => False
  | .mkm key kk hint => gOpt e hint 0 fun _ => ∀ b : Nat, k (.mp key b) (.mapE key b kk [] :: L)
  | .lku kk ok z x y => gA (ev e x) fun s => gA (ev e y) fun u => match s with
    | .mp key b => match mapAt key L with
      | some (b', kk', m) => (b' = b ∧ kk' = kk ∧ keyOk kk u.val) ∧ lkK (mget m u.val) (fun v => k (.v (lkV ok v true)) L) (k (.v (lkV ok z false)) L)
      | none => False
    | .v (.map none) => keyOk kk u.val ∧ k (.v (lkV ok z false)) L
    | _ => False
  | .mup kk x y z => gA (ev e x) fun s => gA (ev e y) fun u => gA (ev e z) fun t => match s with
    | .mp key b => match mapAt key L with
      | some (b', kk', m) => (b' = b ∧ kk' = kk ∧ keyOk kk u.val) ∧ k (.v undef) (setMap key (mset m u.val t.val) L)
      | none => False
    | _ => False
  | .tas T ok z x => gA (ev e x) fun s => match s with
    | .v (.iface T' v) => (T' = T → k (.v (lkV ok v true)) L) ∧ (T' ≠ T → ok = true ∧ k (.v (lkV ok z false)) L)
    | .v .nilIface => ok = true ∧ k (.v (lkV ok z false)) L
    | _ => False
  | .raw o => ∀ (n : Nat) (a : Act) (w : World), Agree n e a → R w0 fp0 L w → ∃ v w', (execOp a.eval o).run P w = .ok (.value v) w' ∧ ∃ s L', s.val = v ∧ R w0 fp0 L' w' ∧ k s L'
end

end Go.EG
