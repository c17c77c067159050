/- From the model's operations to the small form, by reckoning over the program's tables (cI); what the small form asks is enough (VI_does). Generic over the program: no condition. -/
import Derived.Test.YtagoedllflalpaaInstr
namespace Go.EG
open Go.RowKit

def lkOf (P : Program) (t : TypeId) : Option LK :=
  match P.underlying t with
  | some (.int k) => some (.int k)
  | some .bool => some .bool
  | some .string => some .str
  | some (.pointer _) => some .ptr
  | some (.slice _) => some .slc
  | some (.map _ _) => some .map
  | some (.struct _) | some (.array _ _) | none => none
  | some _ => some .raw

/-- What the cells of a type hold, one after the other. -/
def lksOf (P : Program) : Nat → TypeId → List LK
  | 0, _ => []
  | d + 1, t => match lkOf P t with
    | some lk => [lk]
    | none => match P.underlying t with
      | some (.struct fs) => fs.toList.flatMap fun f => lksOf P d f.type
      | some (.array n e) => (List.replicate n (lksOf P d e)).flatten
      | _ => []

def nkOf (P : Program) (t : TypeId) : Option NK :=
  match P.underlying t with
  | some (.pointer _) => some .ptr
  | some (.interface _) => some .ifc
  | some (.slice _) => some .slc
  | some (.map _ _) => some .map
  | some (.func ..) => some .fn
  | _ => none

def isNil : NK → Operand → Bool
  | .ifc, .const .nilIface => true
  | .ptr, .const (.pointer none) => true
  | .slc, .const (.slice none 0 0) => true
  | .map, .const (.map none) => true
  | .fn, .const .nilFunc => true
  | _, _ => false

def fieldKs (P : Program) : List Field → Nat → Option (List LK)
  | [], _ => some []
  | f :: fs, n =>
    if f.offset = n ∧ (f.name == "_") = false then
      match P.underlying f.type with
      | some (.int k) => (fieldKs P fs (n + 1)).map (.int k :: ·)
      | some .bool => (fieldKs P fs (n + 1)).map (.bool :: ·)
      | _ => none
    else none

/-- The keys of a map's type. -/
def keyTy (P : Program) (t : TypeId) : Option KK :=
  match P.underlying t with
  | some (.int k) => some (.int k)
  | some (.struct fs) => if P.stoodInHeld t = false then (fieldKs P fs.toList 0).map .agg else none
  | _ => none

def isIfc (P : Program) (t : TypeId) : Bool :=
  match P.underlying t with
  | some (.interface _) => true
  | some _ => false
  | none => true

def cParts (P : Program) (fields : Array Field) (tot : Nat) : List (Nat × Operand) → Option (List (Nat × Nat × X))
  | [] => some []
  | (i, x) :: ps =>
    match fields[i]? with
    | some f => match P.info? f.type with
      | some j => if f.offset + j.size ≤ tot then (cParts P fields tot ps).map ((f.offset, j.size, cX x) :: ·) else none
      | none => none
    | none => none

def cElems (sz : Nat) (ps : List (Nat × Operand)) : List (Nat × Nat × X) := ps.map fun p => (p.1 * sz, sz, cX p.2)

def cI (P : Program) (fl : Bool) (dst : Option Nat) (op : Op) : Option I :=
  match op with
  | .move x | .assign x => some (.mv (cX x))
  | .pick c a b => some (.pick (cX c) (cX a) (cX b))
  | .binOp o t x y _ =>
    match P.underlying t with
    | some (.int k) =>
      if isAr o then some (if fl then .arf o k (cX x) (cX y) else .ar o k (cX x) (cX y))
      else if isCmp o then some (.cmp o k (cX x) (cX y))
      else if isBit o then some (.bit o k (cX x) (cX y))
      else match o with
        | .quo => some (if fl then .dvr false k (cX x) (cX y) else .dv false k (cX x) (cX y))
        | .rem => some (if fl then .dvr true k (cX x) (cX y) else .dv true k (cX x) (cX y))
        | .shl => some (.sh true k (cX x) (cX y))
        | .shr => some (.sh false k (cX x) (cX y))
        | _ => none
    | some .bool => match o with
      | .eql => some (.eqb false (cX x) (cX y))
      | .neq => some (.eqb true (cX x) (cX y))
      | _ => none
    | some .string => match o with
      | .eql => some (.eqs false (cX x) (cX y))
      | .neq => some (.eqs true (cX x) (cX y))
      | _ => none
    | some (.struct fs) =>
      if P.stoodInHeld t = false ∧ P.eqGuardType P.depth t = false then
        match fieldKs P fs.toList 0 with
        | some ks => match o with
          | .eql => some (.eqa false ks (cX x) (cX y))
          | .neq => some (.eqa true ks (cX x) (cX y))
          | _ => none
        | none => none
      else none
    | _ =>
      match nkOf P t with
      | some nk =>
        if isNil nk y then match o with
          | .eql => some (.eqn nk false (cX x))
          | .neq => some (.eqn nk true (cX x))
          | _ => none
        else match P.underlying t with
          | some (.pointer el) => match P.info? el with
            | some j => if 0 < j.size then match o with
                | .eql => some (.eqp false (cX x) (cX y))
                | .neq => some (.eqp true (cX x) (cX y))
                | _ => none
              else none
            | none => none
          | _ => none
      | none => none
  | .unOp .not _ x => some (.not (cX x))
  | .unOp .neg t x => match P.underlying t with
    | some (.int k) => some (.neg k (cX x))
    | _ => none
  | .convert s t x => match P.underlying s, P.underlying t with
    | some (.int _), some (.int k) => some (if fl then .cvf k (cX x) else .cv k (cX x))
    | some (.slice e), some .string => match P.underlying e with
      | some (.int .u8) => some (.cvs (cX x))
      | _ => none
    | _, _ => none
  | .extract x i => some (.ext (cX x) i)
  | .build t ps => match P.underlying t, P.info? t with
    | some (.struct fs), some j => if (fs.toList.all fun f => (P.info? f.type).isSome) = false then none else match j.zero with
      | some z => (cParts P fs z.cells.size ps.toList).map (.bld z.cells.toList ·)
      | none => none
    | _, _ => none
  | .buildSlice t n ps => match P.underlying t with
    | some (.slice e) => match P.info? e with
      | some j => match j.zero with
        | some z => if n * j.size ≤ 4096 ∧ z.cells.size = j.size ∧ 0 < j.size ∧ (ps.toList.all fun p => p.1 < n) = true then some (.bsl (dst.getD 0) e j.size n (List.replicate n z.cells.toList).flatten (cElems j.size ps.toList)) else none
        | none => none
      | none => none
    | _ => none
  | .alloc t => match P.info? t with
    | some j => match j.zero with
      | some z => some (.alc (dst.getD 0) t z.cells.toList)
      | none => none
    | none => none
  | .box t x => some (.box (dst.getD 0) t (cX x))
  | .load t x => match lkOf P t with
    | some lk => some (.ld lk (cX x))
    | none => match P.underlying t, P.info? t with
      | some (.struct _), some j => if 0 < j.size then some (.lda j.size (lksOf P 5 t) (cX x)) else none
      | some (.array _ _), some j => if 0 < j.size then some (.lda j.size (lksOf P 5 t) (cX x)) else none
      | _, _ => none
  | .store t x y => match P.info? t with
    | some j => if 0 < j.size then some (.st j.size (cX x) (cX y)) else none
    | none => none
  | .nilCheck x => some (.nil (cX x))
  | .fieldAddr t x f => match P.underlying t with
    | some (.struct fs) => match fs[f]? with
      | some fd => match P.info? fd.type with
        | some j => if 0 < j.size then some (.fa fd.offset (cX x)) else none
        | none => none
      | none => none
    | _ => none
  | .indexAddr t x y => match P.underlying t with
    | some (.slice e) => match P.info? e with
      | some j => some (.ia j.size (cX x) (cX y))
      | none => none
    | some (.array len e) => match P.info? e with
      | some j => some (.iaa j.size len (cX x) (cX y))
      | none => none
    | _ => none
  | .makeInterface t x => match P.underlying t with
    | some (.interface _) | none => none
    | some _ => some (.mki t (cX x))
  | .makeFunc fn first captured => some (.mkf fn (first.toList.map cX) (captured.toList.map cX))
  | .makeSlice t x y => match P.underlying t with
    | some (.slice e) => match P.info? e with
      | some j => match j.zero with
        | some z => if z.cells.size = j.size ∧ 0 < j.size then some (.mks (dst.getD 0) e j.size j.bytes z.cells.toList (cX x) (cX y)) else none
        | none => none
      | none => none
    | _ => none
  | .slice t x lo hi none => match P.underlying t with
    | some (.slice e) => match P.info? e with
      | some j => match fl, lo with
        | true, none => some (.slo j.size (cX x) (hi.map cX))
        | _, _ => some (.slc j.size (cX x) (lo.map cX) (hi.map cX))
      | none => none
    | _ => none
  | .field t x f => match P.underlying t with
    | some (.struct fs) => match fs[f]? with
      | some fd => match lkOf P fd.type with
        | some lk => some (.fld fd.offset lk (cX x))
        | none => match P.underlying fd.type, P.info? fd.type with
          | some (.struct _), some j => if 0 < j.size then some (.fls fd.offset j.size (cX x)) else none
          | _, _ => none
      | none => none
    | _ => none
  | .makeMap t r => match P.underlying t with
    | some (.map kt _) => (keyTy P kt).map fun kk => .mkm (dst.getD 0) kk (r.map cX)
    | _ => none
  | .lookup t x y ok => match P.underlying t with
    | some (.map kt et) => match keyTy P kt, P.info? et with
      | some kk, some j => match j.zero with
        | some z => some (.lku kk ok z (cX x) (cX y))
        | none => none
      | _, _ => none
    | _ => none
  | .mapUpdate t x y z => match P.underlying t with
    | some (.map kt _) => (keyTy P kt).map fun kk => .mup kk (cX x) (cX y) (cX z)
    | _ => none
  | .typeAssert x _ t ok => if isIfc P t = true then none else match P.info? t with
    | some j => match j.zero with
      | some z => some (.tas t ok z (cX x))
      | none => none
    | none => none
  | .call c => match c.callee with
    | .value (.func f) => if okFn P f then some (.call f (c.args.toList.map cX)) else none
    | .value x => some (.cald (cX x) (c.args.toList.map cX))
    | .builtin .len => match c.args.toList, c.argTypes.toList with
      | [x], [t] => match P.underlying t with
        | some (.slice _) => some (.lens (cX x))
        | some .string => some (.lent (cX x))
        | _ => none
      | _, _ => none
    | .builtin .max => match c.args.toList, c.argTypes.toList with
      | [x, y], t :: _ => match P.underlying t with
        | some (.int k) => some (.mm true k (cX x) (cX y))
        | _ => none
      | _, _ => none
    | .builtin .min => match c.args.toList, c.argTypes.toList with
      | [x, y], t :: _ => match P.underlying t with
        | some (.int k) => some (.mm false k (cX x) (cX y))
        | _ => none
      | _, _ => none
    | .builtin .append => match c.args.toList, c.argTypes.toList with
      | [x, y], [t, u] => if t = u then match P.underlying t with
          | some (.slice e) => match P.info? e with
            | some j => match j.zero with
              | some z => if z.cells.size = j.size ∧ 0 < j.size then some (if fl then .apc e j.size (cX x) (cX y) else .app (dst.getD 0) e j.size j.bytes (cX x) (cX y)) else none
              | none => none
            | none => none
          | _ => none
        else match P.underlying t, P.underlying u with
          | some (.slice e), some (.int _) => match P.info? e with
            | some j => match j.zero with
              | some z => if z.cells.size = j.size ∧ 0 < j.size then some (.apz (dst.getD 0) e j.size j.bytes z.cells.toList (cX x) (cX y)) else none
              | none => none
            | none => none
          | _, _ => none
      | _, _ => none
    | _ => none
  | _ => none
end Go.EG
