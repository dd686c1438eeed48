/-
  S2, second part: from the model's code to the plain one: what a function is there, if it is of the kinds that are served.
-/
import Derived.Test.YtgfanlafbjbkaaaS2a
import GoSem.Core.Region
namespace Go.Proofs.Ytgfanlafbjbkaaa.S2
open Go

def constSV1 : Value → Option SV
  | .bool b => some (.bool b)
  | .int k n => some (.int k n)
  | .string s => some (.str s)
  | .pointer none => some .nilp
  | .slice none 0 0 => some .nils
  | .map none => some .nilm
  | .nilFunc => some .nilf
  | .nilIface => some .nili
  | .func (.func f) first cap => if first.isEmpty ∧ cap.isEmpty then some (.fn f []) else none
  | _ => none

def allSome {α β : Type} (f : α → Option β) : List α → Option (List β)
  | [] => some []
  | a :: l => match f a, allSome f l with
    | some b, some bs => some (b :: bs)
    | _, _ => none

def constSV : Value → Option SV
  | .agg cs => match allSome constSV1 cs.toList with | some l => some (.agg l) | none => none
  | v => constSV1 v

def compOpd : Operand → Option Opd
  | .tmp t => some (.tmp t)
  | .const v => match constSV v with | some c => some (.k c) | none => none
  | .func f => some (.k (.fn f []))
  | .global _ => none

def compOpt : Option Operand → Option (Option Opd)
  | none => some none
  | some x => match compOpd x with | some a => some (some a) | none => none

def Row.ofList : List Prim → Row
  | [] => .nil
  | p :: l => .cons p (Row.ofList l)

def primsOf (P : Program) : Nat → TypeId → Option (List Prim)
  | 0, _ => none
  | n + 1, t => match P.underlying t with
    | some .bool => some [.bool]
    | some (.int k) => some [.int k]
    | some .string => some [.str]
    | some (.slice e) => match primsOf P n e with | some ps => some [.slc e (Row.ofList ps)] | none => none
    | some (.struct fs) => match allSome (fun f : Field => primsOf P n f.type) fs.toList with | some l => some l.flatten | none => none
    | some (.array len e) => match primsOf P n e with | some ps => some (List.replicate len ps).flatten | none => none
    | _ => none

def rowOf (P : Program) (e : TypeId) : Option Row :=
  match primsOf P 8 e with
  | some ps => if ps.length = P.cellsOf e ∧ 0 < ps.length then some (Row.ofList ps) else none
  | none => none

def isAggT (P : Program) (t : TypeId) : Option Bool :=
  match P.underlying t with
  | some (.struct _) | some (.array _ _) => some true
  | some _ => some false
  | none => none

/-- How many cells a variable of a type has; 'none': one, that is no struct or array. -/
def sizeT (P : Program) (t : TypeId) : Option (Option Nat) :=
  match P.info? t, isAggT P t with
  | some i, some true => some (some i.size)
  | some _, some false => some none
  | _, _ => none

def zeroT (P : Program) (t : TypeId) : Option (List SV) :=
  match P.info? t with
  | some i => match i.zero with
    | some z => if z.cells.size = i.size then allSome constSV1 z.cells.toList else none
    | none => none
  | none => none

def tkOf (P : Program) (t : TypeId) : TK :=
  match P.underlying t with
  | some (.int _) => .int
  | some .bool => .bool
  | some .string => .str
  | some (.pointer _) => .ptr
  | some (.slice _) => .slc
  | _ => .oth

/-- The kinds of the parts of a struct whose parts are numbers, bools and texts, one cell each: '==' is plain. -/
def plainFrom (P : Program) : Nat → List Field → Option (List TK)
  | _, [] => some []
  | n, f :: l =>
    if f.offset = n ∧ f.name ≠ "_" ∧ tkOf P f.type ≠ .oth ∧ tkOf P f.type ≠ .ptr ∧ tkOf P f.type ≠ .slc then
      match plainFrom P (n + 1) l with
      | some ks => some (tkOf P f.type :: ks)
      | none => none
    else none

def plainEq (P : Program) (t : TypeId) : Option (List TK) :=
  match P.underlying t with
  | some (.struct fs) => if P.stoodInHeld t = false ∧ P.eqGuardType P.depth t = false then plainFrom P 0 fs.toList else none
  | _ => none

def isStructT (P : Program) (t : TypeId) : Bool :=
  match P.underlying t with
  | some (.struct _) | some (.array _ _) => true
  | _ => false

/-- Where the parts of a struct or an array lie. -/
def placesOf (P : Program) (t : TypeId) : Option (Nat → Option (Nat × Nat)) :=
  match P.underlying t with
  | some (.struct fs) => match fs.toList.mapM (fun f => (P.info? f.type).map fun i => (f.offset, i.size)) with
    | some pl => some fun i => pl.toArray[i]?
    | none => none
  | some (.array _ e) => match P.info? e with
    | some i => some fun j => some (j * i.size, i.size)
    | none => none
  | _ => none

def fieldOf (P : Program) (s : TypeId) (f : Nat) : Option Field :=
  match P.underlying s with
  | some (.struct fs) => fs[f]?
  | _ => none

def two (as : Array Operand) : Option (Opd × Opd) :=
  match as.toList with
  | [x, y] => match compOpd x, compOpd y with | some a, some b => some (a, b) | _, _ => none
  | _ => none

/-- Are these cells the zeros of a row? -/
def zeroRow : Row → List Value → Bool
  | .nil, [] => true
  | .cons (.int k) r, .int k' n :: l => k' == k && n == 0 && zeroRow r l
  | .cons .bool r, .bool b :: l => b == false && zeroRow r l
  | .cons .str r, .string s :: l => s.size == 0 && zeroRow r l
  | .cons (.slc _ _) r, .slice none 0 0 :: l => zeroRow r l
  | _, _ => false

/-- What it takes to make a list of zeros: the kind of its elements, and how many bytes each has. -/
def zerosT (P : Program) (e : TypeId) : Option (Row × Nat) :=
  match rowOf P e, P.info? e with
  | some r, some i => match i.zero with
    | some z => if z.cells.size = i.size ∧ 0 < i.bytes ∧ zeroRow r z.cells.toList = true then some (r, i.bytes) else none
    | none => none
  | _, _ => none

def compCall (P : Program) (c : Call) : Option O2 :=
  match c.callee with
  | .value (.func f) => match allSome compOpd c.args.toList with | some as => some (.call f as) | none => none
  | .value (.tmp t) => match allSome compOpd c.args.toList with | some as => some (.callv (.tmp t) as) | none => none
  | .builtin .len => match c.args.toList, c.argTypes.toList with
    | [x], [t] => match compOpd x, P.underlying t with
      | some a, some .string => some (.len .str a)
      | some a, some (.slice _) => some (.len .slc a)
      | _, _ => none
    | _, _ => none
  | .builtin .cap => match c.args.toList, c.argTypes.toList with
    | [x], [t] => match compOpd x, P.underlying t with
      | some a, some (.slice _) => some (.len .cap a)
      | _, _ => none
    | _, _ => none
  | .builtin .append => match two c.args, c.argTypes.toList with
    | some (s, x), [t, t'] => if t = t' then
        match P.underlying t with
        | some (.slice e) => match rowOf P e, P.info? e with
          | some r, some i => match i.zero with
            | some z => if z.cells.size = i.size ∧ 0 < i.bytes then some (.app e r i.bytes s x) else none
            | none => none
          | _, _ => none
        | _ => none
      else match P.underlying t, P.underlying t' with
        | some (.slice e), some (.int .i64) => match zerosT P e with
          | some (r, by_) => some (.grow e r by_ s x)
          | none => none
        | _, _ => none
    | _, _ => none
  | .builtin .min => match two c.args with | some (x, y) => some (.mn x y) | none => none
  | .builtin .max => match two c.args with | some (x, y) => some (.mx x y) | none => none
  | _ => none

def compOp (P : Program) (o : Oper) : Option O2 :=
  match o.op with
  | .move x | .assign x => (compOpd x).map .mov
  | .pick c a b => match compOpd c, compOpd a, compOpd b with | some c, some a, some b => some (.pick c a b) | _, _, _ => none
  | .alloc e => (zeroT P e).map .alloc
  | .box e x => match P.info? e, compOpd x with | some i, some a => some (.box i.size a) | _, _ => none
  | .build t parts => match zeroT P t, placesOf P t with
    | some zs, some pl =>
      match allSome (fun p : Nat × Operand => match pl p.1, compOpd p.2 with | some q, some x => some (q.1, q.2, x) | _, _ => none) parts.toList with
      | some ps => some (.build zs ps)
      | none => none
    | _, _ => none
  | .buildSlice t len parts => match P.underlying t with
    | some (.slice e) => match rowOf P e, allSome (fun p : Nat × Operand => match compOpd p.2 with | some x => some (p.1, x) | none => none) parts.toList, P.info? e with
      | some r, some ps, some i => if ps.map (·.1) = List.range len ∧ len * r.size ≤ 16777216 ∧ (i.zero.any fun z => z.cells.size == i.size) then some (.lit e r ps) else none
      | _, _, _ => none
    | _ => none
  | .load t x => match sizeT P t, compOpd x with | some n, some a => some (.ld n a) | _, _ => none
  | .store t x v => match P.info? t, compOpd x, compOpd v with | some i, some a, some b => some (.st i.size a b) | _, _, _ => none
  | .nilCheck x => (compOpd x).map .nilck
  | .binOp op t x y _ => match compOpd x, compOpd y with
    | some a, some b => match isStructT P t with
      | true => match op, plainEq P t with
        | .eql, some ks => some (.eqs false ks a b)
        | .neq, some ks => some (.eqs true ks a b)
        | _, _ => none
      | false => some (.bin (tkOf P t) op a b)
    | _, _ => none
  | .unOp op _ x => (compOpd x).map (.un op)
  | .convert src dst x => match P.underlying src, P.underlying dst, compOpd x with
    | some (.int _), some (.int k), some a => some (.conv k a)
    | some .string, some .string, some a => some (.sid a)
    | some (.slice e), some .string, some a => match P.underlying e with | some (.int .u8) => some (.b2s e a) | _ => none
    | _, _, _ => none
  | .slice t x lo hi none => match P.underlying t, compOpd x with
    | some .string, some a =>
      match compOpt lo, compOpt hi with
      | some l, some h => some (.cut none a l h)
      | _, _ => none
    | some (.slice e), some a =>
      match compOpt lo, compOpt hi, P.info? e with
      | some l, some h, some i => some (.cut (some i.size) a l h)
      | _, _, _ => none
    | _, _ => none
  | .fieldAddr s x f => match fieldOf P s f, compOpd x with | some f, some a => if P.cellsOf f.type = 0 then none else some (.fa a f.offset) | _, _ => none
  | .field s x f => match fieldOf P s f, compOpd x with
    | some f, some a => match sizeT P f.type with | some n => some (.fv a f.offset n) | none => none
    | _, _ => none
  | .indexAddr t x i => match P.underlying t, compOpd x, compOpd i with
    | some (.slice e), some a, some b => match P.info? e with
      | some i => some (.ia i.size a b)
      | none => none
    | _, _, _ => none
  | .index t x i => match P.underlying t, compOpd x, compOpd i with
    | some .string, some a, some b => some (.iv a b)
    | _, _, _ => none
  | .extract x i => (compOpd x).map (.ext · i)
  | .call c => compCall P c
  | .makeFunc (.func f) first cap => if first.isEmpty then (allSome compOpd cap.toList).map (.mkfn f) else none
  | .makeSlice t n c => match P.underlying t, compOpd n, compOpd c with
    | some (.slice e), some a, some b => match zerosT P e with
      | some (r, by_) => some (.mk e r by_ a b)
      | none => none
    | _, _, _ => none
  | _ => none

def compOper (P : Program) (o : Oper) : Option Op2 :=
  match compOp P o with
  | some op => some { dst := o.dst, op, guard := o.guard, ahead := (o.after.toList.filter (Region.binds .any)).map (·.on) }
  | none => some { dst := o.dst, op := .no, guard := o.guard, ahead := (o.after.toList.filter (Region.binds .any)).map (·.on) }

def aheadOk : Nat → List Op2 → Bool
  | _, [] => true
  | i, o :: l => o.ahead.all (· < i) && (match o.guard with | some (j, _) => o.ahead.contains j | none => true) && aheadOk (i + 1) l

def firstRegion : Code → Nat
  | .region id _ _ => id
  | .seq a b => match firstRegion a with | 0 => firstRegion b | n => n
  | .cond _ a b => match firstRegion a with | 0 => firstRegion b | n => n
  | .block _ b => firstRegion b
  | .loop b => firstRegion b
  | .scope b => firstRegion b
  | _ => 0

def compCode (P : Program) (an : Nat → LAnn) : Code → Option C2
  | .skip => some .skip
  | .region _ ops draw => match allSome (compOper P) ops.toList with
    | some l => if aheadOk 0 l then some (.region l draw) else none
    | none => none
  | .seq a b => match compCode P an a, compCode P an b with | some x, some y => some (.seq x y) | _, _ => none
  | .cond c a b => match compOpd c, compCode P an a, compCode P an b with | some c, some x, some y => some (.cond c x y) | _, _, _ => none
  | .block id b => (compCode P an b).map (.block id)
  | .loop b => (compCode P an b).map (.loop (an (firstRegion b)))
  | .exit id => some (.exit id)
  | .ret => some .ret
  | _ => some .stuck

def compRV (P : Program) : ResultVar → Option RV
  | .tmp t => some (.tmp t)
  | .cell a t => match sizeT P t with
    | some (some n) => some (.cell a n true)
    | some none => some (.cell a 1 false)
    | none => none

def compFunc (P : Program) (an : Nat → LAnn) (fn : Func) : Option FD :=
  match fn.body with
  | some c => match compCode P an c, allSome (compRV P) fn.results.toList with
    | some b, some rs => some { params := fn.params.size + fn.nfree, ntmps := fn.ntmps, results := rs, kinds := fn.resultTypes.toList.map (fun t => (primsOf P 8 t).getD []), body := b }
    | _, _ => none
  | none => none
end Go.Proofs.Ytgfanlafbjbkaaa.S2
