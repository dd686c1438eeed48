/-
  S2: a second, plain meaning of the model's code: values are numbers, texts and lists, memory is a short table of objects with names. This file: the types and the meaning. Nothing here is trusted: the file S2 soundness ties it to the model.
-/
import GoSem.Core.Code
import GoSem.Core.Layout
import Derived.Laws.BytesArg
namespace Go.Proofs.Ytgfanlafbjbkaaa.S2
open Go

mutual
inductive Prim where
  | int (k : IntKind)
  | bool
  | str
  | slc (e : TypeId) (r : Row)
  deriving DecidableEq
inductive Row where
  | nil
  | cons (p : Prim) (r : Row)
  deriving DecidableEq
end

mutual
def Prim.T : Prim → Type
  | .int _ => Int
  | .bool => Bool
  | .str => ByteArray
  | .slc _ r => List r.T
def Row.T : Row → Type
  | .nil => Unit
  | .cons p .nil => p.T
  | .cons p (.cons q r) => p.T × (Row.cons q r).T
end

def Row.size : Row → Nat
  | .nil => 0
  | .cons _ r => r.size + 1

def Prim.zero : (p : Prim) → p.T
  | .int _ => (0 : Int)
  | .bool => false
  | .str => ByteArray.empty
  | .slc _ _ => []

def Row.zero : (r : Row) → r.T
  | .nil => ()
  | .cons p .nil => p.zero
  | .cons p (.cons q r) => (p.zero, (Row.cons q r).zero)

/-- A value, as a frame has it. -/
inductive SV where
  | dead
  | int (k : IntKind) (n : Int)
  | bool (b : Bool)
  | str (s : ByteArray)
  /-- a piece of a row that the frame's memory has under a name -/
  | sl (key off len : Nat)
  /-- a whole row -/
  | slw (key : Nat)
  /-- a list that nobody writes -/
  | ps (e : TypeId) (r : Row) (xs : List r.T)
  | nils
  /-- an empty list that is not nil -/
  | pe
  /-- the address of a cell: of an element of an object -/
  | ptr (key : Nat) (i fo : Nat)
  /-- the address of a cell of a list that nobody writes -/
  | pptr (e : TypeId) (r : Row) (xs : List r.T) (i fo : Nat)
  | nilp
  | agg (cs : List SV)
  | tup (vs : List SV)
  | fn (f : FuncId) (cap : List SV)
  | nilf
  | nili
  | nilm

def Prim.sv : (p : Prim) → p.T → SV
  | .int k, n => .int k n
  | .bool, b => .bool b
  | .str, s => .str s
  | .slc e r, xs => .ps e r xs

def Row.svs : (r : Row) → r.T → List SV
  | .nil, _ => []
  | .cons p .nil, x => [p.sv x]
  | .cons p (.cons q r), x => p.sv x.1 :: (Row.cons q r).svs x.2

/-- A list of rows of one kind, as one of another kind, if they are the same. -/
def castRow {r r' : Row} (h : r = r') (xs : List r.T) : List r'.T := h ▸ xs

inductive Ob where
  | cells (cs : List SV)
  | row (e : TypeId) (r : Row) (xs : List r.T)
  | froz (e : TypeId) (r : Row) (xs : List r.T)
  | gone

abbrev Mem := List (Nat × Ob)

def Mem.get : Mem → Nat → Option Ob
  | [], _ => none
  | (k, o) :: m, q => if q = k then some o else Mem.get m q

def Mem.set : Mem → Nat → Ob → Mem
  | [], q, o => [(q, o)]
  | (k, x) :: m, q, o => if q = k then (k, o) :: m else (k, x) :: Mem.set m q o

def Mem.sets (m : Mem) : List (Nat × Ob) → Mem
  | [] => m
  | (k, o) :: l => (m.set k o).sets l

structure St where
  tmps : List SV
  mem : Mem

inductive Opd where
  | tmp (t : Nat)
  | k (c : SV)

def Opd.ev (x : Opd) (ts : List SV) : SV :=
  match x with
  | .tmp t => ts.getD t .dead
  | .k c => c

/-- What of a value can be laid into a list that nobody writes: the list, if it is a piece of memory, and which names are frozen by it. -/
def Prim.of (m : Mem) : (p : Prim) → SV → Option p.T
  | .int k, .int k' n => if k = k' then some n else none
  | .bool, .bool b => some b
  | .str, .str s => some s
  | .slc e r, .ps e' r' xs => if h : r' = r then (if e' = e then some (castRow h xs) else none) else none
  | .slc _ _, .nils => some []
  | .slc _ _, .pe => some []
  | .slc e r, .slw k =>
    match m.get k with
    | some (.row e' r' xs) => if h : r' = r then (if e' = e then some (castRow h xs) else none) else none
    | some (.froz e' r' xs) => if h : r' = r then (if e' = e then some (castRow h xs) else none) else none
    | _ => none
  | .slc e r, .sl k off len =>
    match m.get k with
    | some (.row e' r' xs) => if h : r' = r then (if e' = e then some (castRow h ((xs.drop off).take len)) else none) else none
    | some (.froz e' r' xs) => if h : r' = r then (if e' = e then some (castRow h ((xs.drop off).take len)) else none) else none
    | _ => none
  | _, _ => none

def Row.of (m : Mem) : (r : Row) → List SV → Option r.T
  | .nil, [] => some ()
  | .cons p .nil, [x] => p.of m x
  | .cons p (.cons q r), x :: y :: l =>
    match p.of m x, (Row.cons q r).of m (y :: l) with
    | some a, some b => some (a, b)
    | _, _ => none
  | _, _ => none

/-- A whole row, as a piece. -/
def SV.res (m : Mem) : SV → SV
  | .slw k => match m.get k with
    | some (.row _ _ xs) => .sl k 0 xs.length
    | some (.froz _ _ xs) => .sl k 0 xs.length
    | _ => .dead
  | x => x

def SV.cellsOf : SV → List SV
  | .agg cs => cs
  | v => [v]

/-- Is it a value whose cells are its own? -/
def SV.cellsOk : SV → Bool
  | .dead | .tup _ => false
  | _ => true

def freeze (m : Mem) : List Nat → List (Nat × Ob)
  | [] => []
  | k :: l => match m.get k with
    | some (.row e r xs) => (k, .froz e r xs) :: freeze m l
    | _ => freeze m l

/-- What an operation comes to: its value, what it lays under which names, which names it asked for. -/
structure Eff where
  val : SV
  upd : List (Nat × Ob)
  fp : List Nat

inductive LenKind where
  | str | slc | cap

/-- Of which kind a type is, as far as '==' asks. -/
inductive TK where
  | int | bool | str | ptr | slc | oth
  deriving DecidableEq

inductive O2 where
  | mov (x : Opd)
  | pick (c a b : Opd)
  | alloc (zs : List SV)
  | box (n : Nat) (x : Opd)
  | build (zs : List SV) (parts : List (Nat × Nat × Opd))
  | lit (e : TypeId) (r : Row) (parts : List (Nat × Opd))
  | ld (n : Option Nat) (x : Opd)
  | st (n : Nat) (x v : Opd)
  | nilck (x : Opd)
  | bin (tk : TK) (op : BinOp) (x y : Opd)
  | eqs (neg : Bool) (ks : List TK) (x y : Opd)
  | un (op : UnOp) (x : Opd)
  | conv (k : IntKind) (x : Opd)
  | b2s (e : TypeId) (x : Opd)
  | sid (x : Opd)
  | cut (sz : Option Nat) (x : Opd) (lo hi : Option Opd)
  | fa (x : Opd) (off : Nat)
  | fv (x : Opd) (off : Nat) (n : Option Nat)
  | ia (sz : Nat) (x i : Opd)
  | iv (x i : Opd)
  | ext (x : Opd) (i : Nat)
  | call (f : FuncId) (args : List Opd)
  | callv (x : Opd) (args : List Opd)
  | len (k : LenKind) (x : Opd)
  | app (e : TypeId) (r : Row) (bytes : Nat) (s x : Opd)
  | mn (x y : Opd)
  | mx (x y : Opd)
  | mkfn (f : FuncId) (cap : List Opd)
  /-- so many zeros more -/
  | grow (e : TypeId) (r : Row) (bytes : Nat) (s n : Opd)
  /-- a new list of so many zeros -/
  | mk (e : TypeId) (r : Row) (bytes : Nat) (n c : Opd)
  /-- an operation that is not served: nothing is said where it is reached -/
  | no

structure Op2 where
  dst : Option Nat
  op : O2
  guard : Option (Nat × Bool)
  /-- the operations that must have run ahead of it -/
  ahead : List Nat

/-- Where a list lies that grows in a loop. -/
inductive AccAt where
  | slot (t : Nat)
  | cell (key off : Nat)

structure LAnn where
  id : Nat
  live : List Nat
  /-- the places that hold a list that grows in the loop: the place, the name under which the loop has it, its kind -/
  acc : List (AccAt × Nat × TypeId × Row)
  /-- the slots that are written in the loop -/
  inner : List Nat
  /-- the slots that are looked at behind the loop -/
  out : List Nat

inductive C2 where
  | skip
  | region (ops : List Op2) (draw : Bool)
  | seq (a b : C2)
  | cond (c : Opd) (x y : C2)
  | block (id : Nat) (b : C2)
  | loop (an : LAnn) (b : C2)
  | exit (id : Nat)
  | ret
  | stuck

inductive Out where
  | norm
  | exit (id : Nat)
  | ret

/-- How a function is called: are its arguments handed over as they are? Which parts of what they lead to are lists that may be nil: the argument, the part's place, its kind. -/
structure CC where
  ref : Bool
  /-- the arguments that are handed over as lists that nobody writes, all the same -/
  pures : List Nat
  nils : List (Nat × Nat × TypeId × Row)

/-- What a function gives back: are its results lists that nobody writes? Which parts of what they, and what was handed over, lead to are lists that may be nil. -/
structure RC where
  pur : Bool
  nils : List (Nat × Nat × TypeId × Row)
  /-- parts that come under new names at the end, whatever happened: which object, the part's place, the name that it may have had -/
  moves : List (Nat × Nat × Nat)

structure CB where
  call : {α : Type} → FuncId → List SV → Mem → (SV → Mem → Option α) → Option α
  loop : {α : Type} → LAnn → C2 → St → (Out → St → Option α) → Option α

/-- A test that must be true. -/
def chk {α : Type} (b : Bool) (k : Option α) : Option α :=
  match b with
  | true => k
  | false => none

/-- The first name of what the operation with a slot makes. -/
def site (d : Nat) : Nat := 1000 + 32 * d

section
variable {α : Type}

def boolOp (op : BinOp) (x y : Bool) (K : SV → Option α) : Option α :=
  match op with
  | .eql => K (.bool (x == y))
  | .neq => K (.bool (x != y))
  | _ => none

def strOp (op : BinOp) (x y : ByteArray) (K : SV → Option α) : Option α :=
  match op with
  | .add => chk (decide (x.size + y.size ≤ 9223372036854775807)) (K (.str (x ++ y)))
  | .eql => K (.bool (x.toList == y.toList))
  | .neq => K (.bool (!(x.toList == y.toList)))
  | _ => none

def intOp (op : BinOp) (k : IntKind) (x y : Int) (K : SV → Option α) : Option α :=
  match op with
  | .add => K (.int k (k.wrap (x + y)))
  | .sub => K (.int k (k.wrap (x - y)))
  | .mul => K (.int k (k.wrap (x * y)))
  | .quo => chk (!decide (y = 0)) (K (.int k (k.wrap (x.tdiv y))))
  | .rem => chk (!decide (y = 0)) (K (.int k (x.tmod y)))
  | .eql => K (.bool (x == y))
  | .neq => K (.bool (x != y))
  | .lss => K (.bool (x < y))
  | .leq => K (.bool (x ≤ y))
  | .gtr => K (.bool (x > y))
  | .geq => K (.bool (x ≥ y))
  | .and => K (.int k (k.wrap (BitVec.ofInt k.bits x &&& BitVec.ofInt k.bits y).toNat))
  | .or => K (.int k (k.wrap (BitVec.ofInt k.bits x ||| BitVec.ofInt k.bits y).toNat))
  | .xor => K (.int k (k.wrap (BitVec.ofInt k.bits x ^^^ BitVec.ofInt k.bits y).toNat))
  | .andNot => K (.int k (k.wrap (BitVec.ofInt k.bits x &&& ~~~BitVec.ofInt k.bits y).toNat))
  | _ => none

def shOp (op : BinOp) (k : IntKind) (x y : Int) (K : SV → Option α) : Option α :=
  match op with
  | .shl => chk (decide (0 ≤ y)) (K (.int k (k.wrap (x * 2 ^ (min y.toNat k.bits)))))
  | .shr => chk (decide (0 ≤ y)) (K (.int k (x.fdiv (2 ^ (min y.toNat k.bits)))))
  | _ => none

def isShift : BinOp → Bool
  | .shl | .shr => true
  | _ => false

def nilTest (op : BinOp) (eq : Bool) (K : SV → Option α) : Option α :=
  match op with
  | .eql => K (.bool eq)
  | .neq => K (.bool (!eq))
  | _ => none

/-- Equality of values of one cell each, as far as it is plain. -/
def cellEq : TK → SV → SV → Option Bool
  | .int, .int k x, .int k' y => if k = k' then some (x == y) else none
  | .bool, .bool x, .bool y => some (x == y)
  | .str, .str x, .str y => some (x.toList == y.toList)
  | _, _, _ => none

def cellsEq : List TK → List SV → List SV → Option Bool
  | [], [], [] => some true
  | t :: ts, x :: l, y :: l' =>
    match cellEq t x y, cellsEq ts l l' with
    | some a, some b => some (a && b)
    | _, _ => none
  | _, _, _ => none

def binx (tk : TK) (op : BinOp) (x y : SV) (K : SV → Option α) : Option α :=
  match x, y with
  | .int k a, .int k' b => match isShift op with
    | true => shOp op k a b K
    | false => if k = k' then intOp op k a b K else none
  | .str a, .str b => strOp op a b K
  | .bool a, .bool b => if tk = .bool then boolOp op a b K else none
  | .nilp, .nilp => if tk = .ptr then nilTest op true K else none
  | .ptr _ _ _, .nilp => if tk = .ptr then nilTest op false K else none
  | .nilp, .ptr _ _ _ => if tk = .ptr then nilTest op false K else none
  | .nils, .nils => if tk = .slc then nilTest op true K else none
  | .pe, .nils => if tk = .slc then nilTest op false K else none
  | .ps _ _ xs, .nils => if tk = .slc then chk (decide (0 < xs.length)) (nilTest op false K) else none
  | _, _ => none

def eqsx (neg : Bool) (ks : List TK) (x y : SV) : Option SV :=
  match x, y with
  | .agg a, .agg b => match cellsEq ks a b with
    | some t => some (.bool (neg ^^ t))
    | none => none
  | _, _ => none

def unx (op : UnOp) (x : SV) : Option SV :=
  match op, x with
  | .not, .bool b => some (.bool (!b))
  | .neg, .int k n => some (.int k (k.wrap (0 - n)))
  | .xor, .int k n => some (.int k (k.wrap (BitVec.ofInt k.bits (if k.signed then -1 else k.max) ^^^ BitVec.ofInt k.bits n).toNat))
  | _, _ => none

def pickx (t : Bool) (a b : SV) (K : SV → Option α) : Option α :=
  match t with
  | true => K a
  | false => K b

def fillx : List SV → List (Nat × Nat × SV) → Option (List SV)
  | cs, [] => some cs
  | cs, (off, n, v) :: l =>
    if v.cellsOf.length = n ∧ v.cellsOk = true ∧ off + n ≤ cs.length then fillx (cs.take off ++ v.cellsOf ++ cs.drop (off + n)) l else none

/-- A cell of an object. -/
def Ob.cell (o : Ob) (i fo : Nat) : Option SV :=
  match o with
  | .cells cs => cs[i + fo]?
  | .row _ r xs => (r.svs (xs.getD i r.zero))[fo]?
  | .froz _ r xs => (r.svs (xs.getD i r.zero))[fo]?
  | .gone => none

/-- Cells of an object, from one on. -/
def Ob.part (o : Ob) (i fo n : Nat) : Option (List SV) :=
  match o with
  | .cells cs => if i + fo + n ≤ cs.length then some ((cs.drop (i + fo)).take n) else none
  | .row _ r xs => if fo + n ≤ r.size then some (((r.svs (xs.getD i r.zero)).drop fo).take n) else none
  | .froz _ r xs => if fo + n ≤ r.size then some (((r.svs (xs.getD i r.zero)).drop fo).take n) else none
  | .gone => none

def loadx (n : Option Nat) (x : SV) (m : Mem) : Option Eff :=
  match x, n with
  | .ptr k i fo, none => match m.get k with
    | some o => match o.cell i fo with | some v => some ⟨v, [], [k]⟩ | none => none
    | none => none
  | .ptr k i fo, some n => match m.get k with
    | some o => match o.part i fo n with | some vs => some ⟨.agg vs, [], [k]⟩ | none => none
    | none => none
  | .pptr e r xs i fo, none => match (Ob.froz e r xs).cell i fo with | some v => some ⟨v, [], []⟩ | none => none
  | .pptr e r xs i fo, some n => match (Ob.froz e r xs).part i fo n with | some vs => some ⟨.agg vs, [], []⟩ | none => none
  | _, _ => none

def storex (n : Nat) (x v : SV) (m : Mem) : Option Eff :=
  match x with
  | .ptr k i fo => if v.cellsOf.length = n ∧ v.cellsOk = true then
      match m.get k with
      | some (.cells cs) => if i + fo + n ≤ cs.length then some ⟨.dead, [(k, .cells (cs.take (i + fo) ++ v.cellsOf ++ cs.drop (i + fo + n)))], [k]⟩ else none
      | some (.row e r xs) => if fo + n ≤ r.size then
          match r.of [] ((r.svs (xs.getD i r.zero)).take fo ++ v.cellsOf ++ (r.svs (xs.getD i r.zero)).drop (fo + n)) with
          | some y => some ⟨.dead, [(k, .row e r (xs.set i y))], [k]⟩
          | none => none
        else none
      | _ => none
    else none
  | _ => none

/-- From l to h of what has so many. -/
def bounds (n : Nat) (lo hi : Option SV) (K : Nat → Nat → Option α) : Option α :=
  match lo, hi with
  | none, none => K 0 n
  | some (.int _ l), none => chk (decide (0 ≤ l)) (chk (decide (l ≤ n)) (K l.toNat n))
  | none, some (.int _ h) => chk (decide (0 ≤ h)) (chk (decide (h ≤ n)) (K 0 h.toNat))
  | some (.int _ l), some (.int _ h) => chk (decide (0 ≤ l)) (chk (decide (l ≤ h)) (chk (decide (h ≤ n)) (K l.toNat h.toNat)))
  | _, _ => none

/-- Is a value a list whose elements have so many cells? -/
def elemOk (sz : Nat) (x : SV) (m : Mem) : Bool :=
  match x with
  | .ps _ r _ => r.size == sz
  | .sl k _ _ => match m.get k with
    | some (.row _ r _) => r.size == sz
    | some (.froz _ r _) => r.size == sz
    | _ => false
  | .nils => true
  | .pe => true
  | _ => false

def cutx (sz : Option Nat) (x : SV) (lo hi : Option SV) (m : Mem) (K : SV → Option α) : Option α :=
  match sz with
  | none => match x with
    | .str s => bounds s.size lo hi fun l h => K (.str (s.extract l h))
    | _ => none
  | some sz => match elemOk sz x m with
    | false => none
    | true => match x with
      | .ps e r xs => bounds xs.length lo hi fun l h => K (.ps e r ((xs.take h).drop l))
      | .nils => bounds 0 lo hi fun _ _ => K .nils
      | .pe => bounds 0 lo hi fun _ _ => K .pe
      | .sl k off len => bounds len lo hi fun l h => K (.sl k (off + l) (h - l))
      | _ => none

def idxx (sz : Nat) (x i : SV) (m : Mem) (K : SV → Option α) : Option α :=
  match i with
  | .int _ n =>
    match elemOk sz x m with
    | false => none
    | true => match x with
      | .ps e r xs => chk (decide (0 ≤ n)) (chk (decide (n < xs.length)) (K (.pptr e r xs n.toNat 0)))
      | .sl k off len => chk (decide (0 ≤ n)) (chk (decide (n < len)) (K (.ptr k (off + n.toNat) 0)))
      | _ => none
  | _ => none

def strAt (s : ByteArray) (i : Int) : Int := ((s.data.toList.getD i.toNat 0).toNat : Int)

def ivx (x i : SV) (K : SV → Option α) : Option α :=
  match x, i with
  | .str s, .int _ n => chk (decide (0 ≤ n)) (chk (decide (n < s.size)) (K (.int .u8 (strAt s n))))
  | _, _ => none

def lenx (k : LenKind) (x : SV) : Option SV :=
  match k, x with
  | .str, .str s => some (.int .i64 s.size)
  | .slc, .ps _ _ xs => some (.int .i64 xs.length)
  | .slc, .sl _ _ len => some (.int .i64 len)
  | .slc, .nils => some (.int .i64 0)
  | .slc, .pe => some (.int .i64 0)
  | .cap, .nils => some (.int .i64 0)
  | _, _ => none

/-- The list that a value is. -/
def listOf (e : TypeId) (r : Row) (x : SV) (m : Mem) : Option (List r.T) := (Prim.slc e r).of m x

def SV.keys1 : SV → List Nat
  | .sl k _ _ => [k]
  | .slw k => [k]
  | .ptr k _ _ => [k]
  | _ => []

def appx (d : Nat) (e : TypeId) (r : Row) (bytes : Nat) (s x : SV) (m : Mem) (K : Eff → Option α) : Option α :=
  match listOf e r x m with
  | none => none
  | some ys =>
    match s with
    | .nils =>
      if (m.get (site d)).isNone then chk (decide (ys.length * bytes ≤ 140737488355328)) (K ⟨.slw (site d), [(site d, .row e r ys)], site d :: x.keys1⟩) else none
    | .slw k =>
      match m.get k with
      | some (.row e' r' xs) =>
        if h : r' = r then
          if e' = e ∧ x.keys1 ≠ [k] ∧ (m.get (site d)).isNone then
            chk (decide ((xs.length + ys.length) * bytes ≤ 140737488355328))
              (K ⟨.slw (site d), [(k, .gone), (site d, .row e r (castRow h xs ++ ys))], k :: site d :: x.keys1⟩)
          else none
        else none
      | _ => none
    | .sl k off len =>
      match m.get k with
      | some (.row e' r' xs) =>
        if h : r' = r then
          if e' = e ∧ off = 0 ∧ x.keys1 ≠ [k] ∧ (m.get (site d)).isNone then
            chk (decide (len ≤ xs.length)) (chk (decide ((len + ys.length) * bytes ≤ 140737488355328))
              (K ⟨.slw (site d), [(k, .gone), (site d, .row e r ((castRow h xs).take len ++ ys))], k :: site d :: x.keys1⟩))
          else none
        else none
      | _ => none
    | _ => none

def growx (d : Nat) (e : TypeId) (r : Row) (bytes : Nat) (s n : SV) (m : Mem) (K : Eff → Option α) : Option α :=
  match s, n with
  | .nils, .int .i64 n =>
    if (m.get (site d)).isNone then chk (decide (0 < n)) (chk (decide (n * bytes ≤ 140737488355328)) (K ⟨.slw (site d), [(site d, .row e r (List.replicate n.toNat r.zero))], [site d]⟩)) else none
  | _, _ => none

def mkx (d : Nat) (e : TypeId) (r : Row) (bytes : Nat) (n c : SV) (m : Mem) (K : Eff → Option α) : Option α :=
  match n, c with
  | .int .i64 n, .int .i64 c =>
    if (m.get (site d)).isNone then chk (decide (0 ≤ n)) (chk (decide (n ≤ c)) (chk (decide (c * bytes ≤ 140737488355328)) (K ⟨.slw (site d), [(site d, .row e r (List.replicate n.toNat r.zero))], [site d]⟩))) else none
  | _, _ => none

def litx (d : Nat) (e : TypeId) (r : Row) (m : Mem) : (parts : List (Nat × SV)) → List r.T → List Nat → Option Eff
  | [], xs, ks => if (m.get (site d)).isNone then some ⟨.slw (site d), (freeze m ks) ++ [(site d, .row e r xs)], site d :: ks⟩ else none
  | (_, v) :: l, xs, ks =>
    match r.of m v.cellsOf with
    | some y => litx d e r m l (xs ++ [y]) (ks ++ v.cellsOf.flatMap SV.keys1)
    | none => none
end

/-! ### calls: the objects that the arguments lead to are handed over, under names from 0 on -/

def SV.refs : SV → List Nat
  | .sl k _ _ => [k]
  | .slw k => [k]
  | .ptr k _ _ => [k]
  | .agg cs => refsL cs
  | .tup cs => refsL cs
  | .fn _ cs => refsL cs
  | _ => []
where
  refsL : List SV → List Nat
    | [] => []
    | x :: l => x.refs ++ refsL l

def SV.hasPs : SV → Bool
  | .ps _ _ _ => true
  | .pptr _ _ _ _ _ => true
  | .agg cs => hasL cs
  | .tup cs => hasL cs
  | .fn _ cs => hasL cs
  | _ => false
where
  hasL : List SV → Bool
    | [] => false
    | x :: l => x.hasPs || hasL l

def SV.ren (ρ : Nat → Option Nat) : SV → SV
  | .sl k off len => match ρ k with | some k' => .sl k' off len | none => .dead
  | .slw k => match ρ k with | some k' => .slw k' | none => .dead
  | .ptr k i fo => match ρ k with | some k' => .ptr k' i fo | none => .dead
  | .agg cs => .agg (renL ρ cs)
  | .tup cs => .tup (renL ρ cs)
  | .fn f cs => .fn f (renL ρ cs)
  | x => x
where
  renL (ρ : Nat → Option Nat) : List SV → List SV
    | [] => []
    | x :: l => x.ren ρ :: renL ρ l

def Ob.refs : Ob → List Nat
  | .cells cs => SV.refs.refsL cs
  | _ => []

def Ob.ren (ρ : Nat → Option Nat) : Ob → Ob
  | .cells cs => .cells (SV.ren.renL ρ cs)
  | o => o

def Row.hasSlc : Row → Bool
  | .nil => false
  | .cons (.slc _ _) _ => true
  | .cons _ r => r.hasSlc

def Ob.hasPs : Ob → Bool
  | .cells cs => SV.hasPs.hasL cs
  | .row _ r _ => r.hasSlc
  | .froz _ _ _ => true
  | .gone => false

def addNew (ks : List Nat) : List Nat → List Nat
  | [] => ks
  | k :: l => if ks.contains k then addNew ks l else addNew (ks ++ [k]) l

/-- All names that are reached from some, within so many rounds; the i-th one's own references are looked at in round i. -/
def reach (m : Mem) : Nat → Nat → List Nat → List Nat
  | 0, _, ks => ks
  | n + 1, i, ks =>
    match ks[i]? with
    | none => ks
    | some k => match m.get k with
      | some o => reach m n (i + 1) (addNew ks o.refs)
      | none => reach m n (i + 1) ks

/-- Are these names closed: each is there, and leads to nothing else? -/
def closedIn (m : Mem) (ks : List Nat) : Bool :=
  ks.all fun k => match m.get k with
    | some o => o.refs.all ks.contains
    | none => false

def posIn : List Nat → Nat → Nat → Option Nat
  | [], _, _ => none
  | k :: l, i, q => if q = k then some i else posIn l (i + 1) q

def subMem (m : Mem) (ρ : Nat → Option Nat) : List Nat → Nat → Mem
  | [], _ => []
  | k :: l, i => match m.get k with
    | some o => (i, o.ren ρ) :: subMem m ρ l (i + 1)
    | none => subMem m ρ l (i + 1)

/-- An argument as a callee has it that writes no list: pieces of rows are lists that nobody writes. -/
def SV.pure (m : Mem) : SV → SV
  | .sl k off len => match m.get k with
    | some (.row e r xs) => .ps e r ((xs.drop off).take len)
    | some (.froz e r xs) => .ps e r ((xs.drop off).take len)
    | _ => .dead
  | .slw k => match m.get k with
    | some (.row e r xs) => .ps e r xs
    | some (.froz e r xs) => .ps e r xs
    | _ => .dead
  | .agg cs => .agg (pureL m cs)
  | x => x
where
  pureL (m : Mem) : List SV → List SV
    | [] => []
    | x :: l => x.pure m :: pureL m l

/-- The names of the rows that pureness borrows. -/
def SV.lent (m : Mem) : SV → List Nat
  | .sl k _ _ => match m.get k with | some (.row _ _ _) => [k] | _ => []
  | .slw k => match m.get k with | some (.row _ _ _) => [k] | _ => []
  | .agg cs => lentL m cs
  | _ => []
where
  lentL (m : Mem) : List SV → List Nat
    | [] => []
    | x :: l => x.lent m ++ lentL m l

def backName (ks : List Nat) (d : Nat) (j : Nat) : Nat := if j < ks.length then ks.getD j 0 else site d + 1 + (j - ks.length)

/-- What comes back: the objects, under the caller's names. -/
def backMem (ks : List Nat) (d : Nat) : Mem → List (Nat × Ob)
  | [] => []
  | (j, o) :: l => (backName ks d j, o.ren fun q => some (backName ks d q)) :: backMem ks d l

def names : Mem → List Nat
  | [] => []
  | (k, _) :: l => k :: names l

def distinct : List Nat → Bool
  | [] => true
  | k :: l => !l.contains k && distinct l

/-- What a callee does not tell of is as it was. -/
def fillMem (s m : Mem) : Mem := (s.filter fun x => !(names m).contains x.1) ++ m

/-- What a caller makes of what comes back. -/
def callBack (d : Nat) (args : List SV) (lent ks : List Nat) (m : Mem) (v : SV) (m' : Mem) : Option Eff :=
  if distinct (names (backMem ks d (fillMem (subMem m (posIn ks 0) ks 0) m'))) && ((names (backMem ks d m')).filter fun k => !ks.contains k).all (fun k => (m.get k).isNone) then
    some ⟨v.ren fun q => some (backName ks d q), (if v.hasPs || (fillMem (subMem m (posIn ks 0) ks 0) m').any (fun x => x.2.hasPs) then freeze m lent else []) ++ backMem ks d m',
      lent ++ (SV.refs.refsL args) ++ ks ++ (names (backMem ks d m')).filter fun k => !ks.contains k⟩
  else none

def callWith {α : Type} (cb : CB) (d : Nat) (f : FuncId) (args as : List SV) (lent ks : List Nat) (m : Mem) (K : Eff → Option α) : Option α :=
  if closedIn m ks && lent.all (fun k => !ks.contains k) && distinct ks then
    cb.call f (SV.ren.renL (posIn ks 0) as) (subMem m (posIn ks 0) ks 0) fun v m' =>
      match callBack d args lent ks m v m' with
      | some e => K e
      | none => none
  else none

def pureSome (m : Mem) (ps : Nat → Bool) : Nat → List SV → List SV
  | _, [] => []
  | i, x :: l => (match ps i with | true => x.pure m | false => x) :: pureSome m ps (i + 1) l

def lentSome (m : Mem) (ps : Nat → Bool) : Nat → List SV → List Nat
  | _, [] => []
  | i, x :: l => (match ps i with | true => x.lent m | false => []) ++ lentSome m ps (i + 1) l

def CC.pureAt (c : CC) (i : Nat) : Bool := match c.ref with | true => c.pures.contains i | false => true

def callArgs (byRef : FuncId → CC) (f : FuncId) (args : List SV) (m : Mem) : List SV := pureSome m (byRef f).pureAt 0 args
def callLent (byRef : FuncId → CC) (f : FuncId) (args : List SV) (m : Mem) : List Nat := lentSome m (byRef f).pureAt 0 args
def callKeys (as : List SV) (m : Mem) : List Nat := reach m 64 0 (addNew [] (SV.refs.refsL as))

def callx {α : Type} (cb : CB) (byRef : FuncId → CC) (d : Nat) (f : FuncId) (args : List SV) (m : Mem) (K : Eff → Option α) : Option α :=
  callWith cb d f args (callArgs byRef f args m) (callLent byRef f args m) (callKeys (callArgs byRef f args m) m) m K

/-- A list that is nil comes under a name, as an empty row. -/
def nil1 (key : Nat) (args : List SV) (h : Nat × Nat × TypeId × Row) (m : Mem) : List (Nat × Ob) :=
  match args.getD h.1 .dead with
  | .ptr k i fo => match m.get k with
    | some (.cells cs) => match cs.getD (i + fo + h.2.1) .dead with
      | .nils => if (m.get key).isNone ∧ 0 < h.2.2.2.size then [(k, .cells (cs.set (i + fo + h.2.1) (.slw key))), (key, .row h.2.2.1 h.2.2.2 [])] else []
      | _ => []
    | _ => []
  | _ => []

def nilFp1 (key : Nat) (args : List SV) (h : Nat × Nat × TypeId × Row) : List Nat :=
  match args.getD h.1 .dead with
  | .ptr k _ _ => [k, key]
  | _ => []

def nilsUpd (d : Nat) (args : List SV) : List (Nat × Nat × TypeId × Row) → Nat → Mem → List (Nat × Ob)
  | [], _, _ => []
  | h :: l, n, m => nil1 (site d + 24 + n) args h m ++ nilsUpd d args l (n + 1) (m.sets (nil1 (site d + 24 + n) args h m))

def nilsFp (d : Nat) (args : List SV) : List (Nat × Nat × TypeId × Row) → Nat → List Nat
  | [], _ => []
  | h :: l, n => nilFp1 (site d + 24 + n) args h ++ nilsFp d args l (n + 1)

/-- A call, behind such names. -/
def callx2 {α : Type} (cb : CB) (byRef : FuncId → CC) (d : Nat) (f : FuncId) (args : List SV) (m : Mem) (K : Eff → Option α) : Option α :=
  callx cb byRef d f args (m.sets (nilsUpd d args (byRef f).nils 0 m)) fun e => K ⟨e.val, nilsUpd d args (byRef f).nils 0 m ++ e.upd, nilsFp d args (byRef f).nils 0 ++ e.fp⟩

def someV {α : Type} (v : Option SV) (K : Eff → Option α) : Option α :=
  match v with
  | some v => K ⟨v, [], []⟩
  | none => none

def someE {α : Type} (v : Option Eff) (K : Eff → Option α) : Option α :=
  match v with
  | some e => K e
  | none => none

def opx {α : Type} (cb : CB) (byRef : FuncId → CC) (d : Nat) (op : O2) (ts : List SV) (m : Mem) (K : Eff → Option α) : Option α :=
  match op with
  | .mov x => K ⟨x.ev ts, [], []⟩
  | .pick c a b => match c.ev ts with | .bool t => pickx t (a.ev ts) (b.ev ts) fun v => K ⟨v, [], []⟩ | _ => none
  | .alloc zs => if (m.get (site d)).isNone then K ⟨.ptr (site d) 0 0, [(site d, .cells zs)], [site d]⟩ else none
  | .box n x => if (x.ev ts).cellsOf.length = n ∧ (x.ev ts).cellsOk = true ∧ (m.get (site d)).isNone then K ⟨.ptr (site d) 0 0, [(site d, .cells (x.ev ts).cellsOf)], [site d]⟩ else none
  | .build zs parts => match fillx zs (parts.map fun p => (p.1, p.2.1, p.2.2.ev ts)) with | some cs => K ⟨.agg cs, [], []⟩ | none => none
  | .lit e r parts => someE (litx d e r m (parts.map fun p => (p.1, p.2.ev ts)) [] []) K
  | .ld n x => someE (loadx n (x.ev ts) m) K
  | .st n x v => someE (storex n (x.ev ts) (v.ev ts) m) K
  | .nilck x => match x.ev ts with | .ptr k i fo => K ⟨.ptr k i fo, [], []⟩ | .fn f c => K ⟨.fn f c, [], []⟩ | _ => none
  | .bin tk op x y => binx tk op (x.ev ts) (y.ev ts) fun v => K ⟨v, [], []⟩
  | .eqs neg ks x y => someV (eqsx neg ks (x.ev ts) (y.ev ts)) K
  | .un op x => someV (unx op (x.ev ts)) K
  | .conv k x => match x.ev ts with | .int _ n => K ⟨.int k (k.wrap n), [], []⟩ | _ => none
  | .b2s e x => match listOf e (.cons (.int .u8) .nil) (x.ev ts) m with | some xs => K ⟨.str (strOfNums xs), [], (x.ev ts).keys1⟩ | none => none
  | .sid x => match x.ev ts with | .str s => K ⟨.str s, [], []⟩ | _ => none
  | .cut sz x lo hi => cutx sz ((x.ev ts).res m) (lo.map (·.ev ts)) (hi.map (·.ev ts)) m fun v => K ⟨v, [], (x.ev ts).keys1⟩
  | .fa x off => match x.ev ts with | .ptr k i fo => K ⟨.ptr k i (fo + off), [], []⟩ | .pptr e r xs i fo => K ⟨.pptr e r xs i (fo + off), [], []⟩ | _ => none
  | .fv x off n => match x.ev ts, n with
    | .agg cs, none => someV cs[off]? K
    | .agg cs, some n => if off + n ≤ cs.length then K ⟨.agg ((cs.drop off).take n), [], []⟩ else none
    | _, _ => none
  | .ia sz x i => idxx sz ((x.ev ts).res m) (i.ev ts) m fun v => K ⟨v, [], (x.ev ts).keys1⟩
  | .iv x i => ivx (x.ev ts) (i.ev ts) fun v => K ⟨v, [], []⟩
  | .ext x i => match x.ev ts with | .tup vs => someV vs[i]? K | _ => none
  | .call f args => callx2 cb byRef d f (args.map (·.ev ts)) m K
  | .callv x args => match x.ev ts with | .fn f c => callx2 cb byRef d f (args.map (·.ev ts) ++ c) m K | _ => none
  | .len k x => match lenx k ((x.ev ts).res m) with | some v => K ⟨v, [], (x.ev ts).keys1⟩ | none => none
  | .app e r bytes s x => appx d e r bytes (s.ev ts) (x.ev ts) m K
  | .mn x y => match x.ev ts, y.ev ts with | .int k a, .int _ b => K ⟨.int k (if b < a then b else a), [], []⟩ | _, _ => none
  | .mx x y => match x.ev ts, y.ev ts with | .int k a, .int _ b => K ⟨.int k (if b > a then b else a), [], []⟩ | _, _ => none
  | .mkfn f cap => K ⟨.fn f (cap.map (·.ev ts)), [], []⟩
  | .grow e r bytes s n => growx d e r bytes (s.ev ts) (n.ev ts) m K
  | .mk e r bytes n c => mkx d e r bytes (n.ev ts) (c.ev ts) m K
  | .no => none

def apply (d : Option Nat) (e : Eff) (st : St) : St :=
  { tmps := match d with | some d => st.tmps.set d e.val | none => st.tmps, mem := st.mem.sets e.upd }

def skipOp (d : Option Nat) (st : St) : St :=
  { st with tmps := match d with | some d => st.tmps.set d (.tup []) | none => st.tmps }

/-- The slot that an operation's guard looks at. -/
def guardSlot (ops : List Op2) (j : Nat) : Option Nat := match ops[j]? with | some o => o.dst | none => none

def setTmp (t : Option Nat) (v : SV) (st : St) : St :=
  match t with
  | some t => { st with tmps := st.tmps.set t v }
  | none => st

section
variable (cb : CB) (byRef : FuncId → CC) {α : Type}

def forceL {α : Type} : List SV → (List SV → Option α) → Option α
  | [], k => k []
  | x :: l, k => forceL l fun l' => k (x :: l')

def forceM {α : Type} : Mem → (Mem → Option α) → Option α
  | [], k => k []
  | (q, o) :: m, k => forceM m fun m' => k ((q, o) :: m')

/-- The state, laid out: it makes the kernel's work less. -/
def forceSt {α : Type} (st : St) (K : St → Option α) : Option α := forceL st.tmps fun ts => forceM st.mem fun m => K ⟨ts, m⟩

def step (o : Op2) (st : St) (K : Eff → St → Option α) : Option α :=
  opx cb byRef (o.dst.getD 0) o.op st.tmps st.mem fun e => forceSt (apply o.dst e st) fun st' => K e st'

/-- A region, in the order of the text; the trace: what each operation came to. -/
def runOps (ops : List Op2) : List Op2 → St → List (Option Eff) → (St → List (Option Eff) → Option α) → Option α
  | [], st, tr, K => K st tr
  | o :: l, st, tr, K =>
    match o.guard with
    | none => step cb byRef o st fun e st' => runOps ops l st' (some e :: tr) K
    | some (j, want) =>
      match guardSlot ops j with
      | none => none
      | some t =>
        match st.tmps.getD t .dead with
        | .bool b =>
          match b with
          | true => match want with
            | true => step cb byRef o (setTmp (some t) (.bool true) st) fun e st' => runOps ops l st' (some e :: tr) K
            | false => runOps ops l (skipOp o.dst (setTmp (some t) (.bool true) st)) (none :: tr) K
          | false => match want with
            | false => step cb byRef o (setTmp (some t) (.bool false) st) fun e st' => runOps ops l st' (some e :: tr) K
            | true => runOps ops l (skipOp o.dst (setTmp (some t) (.bool false) st)) (none :: tr) K
        | .tup vs => match vs with
          | [] => runOps ops l (skipOp o.dst st) (none :: tr) K
          | _ :: _ => none
        | _ => none

/-! ### an order that is left open -/

def Opd.slots : Opd → List Nat
  | .tmp t => [t]
  | .k _ => []

def O2.opds : O2 → List Opd
  | .mov x | .box _ x | .ld _ x | .nilck x | .un _ x | .conv _ x | .b2s _ x | .sid x | .fa x _ | .fv x _ _ | .ext x _ | .len _ x => [x]
  | .pick a b c => [a, b, c]
  | .alloc _ | .no => []
  | .build _ ps => ps.map (·.2.2)
  | .lit _ _ ps => ps.map (·.2)
  | .st _ x y | .bin _ _ x y | .eqs _ _ x y | .ia _ x y | .iv x y | .app _ _ _ x y | .grow _ _ _ x y | .mk _ _ _ x y | .mn x y | .mx x y => [x, y]
  | .cut _ x lo hi => x :: (lo.toList ++ hi.toList)
  | .call _ as => as
  | .callv x as => x :: as
  | .mkfn _ as => as

def Op2.looks (ops : List Op2) (o : Op2) : List Nat :=
  o.op.opds.flatMap Opd.slots ++ (match o.guard with | some (j, _) => (guardSlot ops j).toList | none => [])

def disjoint (a b : List Nat) : Bool := a.all fun k => !b.contains k

/-- May two operations change places? -/
def free2 (ops : List Op2) (x y : Op2) (ex ey : Option Eff) : Bool :=
  (match x.dst with | some d => !(y.looks ops).contains d && y.dst != some d | none => true) &&
  (match y.dst with | some d => !(x.looks ops).contains d | none => true) &&
  (match ex, ey with
   | some a, some b => disjoint (names a.upd) (b.fp ++ names b.upd) && disjoint (names b.upd) (a.fp ++ names a.upd)
   | _, _ => true)

/-- A number, laid out. -/
def forceN {β : Type} (n : Nat) (k : Nat → β) : β :=
  match n with
  | 0 => k 0
  | m + 1 => k (m + 1)

/-- A set of small numbers, as the bits of one. -/
def maskOf : List Nat → Nat
  | [] => 0
  | k :: l => Nat.lor (Nat.shiftLeft 1 k) (maskOf l)

/-- What an operation of a region looks at and turns; and which must have run ahead of it, through others. -/
structure PM where
  i : Nat
  am : Nat
  d : Nat
  l : Nat
  u : Nat
  f : Nat

def lookAm (j : Nat) : List PM → Nat
  | [] => 0
  | p :: r => match Nat.beq p.i j with
    | true => p.am
    | false => lookAm j r

def aheadMask (prev : List PM) : List Nat → Nat
  | [] => 0
  | j :: l => Nat.lor (Nat.lor (Nat.shiftLeft 1 j) (lookAm j prev)) (aheadMask prev l)

def updN (e : Option Eff) : List Nat := match e with | some e => names e.upd | none => []
def fpOf (e : Option Eff) : List Nat := match e with | some e => e.fp ++ names e.upd | none => []

def hasBit (m i : Nat) : Bool := Nat.beq (Nat.land (Nat.shiftRight m i) 1) 1
def apart (a b : Nat) : Bool := Nat.beq (Nat.land a b) 0

def pairOk (p q : PM) : Bool := apart p.d (Nat.lor q.l q.d) && (apart q.d p.l && (apart p.u q.f && apart q.u p.f))

def chkPrev (q : PM) : List PM → Bool
  | [] => true
  | p :: r => match hasBit q.am p.i with
    | true => chkPrev q r
    | false => match pairOk p q with
      | true => chkPrev q r
      | false => false

def withPM {β : Type} (ops : List Op2) (o : Op2) (e : Option Eff) (i : Nat) (prev : List PM) (k : PM → β) : β :=
  forceN (aheadMask prev o.ahead) fun am => forceN (maskOf o.dst.toList) fun d => forceN (maskOf (o.looks ops)) fun l => forceN (maskOf (updN e)) fun u => forceN (maskOf (fpOf e)) fun f => k ⟨i, am, d, l, u, f⟩

def chkGo (ops : List Op2) : List Op2 → List (Option Eff) → Nat → List PM → Bool
  | [], _, _, _ => true
  | o :: r, es, i, prev => withPM ops o (es.headD none) i prev fun q => match chkPrev q prev with
    | true => chkGo ops r es.tail (i + 1) (q :: prev)
    | false => false

def anyOrder (ops : List Op2) (tr : List (Option Eff)) : Bool := chkGo ops ops tr.reverse 0 []

/-! ### loops: what is kept at the head of a round -/

def keepLive (live : List Nat) : Nat → List SV → List SV
  | _, [] => []
  | i, v :: l => (if live.contains i then v else .dead) :: keepLive live (i + 1) l

def renSt (ρ : Nat → Option Nat) (st : St) : St :=
  { tmps := SV.ren.renL ρ st.tmps, mem := st.mem.filterMap fun x => match ρ x.1 with | some k => some (k, x.2.ren ρ) | none => none }

/-- The names that stay as they are: those that were not made at a slot that is written in the loop, nor are gone. Names below 500 are the callers'. -/
def stays (an : LAnn) (m : Mem) (k : Nat) : Option Nat :=
  match m.get k with
  | some .gone => if k < 500 then some k else none
  | some _ => if k < 1000 then some k else if an.inner.contains ((k - 1000) / 32) then none else some k
  | none => none

def AccAt.get (a : AccAt) (st : St) : SV :=
  match a with
  | .slot t => st.tmps.getD t .dead
  | .cell key off => match st.mem.get key with
    | some (.cells cs) => cs.getD off .dead
    | _ => .dead

def AccAt.put (a : AccAt) (v : SV) (st : St) : St :=
  match a with
  | .slot t => { st with tmps := st.tmps.set t v }
  | .cell key off => match st.mem.get key with
    | some (.cells cs) => { st with mem := st.mem.set key (.cells (cs.set off v)) }
    | _ => st

/-- Under another name. -/
def moveName (k key : Nat) (st : St) : St :=
  match decide (k < 500) with
  | true => { renSt (fun q => if q = k then some key else some q) st with mem := (renSt (fun q => if q = k then some key else some q) st).mem.set k .gone }
  | false => renSt (fun q => if q = k then some key else some q) st

/-- A row that is cut down to its first elements, under another name; the elder name is gone. -/
def cutDown (t : AccAt) (k key : Nat) (o : Ob) (st : St) : St :=
  { tmps := (t.put (.slw key) st).tmps, mem := ((t.put (.slw key) st).mem.set k .gone).set key o }

/-- A list that grows in the loop comes under its name of the loop. -/
def rehome : List (AccAt × Nat × TypeId × Row) → St → Option St
  | [], st => some st
  | (t, key, e, r) :: l, st =>
    match t.get st with
    | .nils => if (st.mem.get key).isNone ∧ 500 ≤ key ∧ 0 < r.size then rehome l { tmps := (t.put (.slw key) st).tmps, mem := (t.put (.slw key) st).mem.set key (.row e r []) } else none
    | .sl k off len =>
      -- the first elements of a row: the row is cut down to them
      match st.mem.get k with
      | some (.row e' r' xs) =>
        if off = 0 ∧ k ≠ key ∧ (st.mem.get key).isNone ∧ 500 ≤ key then
          chk (decide (len ≤ xs.length)) (rehome l (cutDown t k key (.row e' r' (xs.take len)) st))
        else none
      | _ => none
    | .slw k =>
      if k = key then rehome l st
      else if (st.mem.get key).isNone ∧ 500 ≤ key then rehome l (moveName k key st)
      else none
    | _ => none

def insKey (k : Nat) : List Nat → List Nat
  | [] => [k]
  | q :: l => if k < q then k :: q :: l else if k = q then q :: l else q :: insKey k l

def sortKeys : List Nat → List Nat
  | [] => []
  | k :: l => insKey k (sortKeys l)

def pickMem (m : Mem) : List Nat → Mem
  | [] => []
  | k :: l => match m.get k with
    | some o => (k, o) :: pickMem m l
    | none => pickMem m l

/-- The memory, by its names' order. -/
def canon (m : Mem) : Mem := pickMem m (sortKeys (names m))

def dropGone (m : Mem) (k : Nat) : Option Nat :=
  match m.get k with
  | some .gone => if k < 500 then some k else none
  | _ => some k

def headOf (an : LAnn) (st : St) : Option St :=
  let st1 : St := { st with tmps := keepLive an.live 0 st.tmps }
  match rehome an.acc (renSt (dropGone st1.mem) st1) with
  | some st2 => some { tmps := (renSt (stays an st2.mem) st2).tmps, mem := canon (renSt (stays an st2.mem) st2).mem }
  | none => none

/-- What is kept behind a loop: what is looked at there, and what that leads to. -/
def tailOf (an : LAnn) (st : St) : St :=
  let ts := keepLive an.out 0 st.tmps
  let ks := reach st.mem 64 0 (addNew ((names st.mem).filter fun k => decide (k < 500)) (SV.refs.refsL ts))
  let st' := renSt (fun k => if ks.contains k then some k else none) { tmps := ts, mem := st.mem }
  { tmps := st'.tmps, mem := canon st'.mem }

def exec : C2 → St → (Out → St → Option α) → Option α
  | .skip, st, K => K .norm st
  | .region ops draw, st, K =>
    match draw with
    | false => runOps cb byRef ops ops st [] fun st' _ => K .norm st'
    | true => runOps cb byRef ops ops st [] fun st' tr => match anyOrder ops tr with | true => K .norm st' | false => none
  | .seq a b, st, K => exec a st fun o st' => match o with
    | .norm => exec b st' K
    | .exit id => K (.exit id) st'
    | .ret => K .ret st'
  | .cond c x y, st, K =>
    match c with
    | .tmp t => match st.tmps.getD t .dead with
      | .bool b => match b with
        | true => exec x { st with tmps := st.tmps.set t (.bool true) } K
        | false => exec y { st with tmps := st.tmps.set t (.bool false) } K
      | _ => none
    | .k (.bool true) => exec x st K
    | .k (.bool false) => exec y st K
    | _ => none
  | .block id b, st, K => exec b st fun o st' => match o with
    | .exit q => if q = id then K .norm st' else K (.exit q) st'
    | .norm => K .norm st'
    | .ret => K .ret st'
  | .loop an b, st, K => match headOf an st with
    | none => none
    | some st1 => cb.loop an b st1 K
  | .exit id, st, K => K (.exit id) st
  | .ret, st, K => K .ret st
  | .stuck, _, _ => none

/-- One round of a loop, and what follows. -/
def round (an : LAnn) (b : C2) (next : St → Option α) (st : St) (K : Out → St → Option α) : Option α :=
  exec cb byRef b st fun o st' => match o with
    | .norm => match headOf an st' with | some s => next s | none => none
    | .exit q => K (.exit q) (tailOf an st')
    | .ret => K .ret (tailOf an st')

def rounds (an : LAnn) (b : C2) : Nat → St → (Out → St → Option α) → Option α
  | 0, _, _ => none
  | n + 1, st, K => round cb byRef an b (fun s => rounds an b n s K) st K
end

/-- Where the results lie. -/
inductive RV where
  | tmp (t : Nat)
  | cell (t n : Nat) (agg : Bool)

structure FD where
  params : Nat
  ntmps : Nat
  results : List RV
  /-- of which kinds the results' cells are, where that is plain -/
  kinds : List (List Prim)
  body : C2

/-- A list that is nil, as a list. -/
def norm1 (p : Prim) (x : SV) : SV :=
  match p, x with
  | .slc e r, .nils => .ps e r []
  | .slc e r, .pe => .ps e r []
  | _, x => x

def normL : List Prim → List SV → List SV
  | p :: ps, x :: l => norm1 p x :: normL ps l
  | _, l => l

def normV (ps : List Prim) (x : SV) : SV :=
  match x with
  | .agg cs => .agg (normL ps cs)
  | x => match ps with
    | [p] => norm1 p x
    | _ => x

def normVs : List (List Prim) → List SV → List SV
  | ps :: l, x :: xs => normV ps x :: normVs l xs
  | _, xs => xs

def normR (kinds : List (List Prim)) (v : SV) : SV :=
  match v with
  | .tup vs => .tup (normVs kinds vs)
  | v => match kinds with
    | [ps] => normV ps v
    | _ => v

def rvOf (st : St) (r : RV) : Option SV :=
  match r with
  | .tmp t => some (st.tmps.getD t .dead)
  | .cell t n agg => match loadx (if agg then some n else none) (st.tmps.getD t .dead) st.mem with | some e => some e.val | none => none

def rvsOf (st : St) : List RV → Option (List SV)
  | [] => some []
  | r :: l => match rvOf st r, rvsOf st l with
    | some v, some vs => some (v :: vs)
    | _, _ => none

def resOf (rs : List RV) (st : St) : Option SV :=
  match rvsOf st rs with
  | some [v] => some v
  | some vs => some (.tup vs)
  | none => none

/-- What a callee gives back: the objects that it was handed, and those that the results and these lead to, under names from 0 on. -/
def giveBack {α : Type} (n : Nat) (v : SV) (m : Mem) (K : SV → Mem → Option α) : Option α :=
  let ks := reach m 64 0 (addNew (List.range n) v.refs)
  if closedIn m ks && distinct ks then K (v.ren (posIn ks 0)) (subMem m (posIn ks 0) ks 0) else none

/-- Results as lists that nobody writes. -/
def SV.pureR (m : Mem) : SV → SV
  | .tup vs => .tup (SV.pure.pureL m vs)
  | v => v.pure m

def SV.lentR (m : Mem) : SV → List Nat
  | .tup vs => SV.lent.lentL m vs
  | v => v.lent m

/-- What a callee gives back whose results nobody writes: lists that nobody writes. -/
def givePure {α : Type} (kinds : List (List Prim)) (n : Nat) (v : SV) (m : Mem) (K : SV → Mem → Option α) : Option α :=
  let ks := reach m 64 0 (addNew (List.range n) (v.pureR m).refs)
  if closedIn m ks && distinct ks && (v.lentR m).all (fun k => !ks.contains k) then K (normR kinds ((v.pureR m).ren (posIn ks 0))) (subMem m (posIn ks 0) ks 0) else none

/-- Does code that ends so end the function? -/
def Out.ends : Out → Bool
  | .exit _ => false
  | _ => true

def retArgs (v : SV) (n : Nat) : List SV :=
  (match v with | .tup vs => vs | v => [v]) ++ (List.range n).map fun j => .ptr j 0 0

/-- A list comes under a new name; the elder name is gone. -/
def retMove1 (key : Nat) (n : Nat) (h : Nat × Nat × Nat) (v : SV) (m : Mem) : Option (SV × Mem) :=
  match (retArgs v n).getD h.1 .dead with
  | .ptr k i fo => match m.get k with
    | some (.cells cs) => match cs.getD (i + fo + h.2.1) .dead with
      | .slw j => if j = h.2.2 then
          (if (m.get key).isNone ∧ 500 ≤ key ∧ j ≠ key then some ((moveName j key ⟨[v], m⟩).tmps.getD 0 .dead, (moveName j key ⟨[v], m⟩).mem) else none)
        else match m.get h.2.2 with
          | some (.row _ _ _) => some (v, m.set h.2.2 .gone)
          | some .gone => some (v, m)
          | _ => none
      | _ => none
    | _ => none
  | _ => none

def retMoves (n : Nat) : List (Nat × Nat × Nat) → Nat → SV → Mem → Option (SV × Mem)
  | [], _, v, m => some (v, m)
  | h :: l, c, v, m => match retMove1 (9000000 + c) n h v m with
    | some p => retMoves n l (c + 1) p.1 p.2
    | none => none

def callBody {α : Type} (cb : CB) (byRef : FuncId → CC) (rc : RC) (fd : FD) (args : List SV) (m : Mem) (K : SV → Mem → Option α) : Option α :=
  if args.length = fd.params ∧ m.length ≤ 500 ∧ (m.all fun x => x.1 < m.length) = true then
    exec cb byRef fd.body { tmps := args ++ List.replicate (fd.ntmps - args.length) .dead, mem := m } fun o st =>
      match o.ends with
      | true => match resOf fd.results st with
        | some v => match retMoves m.length rc.moves 0 v (st.mem.sets (nilsUpd 99999 (retArgs v m.length) rc.nils 0 st.mem)) with
          | some p => match rc.pur with
            | true => givePure fd.kinds m.length p.1 p.2 K
            | false => giveBack m.length p.1 p.2 K
          | none => none
        | none => none
      | false => none
  else none
end Go.Proofs.Ytgfanlafbjbkaaa.S2
