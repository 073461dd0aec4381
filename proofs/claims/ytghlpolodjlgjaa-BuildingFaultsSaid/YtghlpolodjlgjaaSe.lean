/- The symbolic evaluator itself (own work): what an operation, a region and a function's body do to a symbolic state. -/
import Derived.Test.YtghlpolodjlgjaaSy
namespace Go.Proofs.Ytghlpolodjlgjaa.Sy
open Go
set_option linter.unusedVariables false

/-! The evaluator's own control: to be told apart from the program's conditions. -/
def nott : Bool → Bool | true => false | false => true
def andd : Bool → Bool → Bool | true, y => y | false, _ => false
def anyB {α : Type} (p : α → Bool) : List α → Bool | [] => false | x :: r => match p x with | true => true | false => anyB p r
def allB {α : Type} (p : α → Bool) : List α → Bool | [] => true | x :: r => match p x with | true => allB p r | false => false

def Ty.dflt : (t : Ty) → t.den
  | .int _ => (0 : Int) | .bool => false | .flt _ => (0 : Nat) | .str => ByteArray.empty | .unit => () | .fnt => (none : Option Nat) | .pair a b => (a.dflt, b.dflt) | .sl e => ([] : List e.den)

/-- The element at an index. -/
def nth (t : Ty) (l : List t.den) (i : Int) : t.den := l.getD i.toNat t.dflt

/-- A type's make: plain, a struct (each field's type and offset), an array, a slice. -/
inductive TK where
  | prim | struct (fs : List (Nat × Nat)) | array (len e : Nat) | slice (e : Nat)

structure TD where
  kind : TK
  ty : Ty
  agg : Bool
  bytes : Nat
  eq : Bool

inductive Rsh where
  | none | one (s : Option Nat) | tup (ss : List (Option Nat))

/-- What is said of a function. fresh: the one slice of its result lies in a new block (of elements of that type). -/
structure Ct where
  p : Ty
  psh : List (Option Nat)
  r : Ty
  rsh : Rsh
  pre : Option (p.den → Prop)
  fresh : Option Nat := none
  F : p.den → r.den

/-- What is said of a function that is given pointers to boxes. mask: which arguments are pointers; sz: how many cells each box has; ro: the boxes are only read; ex: nothing lies behind the end of a slice that is given; p: the values, then what the boxes hold; q: what they hold behind the call. -/
structure Cp where
  p : Ty
  psh : List (Option Nat)
  mask : List Bool
  sz : List Nat
  ro : Bool
  ex : Bool
  q : Ty
  r : Ty
  rsh : Rsh
  pre : Option (p.den → Prop)
  F : p.den → r.den × q.den

/-- What is said of some functions of one type. -/
structure Fv where
  p : Ty
  psh : List (Option Nat)
  r : Ty
  rsh : Rsh
  fs : List Nat
  F : Nat → p.den → r.den

/-- What holds of every world (of blocks that everybody reads). -/
structure Gd where
  H : World → Prop
  gl : Nat → Prop
  mono : ∀ {u v : World}, GK gl u v → H u → H v
  low : ∀ {u : World} {b : Nat}, H u → gl b → b < u.heap.size

/-- Functions without a body that only reckon. -/
inductive Xt where
  | f64bits | f64from

/-- A type that is raised by so much: the row may still be a literal's. -/
def big : Nat := 1000000
def unB (T : Nat) : Nat := cnd (Nat.ble big T) (Nat.sub T big) T
/-- A call that stands under a condition makes no row of its own. -/
def frO (o : Oper) (ct : Ct) : Option Nat := match o.guard with | none => ct.fresh | some _ => none

structure Ctx where
  D : TypeId → Option TD
  xt : FuncId → Option Xt
  Γ : FuncId → Option Ct
  pg : FuncId → Option Cp
  fv : Option Fv
  G : Gd
  gv : Nat → Option (Sigma fun e : Ty => List e.den)
  fz : Nat → List Nat

structure Eff where
  need : Option Prop
  dst : Option (Nat × TV)
  bxs : List (Nat × Option Bx)

def applyB : List (Nat × Option Bx) → (Nat → Option Bx) → Nat → Option Bx
  | [], f => f
  | (k, b) :: r, f => fun j => cnd (Nat.beq j k) b (applyB r f j)

def Eff.apply (tags : List (Nat × Bool)) (e : Eff) (st : ASt) : ASt where
  slot := match e.dst with
    | some (d, v) => fun t => cnd (Nat.beq t d) (some ⟨tags, v⟩) (st.slot t)
    | none => st.slot
  box := applyB e.bxs st.box

def zeroCells : Ty → List Cell
  | .int k => [.int k 0] | .bool => [.bool false] | .flt k => [.flt k 0] | .str => [.str ByteArray.empty] | .unit => [] | .fnt => [.fn none]
  | .pair a b => app (zeroCells a) (zeroCells b) | .sl e => [.lst e .exact []]

def SV.cells : SV → List Cell
  | .one c => [c] | .agg cs => cs

/-- A constant as cells of a type. -/
def constCells : Ty → List Value → Option (List Cell)
  | .int k => fun vs => match vs with | [.int k' n] => cnd (keq k k') (some [.int k n]) none | _ => none
  | .bool => fun vs => match vs with | [.bool b] => some [.bool b] | _ => none
  | .flt k => fun vs => match vs with | [.float k' n] => cnd (feq k k') (some [.flt k n]) none | _ => none
  | .str => fun vs => match vs with | [.string s] => some [.str s] | _ => none
  | .sl e => fun vs => match vs with | [.slice none 0 0] => some [.lst e .exact []] | _ => none
  | .unit => fun vs => match vs with | [] => some [] | _ => none
  | .fnt => fun _ => none
  | .pair a b => fun vs => match constCells a (vs.take a.n), constCells b (vs.drop a.n) with
    | some x, some y => some (app x y)
    | _, _ => none

def sub (xs : List (Nat × Bool)) (own : List (Nat × Bool)) : Bool := allB (fun x => anyB (fun y => andd (Nat.beq x.1 y.1) (match x.2, y.2 with | true, true => true | false, false => true | _, _ => false)) own) xs

def constTV (ty : Option Ty) : Value → Option SV
  | .int k n => some (.one (.int k n))
  | .bool b => some (.one (.bool b))
  | .float k n => some (.one (.flt k n))
  | .string s => some (.one (.str s))
  | .pointer none => some (.one .nilp)
  | .slice none 0 0 => match ty with | some (.sl e) => some (.one (.lst e .exact [])) | _ => none
  | .agg vs => match ty with | some t => (constCells t vs.toList).map .agg | none => none
  | _ => none

/-- An operand, for an operation under the conditions own. -/
def opnd (st : ASt) (own : List (Nat × Bool)) (ty : Option Ty) : Operand → Option TV
  | .tmp t => match st.slot t with
    | some g => cnd (sub g.tags own) (some g.tv) none
    | none => none
  | .const v => (constTV ty v).map .v
  | .func f => some (.v (.one (.fn (some f))))
  | .global _ => none

def opnd1 (st : ASt) (own : List (Nat × Bool)) (ty : Option Ty) (x : Operand) : Option SV :=
  match opnd st own ty x with | some (.v s) => some s | _ => none
def opndc (st : ASt) (own : List (Nat × Bool)) (ty : Option Ty) (x : Operand) : Option Cell :=
  match opnd st own ty x with | some (.v (.one c)) => some c | _ => none

def mkSV (agg : Bool) (cs : List Cell) : Option SV :=
  cnd agg (some (.agg cs)) (match cs with | [c] => some (.one c) | _ => none)

/-- Either of two cells, by a condition. -/
def mergeC (c : Bool) : Cell → Cell → Option Cell
  | .int k a, .int k' b => cnd (keq k k') (some (.int k (bif c then a else b))) none
  | .bool a, .bool b => some (.bool (bif c then a else b))
  | .flt k a, .flt k' b => cnd (feq k k') (some (.flt k (bif c then a else b))) none
  | .str a, .str b => some (.str (bif c then a else b))
  | .fn a, .fn b => some (.fn (bif c then a else b))
  | .lst e _ a, .lst e' _ b => match castL e' e b with | some b' => some (.lst e .no (bif c then a else b')) | none => none
  | _, _ => none
def mergeL (c : Bool) : List Cell → List Cell → Option (List Cell)
  | [], [] => some []
  | x :: xs, y :: ys => match mergeC c x y, mergeL c xs ys with | some z, some l => some (z :: l) | _, _ => none
  | _, _ => none
/-- A row of so many elements in which the one at an index is written over: j elements are ahead. -/
def putAt (e : Nat) (i : Int) (new : List Cell) : Nat → Nat → List Cell → Option (List Cell)
  | 0, _, [] => some []
  | n + 1, j, cs => match mergeL (i == (j : Int)) new (cs.take e), putAt e i new n (Nat.succ j) (cs.drop e) with | some z, some l => some (app z l) | _, _ => none
  | _, _, _ => none

/-- How many cells. -/
def len' : List Cell → Nat
  | [] => 0 | _ :: r => Nat.succ (len' r)

def intBin (op : BinOp) (k : IntKind) (x y : Int) : Option (Option Prop × Cell) :=
  match op with
  | .add => some (none, .int k (k.wrap (x + y)))
  | .sub => some (none, .int k (k.wrap (x - y)))
  | .mul => some (none, .int k (k.wrap (x * y)))
  | .quo => some (some (y ≠ 0), .int k (k.wrap (x.tdiv y)))
  | .rem => some (some (y ≠ 0), .int k (x.tmod y))
  | .and => some (none, .int k (k.wrap (BitVec.ofInt k.bits x &&& BitVec.ofInt k.bits y).toNat))
  | .or => some (none, .int k (k.wrap (BitVec.ofInt k.bits x ||| BitVec.ofInt k.bits y).toNat))
  | .xor => some (none, .int k (k.wrap (BitVec.ofInt k.bits x ^^^ BitVec.ofInt k.bits y).toNat))
  | .andNot => some (none, .int k (k.wrap (BitVec.ofInt k.bits x &&& ~~~ BitVec.ofInt k.bits y).toNat))
  | .eql => some (none, .bool (x == y))
  | .neq => some (none, .bool (x != y))
  | .lss => some (none, .bool (decide (x < y)))
  | .leq => some (none, .bool (decide (x ≤ y)))
  | .gtr => some (none, .bool (decide (x > y)))
  | .geq => some (none, .bool (decide (x ≥ y)))
  | _ => none

def fltBin (op : BinOp) (k : FloatKind) (x y : Nat) : Option (Option Prop × Cell) :=
  match op with
  | .eql => some (none, .bool (k.format.order x y == some .eq))
  | .neq => some (none, .bool (k.format.order x y != some .eq))
  | .lss => some (none, .bool (k.format.order x y == some .lt))
  | .leq => some (none, .bool (k.format.order x y == some .lt || k.format.order x y == some .eq))
  | .gtr => some (none, .bool (k.format.order x y == some .gt))
  | .geq => some (none, .bool (k.format.order x y == some .gt || k.format.order x y == some .eq))
  | .add => some (some ((k.format.add x y).isSome = true), .flt k ((k.format.add x y).getD 0))
  | .sub => some (some ((k.format.sub x y).isSome = true), .flt k ((k.format.sub x y).getD 0))
  | .mul => some (some ((k.format.mul x y).isSome = true), .flt k ((k.format.mul x y).getD 0))
  | .quo => some (some ((k.format.div x y).isSome = true), .flt k ((k.format.div x y).getD 0))
  | _ => none

/-- Texts: equal ones, one behind the other, of bytes, as bytes. -/
def strEq (a b : ByteArray) : Bool := a.toList == b.toList
def strCat (a b : ByteArray) : ByteArray := a ++ b
def bts (l : List Int) : ByteArray := l.foldl (fun r n => r.push (UInt8.ofNat n.toNat)) ByteArray.empty
def stb (s : ByteArray) : List Int := s.data.toList.map fun b => (b.toNat : Int)
def strBin (op : BinOp) (a b : ByteArray) : Option (Option Prop × Cell) :=
  match op with
  | .add => some (some ((a.size : Int) + (b.size : Int) ≤ 9223372036854775807), .str (strCat a b))
  | .eql => some (none, .bool (strEq a b))
  | .neq => some (none, .bool (!strEq a b))
  | _ => none

/-- Equality of typed cells. -/
def eqTy : Ty → List Cell → List Cell → Option Bool
  | .int k => fun xs ys => match xs, ys with | [.int k1 a], [.int k2 b] => cnd (andd (keq k k1) (keq k k2)) (some (a == b)) none | _, _ => none
  | .bool => fun xs ys => match xs, ys with | [.bool a], [.bool b] => some (a == b) | _, _ => none
  | .pair a b => fun xs ys => match eqTy a (xs.take a.n) (ys.take a.n), eqTy b (xs.drop a.n) (ys.drop a.n) with | some r, some s => some (r && s) | _, _ => none
  | _ => fun _ _ => none

def bin (C : Ctx) (op : BinOp) (t : TypeId) (x y : SV) : Option (Option Prop × SV) :=
  match x, y with
  | .one (.int k a), .one (.int k' b) => match op with
    | .shl => some (some (0 ≤ b), .one (.int k (k.wrap (a * 2 ^ (min b.toNat k.bits)))))
    | .shr => some (some (0 ≤ b), .one (.int k (a.fdiv (2 ^ (min b.toNat k.bits)))))
    | op => cnd (keq k k') (match intBin op k a b with | some (p, c) => some (p, .one c) | none => none) none
  | .one (.flt k a), .one (.flt k' b) => cnd (feq k k') (match fltBin op k a b with | some (p, c) => some (p, .one c) | none => none) none
  | .one (.str a), .one (.str b) => match strBin op a b with | some (p, c) => some (p, .one c) | none => none
  | .one (.bool a), .one (.bool b) => match C.D t with
    | some d => match d.agg, d.ty with
      | false, .bool => match op with
        | .eql => some (none, .one (.bool (a == b)))
        | .neq => some (none, .one (.bool (a != b)))
        | _ => none
      | _, _ => none
    | none => none
  | .agg xs, .agg ys => match C.D t with
    | some d => cnd (andd d.eq (andd (Nat.beq (len' xs) d.ty.n) (Nat.beq (len' ys) d.ty.n))) (match op, eqTy d.ty xs ys with
      | .eql, some r => some (none, .one (.bool r))
      | .neq, some r => some (none, .one (.bool (!r)))
      | _, _ => none) none
    | none => none
  | _, _ => none

/-- A field's type and offset. -/
def field? (C : Ctx) (s : TypeId) (f : Nat) : Option (Nat × Nat) :=
  match C.D s with
  | some d => match d.kind with | .struct fs => fs[f]? | _ => none
  | none => none

def fillC (cs : List Cell) (off : Nat) (xs : List Cell) : List Cell := app (cs.take off) (app xs (cs.drop (Nat.add off (len' xs))))

def minC (mn : Bool) : Cell → Cell → Option Cell
  | .int k x, .int k' y => cnd (keq k k') (some (.int k (cnd mn (min x y) (max x y)))) none
  | _, _ => none

/-- So many elements out of cells. -/
def decAll (t : Ty) : Nat → List Cell → Option (List t.den)
  | 0, [] => some []
  | n + 1, cs => match dec t (cs.take t.n), decAll t n (cs.drop t.n) with | some x, some l => some (x :: l) | _, _ => none
  | _, _ => none

def repC (z : List Cell) : Nat → List Cell
  | 0 => [] | n + 1 => app z (repC z n)

def allSV (st : ASt) (own : List (Nat × Bool)) (tys : List (Option Ty)) : List Operand → Option (List SV)
  | [] => some []
  | x :: xs => match opnd1 st own (tys.headD none) x, allSV st own tys.tail xs with
    | some s, some l => some (s :: l)
    | _, _ => none

def shapes : List (Option Nat) → List SV → Option (List Cell)
  | [], [] => some []
  | none :: s, .one c :: xs => (shapes s xs).map fun r => c :: r
  | some n :: s, .agg cs :: xs => cnd (Nat.beq (len' cs) n) ((shapes s xs).map fun r => app cs r) none
  | _, _ => none

def unshape : List (Option Nat) → List Cell → Option (List SV)
  | [], [] => some []
  | none :: s, c :: cs => (unshape s cs).map fun r => .one c :: r
  | some n :: s, cs => (unshape s (cs.drop n)).map fun r => .agg (cs.take n) :: r
  | _, _ => none

def mkRes : Rsh → List Cell → Option TV
  | .none, _ => some (.tup [])
  | .one s, cs => match unshape [s] cs with | some [x] => some (.v x) | _ => none
  | .tup ss, cs => (unshape ss cs).map .tup

def mem (t : Nat) (l : List Nat) : Bool := anyB (fun y => Nat.beq t y) l

def tyOf (C : Ctx) (t : TypeId) : Option Ty := (C.D t).map (·.ty)

def rdBox (st : ASt) (k : Nat) : Option (List Cell) :=
  match st.box k with | some (.cells cs) => some cs | some (.ro cs) => some cs | _ => none

def plainTy (C : Ctx) (t : TypeId) : Option Ty := match C.D t with | some d => cnd d.agg none (some d.ty) | none => none

/-! ### Rows of their own -/
/-- A cell that tells of a row: as a list. fr: only of rows that are nobody's. -/
def unvC (fr : Bool) (st : ASt) : Cell → Option Cell
  | .vref e k => match st.box k with
    | some (.vec _ _ e' l) => cnd fr none (match castL e' e l with | some l' => some (.lst e .no l') | none => none)
    | some (.frz e' l) => (match castL e' e l with | some l' => some (.lst e .no l') | none => none)
    | _ => none
  | c => some c
def unvL (fr : Bool) (st : ASt) : List Cell → Option (List Cell)
  | [] => some []
  | c :: r => match unvC fr st c, unvL fr st r with | some c', some r' => some (c' :: r') | _, _ => none
def unvS (fr : Bool) (st : ASt) : SV → Option SV
  | .one c => match unvC fr st c with | some c' => some (.one c') | none => none
  | .agg cs => match unvL fr st cs with | some cs' => some (.agg cs') | none => none
def unvSs (fr : Bool) (st : ASt) : List SV → Option (List SV)
  | [] => some []
  | x :: r => match unvS fr st x, unvSs fr st r with | some x', some r' => some (x' :: r') | _, _ => none
def vksL : List Cell → List Nat
  | [] => [] | .vref _ k :: r => k :: vksL r | _ :: r => vksL r
def vksS : List SV → List Nat
  | [] => [] | x :: r => app (vksL x.cells) (vksS r)
/-- Rows that nobody writes any more. -/
def allFz (st : ASt) : List Nat → Bool
  | [] => true | k :: r => match st.box k with | some (.frz _ _) => allFz st r | _ => false
def orr : Bool → Bool → Bool | true, _ => true | false, y => y
def isNilB {α : Type} : List α → Bool | [] => true | _ :: _ => false
def isSomeB {α : Type} : Option α → Bool | some _ => true | none => false
/-- The first slice among cells: as a row of its own; its elements; how many slices. -/
def frCells (d : Nat) : List Cell → List Cell
  | [] => [] | .lst e _ _ :: r => .vref e d :: r | c :: r => c :: frCells d r
def lst1 : List Cell → Option (Sigma fun e : Ty => List e.den)
  | [] => none | .lst e _ l :: _ => some ⟨e, l⟩ | _ :: r => lst1 r
def lsts : List Cell → Nat
  | [] => 0 | .lst _ _ _ :: r => Nat.succ (lsts r) | _ :: r => lsts r
def toFrz : Option Bx → Option Bx
  | some (.vec _ _ e l) => some (.frz e l) | x => x
/-- A row is nobody's any more. -/
def frzK (k : Nat) (st : ASt) : ASt := { slot := st.slot, box := fun u => cnd (Nat.beq u k) (toFrz (st.box k)) (st.box u) }
def frzAll : List Nat → ASt → ASt
  | [], st => st | k :: r, st => frzAll r (frzK k st)

/-- What an append starts from: the elements, the name of the row, may it be written? -/
def apSrc (st : ASt) (el : Nat) (e : Ty) : Cell → Option (List e.den × Option Nat × Bool)
  | .vref e1 k => match st.box k with
    | some (.vec o T e2 l) => match castL e2 e l with | some l' => cnd (andd (Nat.beq T el) (Nat.beq e1.n e2.n)) (some (l', some k, o)) none | none => none
    | _ => none
  | .lst e1 .exact l => match castL e1 e l with | some l' => some (l', none, isNilB l) | none => none
  | _ => none
/-- Is there an element for sure? -/
def newCons : Cell → Bool
  | .lst _ .exact l => nott (isNilB l) | _ => false
/-- What an append adds, and what a copy copies. -/
def apNew (st : ASt) (e : Ty) : Cell → Option (List e.den)
  | .vref e1 k => match unvC false st (.vref e1 k) with | some (.lst e2 _ l) => castL e2 e l | _ => none
  | .lst e1 _ l => castL e1 e l
  | _ => none
/-- What an append of a string adds. -/
def strNew (dx : TD) (e : Ty) : Cell → Option (List e.den)
  | .str s => match dx.agg, dx.ty with | false, .str => castL (.int .u8) e (stb s) | _, _ => none
  | .int _ n => match dx.agg, dx.ty with | false, .int _ => some (List.replicate n.toNat e.dflt) | _, _ => none
  | _ => none
/-- What must hold of it. -/
def strPre (p : Prop) : Cell → Prop
  | .int _ n => 0 ≤ n ∧ p
  | _ => p
def killO : Option Nat → List (Nat × Option Bx)
  | some j => [(j, some .tok)] | none => []
def keyNe (k : Option Nat) : Cell → Bool
  | .vref _ j => match k with | some i => nott (Nat.beq i j) | none => true
  | _ => true
/-- A row in which elements are written over. -/
def copyL {α : Type} (l l2 : List α) : List α := l2.take l.length ++ l.drop l2.length
def setE (e : Ty) (l : List e.den) (i : Int) (x : e.den) : List e.den := l.set i.toNat x
def zrow (e : Ty) (n : Int) : List e.den := List.replicate n.toNat e.dflt
def sliceL {α : Type} (l : List α) (lo hi : Int) : List α := (l.take hi.toNat).drop lo.toNat

/-- Parts laid over cells. -/
def fillP (C : Ctx) (st : ASt) (own : List (Nat × Bool)) (place : Nat → Option (Nat × Nat)) : List (Nat × Operand) → List Cell → Option (List Cell)
  | [], cs => some cs
  | (i, x) :: r, cs => match place i with
    | some (tid, off) => match C.D tid, opnd1 st own (tyOf C tid) x with
      | some df, some v => cnd (andd (Nat.beq (len' v.cells) df.ty.n) (Nat.ble (Nat.add off df.ty.n) (len' cs))) (fillP C st own place r (fillC cs off v.cells)) none
      | _, _ => none
    | none => none

def outE (o : Oper) (p : Option Prop) (v : SV) : Option Eff :=
  match o.dst with
  | some d => some ⟨p, some (d, .v v), []⟩
  | none => none

def lenN {α : Type} : List α → Nat | [] => 0 | _ :: r => Nat.succ (lenN r)
def optI (st : ASt) (own : List (Nat × Bool)) : Option Operand → Option Int
  | none => some 0
  | some x => match opndc st own none x with | some (.int _ n) => some n | _ => none

def optH (st : ASt) (own : List (Nat × Bool)) (x : Option Operand) (n : Int) : Option Int := match x with
  | none => some n
  | some x => match opndc st own none x with | some (.int _ n) => some n | _ => none

/-- A byte of a string. -/
def strAt (s : ByteArray) (n : Int) : Int := ((s.data.getD n.toNat 0).toNat : Int)

/-- Are the elements bytes? -/
def bytesTy (C : Ctx) (s : TypeId) : Bool := match C.D s with
  | some d => match d.kind with
    | .slice el => match plainTy C el with | some (.int .u8) => true | _ => false
    | _ => false
  | none => false

/-- What a function without a body reckons. -/
def xtOp (x : Xt) (c : Cell) : Option Cell := match x, c with
  | .f64bits, .flt .f64 n => some (.int .u64 (n : Int))
  | .f64from, .int .u64 n => some (.flt .f64 n.toNat)
  | _, _ => none

/-! ### Pointers to boxes as arguments -/
def valsOf {α : Type} : List Bool → List α → List α
  | true :: m, _ :: xs => valsOf m xs | false :: m, x :: xs => x :: valsOf m xs | _, _ => []
def ptrsIn {α : Type} : List Bool → List α → List α
  | true :: m, x :: xs => x :: ptrsIn m xs | false :: m, _ :: xs => ptrsIn m xs | _, _ => []
def boxKs : List SV → Option (List Nat)
  | [] => some []
  | .one (.box k 0) :: r => (match boxKs r with | some ks => some (k :: ks) | none => none)
  | _ => none
def zipN : List Nat → List Nat → List (Nat × Nat)
  | k :: ks, n :: ns => (k, n) :: zipN ks ns | _, _ => []
/-- The cells of boxes that may be written. -/
def rdW (st : ASt) : List (Nat × Nat) → Option (List Cell)
  | [] => some []
  | (k, n) :: r => match st.box k, rdW st r with
    | some (.cells ds), some cs => cnd (Nat.beq (len' ds) n) (some (app ds cs)) none
    | _, _ => none
/-- The cells of boxes. -/
def rdR (st : ASt) : List (Nat × Nat) → Option (List Cell)
  | [] => some []
  | (k, n) :: r => match rdBox st k, rdR st r with
    | some ds, some cs => cnd (Nat.beq (len' ds) n) (some (app ds cs)) none
    | _, _ => none
def newBxs : List (Nat × Nat) → List Cell → List (Nat × Option Bx)
  | [], _ => [] | (k, n) :: r, cs => (k, some (.cells (cs.take n))) :: newBxs r (cs.drop n)
def sumN : List Nat → Nat
  | [] => 0 | n :: r => Nat.add n (sumN r)
/-- Nothing lies behind the ends of the slices. -/
def exC (b : Bool) : List Cell → List Cell
  | [] => []
  | .lst e tl l :: r => .lst e (match b with | true => .exact | false => tl) l :: exC b r
  | c :: r => c :: exC b r
def isEx : List Cell → Bool
  | [] => true | .lst _ .exact _ :: r => isEx r | .lst _ _ _ :: _ => false | .vref _ _ :: _ => false | _ :: r => isEx r
def isExS : List SV → Bool
  | [] => true | x :: r => andd (isEx x.cells) (isExS r)
def nodupN : List Nat → Bool
  | [] => true
  | x :: r => andd (nott (mem x r)) (nodupN r)
def lenL {α : Type} : List α → Nat | [] => 0 | _ :: r => Nat.succ (lenL r)
def evPtr (st : ASt) (cp : Cp) (d : Nat) (xs0 : List SV) : Option Eff :=
  match boxKs (ptrsIn cp.mask xs0), unvSs false st (valsOf cp.mask xs0) with
  | some ks, some vs => match cnd cp.ro (rdR st (zipN ks cp.sz)) (rdW st (zipN ks cp.sz)), shapes cp.psh vs with
    | some kc0, some vc => match unvL true st kc0 with
      | some kc => match dec cp.p (app vc kc) with
        | some x => match mkRes cp.rsh (enc cp.r (cp.F x).1) with
          | some v => cnd (andd (Nat.beq (lenL cp.mask) (lenL xs0)) (andd (Nat.beq (lenL ks) (lenL cp.sz)) (andd (nodupN ks) (andd (Nat.beq cp.q.n (sumN cp.sz))
              (andd (orr (nott cp.ex) (andd (isExS (valsOf cp.mask xs0)) (isEx kc0))) (orr (isNilB (vksS (valsOf cp.mask xs0))) (andd (nott cp.r.hasSl) (nott cp.q.hasSl))))))))
              (some ⟨(match cp.pre with | some q => some (q x) | none => none), some (d, v), cnd cp.ro [] (newBxs (zipN ks cp.sz) (enc cp.q (cp.F x).2))⟩) none
          | none => none
        | none => none
      | none => none
    | _, _ => none
  | _, _ => none
/-- Captured boxes, as arguments. -/
def capS : List Nat → List SV
  | [] => [] | k :: r => .one (.box k 0) :: capS r

/-- What an operation does. W: the slots that the region has written so far. -/
def evOp (C : Ctx) (own : List (Nat × Bool)) (W : List Nat) (st : ASt) (o : Oper) : Option Eff :=
  let ot := tyOf C o.type
  match o.op with
  | .move x => match opnd st own ot x, o.dst with | some v, some d => some ⟨none, some (d, v), []⟩ | _, _ => none
  | .assign x => match opnd st own ot x, o.dst with | some v, some d => some ⟨none, some (d, v), []⟩ | _, _ => none
  | .pick c a b => match opndc st own none c, (match c with | .tmp t => some t | _ => none) with
    | some (.bool cv), some ct => match opndc st (cnd (mem ct W) ((ct, true) :: own) own) ot a, opndc st (cnd (mem ct W) ((ct, false) :: own) own) ot b with
      | some x, some y =>
        match a, b with
        | .const (.bool true), _ => match y with | .bool yb => outE o none (.one (.bool (cv || yb))) | _ => none
        | _, .const (.bool false) => match x with | .bool xb => outE o none (.one (.bool (cv && xb))) | _ => none
        | _, _ => match mergeC cv x y with | some z => outE o none (.one z) | none => none
      | _, _ => none
    | _, _ => none
  | .alloc t => match C.D t, o.dst with
    | some d, some k => match st.box k with
      | none => some ⟨none, some (k, .v (.one (.box k 0))), [(k, some (.cells (zeroCells d.ty)))]⟩
      | some _ => none
    | _, _ => none
  | .box t x => match opnd1 st own (tyOf C t) x, o.dst with
    | some v, some k => match st.box k with
      | none => some ⟨none, some (k, .v (.one (.box k 0))), [(k, some (.cells v.cells))]⟩
      | some _ => none
    | _, _ => none
  | .build t parts => match C.D t with
    | some d => match d.kind with
      | .struct fs => match fillP C st own (fun i => fs[i]?) parts.toList (zeroCells d.ty) with | some cs => outE o none (.agg cs) | none => none
      | .array _ e => match C.D e with
        | some de => match fillP C st own (fun i => some (e, Nat.mul i de.ty.n)) parts.toList (zeroCells d.ty) with | some cs => outE o none (.agg cs) | none => none
        | none => none
      | _ => none
    | none => none
  | .buildSlice t len parts => match C.D t with
    | some d => match d.kind, d.ty with
      | .slice el, .sl e => match fillP C st own (fun i => some (el, Nat.mul i e.n)) parts.toList (repC (zeroCells e) len) with
        | some cs => match decAll e len cs, C.D el with
          | some l, some de => cnd (andd (Nat.beq de.ty.n e.n) (andd (Nat.ble (Nat.mul len e.n) 16777216) (Nat.ble 1 (Nat.mul len e.n)))) (outE o none (.one (.lst e .exact l))) none
          | _, _ => none
        | none => none
      | _, _ => none
    | none => none
  | .load t a => match opndc st own none a, C.D t with
    | some (.box k off), some d => match rdBox st k with
      | some cs => match mkSV d.agg ((cs.drop off).take d.ty.n) with | some v => cnd (Nat.ble (Nat.add off d.ty.n) (len' cs)) (outE o none v) none | none => none
      | none => none
    | some (.elem e l i off), some d => match mkSV d.agg (((enc e (nth e l i)).drop off).take d.ty.n) with
      | some v => cnd (Nat.ble (Nat.add off d.ty.n) e.n) (outE o none v) none
      | none => none
    | some (.aelem k off e len i), some d => match rdBox st k with
      | some cs => match decAll e len ((cs.drop off).take (Nat.mul len e.n)) with
        | some l => match mkSV d.agg (enc e (nth e l i)) with
          | some v => cnd (andd (Nat.beq d.ty.n e.n) (Nat.ble (Nat.add off (Nat.mul len e.n)) (len' cs))) (outE o none v) none
          | none => none
        | none => none
      | none => none
    | some (.velem e0 k i off), some d => match st.box k with
      | some (.vec true _ e l) => match mkSV d.agg (((enc e (nth e l i)).drop off).take d.ty.n) with
        | some v => cnd (andd (Nat.beq e0.n e.n) (Nat.ble (Nat.add off d.ty.n) e.n)) (outE o none v) none
        | none => none
      | _ => none
    | _, _ => none
  | .store t a x => match (match o.dst with | some _ => none | none => opndc st own none a), C.D t, opnd1 st own (tyOf C t) x with
    | some (.box k off), some d, some v => match st.box k with
      | some (.cells cs) => cnd (andd (Nat.beq (len' v.cells) d.ty.n) (Nat.ble (Nat.add off d.ty.n) (len' cs))) (some ⟨none, none, [(k, some (.cells (fillC cs off v.cells)))]⟩) none
      | _ => none
    | some (.aelem k off e len i), some d, some v => match st.box k with
      | some (.cells cs) => match putAt e.n i v.cells len 0 ((cs.drop off).take (Nat.mul len e.n)) with
        | some xs => cnd (andd (Nat.beq d.ty.n e.n) (andd (Nat.beq (len' v.cells) d.ty.n) (andd (Nat.beq (len' xs) (Nat.mul len e.n)) (Nat.ble (Nat.add off (Nat.mul len e.n)) (len' cs))))) (some ⟨none, none, [(k, some (.cells (fillC cs off xs)))]⟩) none
        | none => none
      | _ => none
    | some (.velem e0 k i off), some d, some v => match st.box k with
      | some (.vec true T e l) => match dec e (fillC (enc e (nth e l i)) off v.cells) with
        | some x => cnd (andd (Nat.beq e0.n e.n) (andd (Nat.beq (len' v.cells) d.ty.n) (Nat.ble (Nat.add off d.ty.n) e.n))) (some ⟨none, none, [(k, some (.vec true T e (setE e l i x)))]⟩) none
        | none => none
      | _ => none
    | _, _, _ => none
  | .nilCheck x => match opndc st own none x with
    | some (.box k off) => outE o none (.one (.box k off))
    | some (.elem e l i off) => outE o none (.one (.elem e l i off))
    | some (.velem e k i off) => outE o none (.one (.velem e k i off))
    | some (.aelem k off e len i) => outE o none (.one (.aelem k off e len i))
    | some (.fn (some f)) => outE o none (.one (.fn (some f)))
    | some (.clo f ks) => outE o none (.one (.clo f ks))
    | _ => none
  | .binOp op t x y yt => match opnd1 st own (tyOf C t) x, opnd1 st own (tyOf C yt) y with
    | some a, some b => match bin C op t a b with | some (p, v) => outE o p v | none => none
    | _, _ => none
  | .unOp op t x => match op, opndc st own (tyOf C t) x with
    | .not, some (.bool b) => outE o none (.one (.bool (!b)))
    | .neg, some (.int k n) => outE o none (.one (.int k (k.wrap (0 - n))))
    | _, _ => none
  | .convert s d x => match plainTy C s, plainTy C d, opndc st own (tyOf C s) x with
    | some (.int _), some (.int k), some (.int _ n) => outE o none (.one (.int k (k.wrap n)))
    | some (.int _), some (.flt k), some (.int _ n) => outE o none (.one (.flt k (k.nearest n)))
    | some (.sl _), some .str, some c => match bytesTy C s, apNew st (.int .u8) c with
      | true, some l => outE o none (.one (.str (bts l)))
      | _, _ => none
    | some .str, some (.sl e), some (.str s) => match C.D d, o.dst with
      | some dd, some k => match dd.kind, st.box k, bytesTy C d, castL (.int .u8) e (stb s) with
        | .slice el, none, true, some l => some ⟨some ((s.size : Int) ≤ 9223372036854775807), some (k, .v (.one (.vref e k))), [(k, some (.vec true el e l))]⟩
        | _, _, _, _ => none
      | _, _ => none
    | _, _, _ => none
  | .fieldAddr s x f => match opndc st own none x, field? C s f with
    | some (.box k off), some fd => match C.D fd.1 with | some d => cnd (Nat.ble 1 d.ty.n) (outE o none (.one (.box k (Nat.add off fd.2)))) none | none => none
    | some (.elem e l i off), some fd => match C.D fd.1 with | some d => cnd (Nat.ble 1 d.ty.n) (outE o none (.one (.elem e l i (Nat.add off fd.2)))) none | none => none
    | some (.velem e k i off), some fd => match C.D fd.1 with | some d => cnd (Nat.ble 1 d.ty.n) (outE o none (.one (.velem e k i (Nat.add off fd.2)))) none | none => none
    | _, _ => none
  | .field s x f => match opnd1 st own none x, field? C s f with
    | some (.agg cs), some fd => match C.D fd.1 with
      | some d => match mkSV d.agg ((cs.drop fd.2).take d.ty.n) with
        | some v => cnd (Nat.ble (Nat.add fd.2 d.ty.n) (len' cs)) (outE o none v) none
        | none => none
      | none => none
    | _, _ => none
  | .indexAddr t (.global g) i => match C.D t, C.gv g, opndc st own none i with
    | some d, some ⟨e, l⟩, some (.int _ n) => match d.kind with
      | .array len el => match C.D el with
        | some de => cnd (andd (Nat.beq e.n de.ty.n) (Nat.beq (lenN l) len)) (outE o (some (0 ≤ n ∧ n < (len : Int))) (.one (.elem e l n 0))) none
        | none => none
      | _ => none
    | _, _, _ => none
  | .indexAddr t x i => match C.D t, opndc st own none x, opndc st own none i with
    | some d, some (.lst e _ l), some (.int _ n) => match d.kind, d.ty with
      | .slice _, .sl e' => cnd (Nat.beq e.n e'.n) (outE o (some (0 ≤ n ∧ n < (l.length : Int))) (.one (.elem e l n 0))) none
      | _, _ => none
    | some d, some (.box k off), some (.int _ n) => match d.kind, i with
      | .array len e, .const (.int _ (.ofNat n')) => match C.D e with
        | some de => cnd (Nat.ble (Nat.add n' 1) len) (outE o none (.one (.box k (Nat.add off (Nat.mul n' de.ty.n))))) none
        | none => none
      | .array len e, _ => match C.D e with
        | some de => cnd (Nat.ble 1 de.ty.n) (outE o (some (0 ≤ n ∧ n < (len : Int))) (.one (.aelem k off de.ty len n))) none
        | none => none
      | _, _ => none
    | some d, some (.vref e k), some (.int _ n) => match d.kind, d.ty, st.box k with
      | .slice _, .sl e', some (.vec true _ e2 l) => cnd (andd (Nat.beq e.n e'.n) (Nat.beq e2.n e.n)) (outE o (some (0 ≤ n ∧ n < (l.length : Int))) (.one (.velem e k n 0))) none
      | .slice _, .sl e', some (.frz e2 l) => cnd (andd (Nat.beq e.n e'.n) (Nat.beq e2.n e.n)) (outE o (some (0 ≤ n ∧ n < (l.length : Int))) (.one (.elem e2 l n 0))) none
      | _, _, _ => none
    | _, _, _ => none
  | .makeSlice t x y => match C.D t, o.dst, opndc st own none x, opndc st own none y with
    | some d, some k, some (.int _ n), some (.int _ c) => match d.kind, d.ty, st.box k with
      | .slice el, .sl e, none => match C.D el with
        | some de => cnd (andd (Nat.ble 1 e.n) (Nat.beq de.ty.n e.n)) (some ⟨some (0 ≤ n ∧ n = c ∧ c * (de.bytes : Int) ≤ 140737488355328 ∧ c ≤ 4611686018427387903), some (k, .v (.one (.vref e k))), [(k, some (.vec true el e (zrow e n)))]⟩) none
        | none => none
      | _, _, _ => none
    | _, _, _, _ => none
  | .slice t x lo hi mx => match C.D t, opndc st own none x, optI st own lo, mx with
    | some d, some c, some l0, none => match d.kind, d.ty, c with
      | .slice _, .sl e', .lst e _ l => match optH st own hi (l.length : Int) with
        | some h0 => cnd (Nat.beq e.n e'.n) (outE o (some (0 ≤ l0 ∧ l0 ≤ h0 ∧ h0 ≤ (l.length : Int))) (.one (.lst e .no (sliceL l l0 h0)))) none
        | none => none
      | .slice _, .sl e', .vref e k => match st.box k with
        | some (.frz e2 l) => match optH st own hi (l.length : Int) with
          | some h0 => cnd (andd (Nat.beq e.n e'.n) (Nat.beq e2.n e.n)) (outE o (some (0 ≤ l0 ∧ l0 ≤ h0 ∧ h0 ≤ (l.length : Int))) (.one (.lst e2 .no (sliceL l l0 h0)))) none
          | none => none
        | some (.vec ow T e2 l) => match lo, hi, optH st own hi (l.length : Int), o.dst with
          | none, some _, some h0, some k2 => match st.box k2 with
            | none => cnd (andd ow (andd (Nat.ble 1 e.n) (andd (Nat.beq e.n e'.n) (Nat.beq e2.n e.n)))) (some ⟨some (0 ≤ h0 ∧ h0 ≤ (l.length : Int)), some (k2, .v (.one (.vref e k2))), (k2, some (.vec true T e2 (l.take h0.toNat))) :: killO (some k)⟩) none
            | some _ => none
          | _, _, _, _ => none
        | _ => none
      | .prim, .str, .str s => match d.agg, optH st own hi (s.size : Int) with
        | false, some h0 => outE o (some (0 ≤ l0 ∧ l0 ≤ h0 ∧ h0 ≤ (s.size : Int))) (.one (.str (s.extract l0.toNat h0.toNat)))
        | _, _ => none
      | _, _, _ => none
    | _, _, _, _ => none
  | .index t x i => match C.D t, opnd1 st own none x, opndc st own none i with
    | some d, some (.one (.str s)), some (.int _ n) => match d.kind, d.agg, d.ty with
      | .prim, false, .str => outE o (some (0 ≤ n ∧ n < (s.size : Int))) (.one (.int .u8 (strAt s n)))
      | _, _, _ => none
    | some d, some (.agg cs), some (.int _ n) => match d.kind with
      | .array len e => match C.D e with
        | some de => match decAll de.ty len cs with
          | some l => match mkSV de.agg (enc de.ty (nth de.ty l n)) with
            | some v => outE o (some (0 ≤ n ∧ n < (len : Int))) v
            | none => none
          | none => none
        | none => none
      | _ => none
    | _, _, _ => none
  | .makeFunc (.func f) first caps => match first.toList, allSV st own [] caps.toList with
    | [], some xs => match boxKs xs with
      | some ks => outE o none (.one (.clo f ks))
      | none => none
    | _, _ => none
  | .extract x i => match opnd st own none x with
    | some (.tup xs) => match xs[i]? with | some v => outE o none v | none => none
    | _ => none
  | .call c => match c.callee with
    | .value (.func f) => match C.xt f with
      | some xt => match c.args.toList with
        | [x] => match opndc st own none x with
          | some cx => match xtOp xt cx with | some r => outE o none (.one r) | none => none
          | none => none
        | _ => none
      | none => match C.pg f with
      | some cp => match o.dst, allSV st own (c.argTypes.toList.map fun t => tyOf C t) c.args.toList with
        | some d, some xs0 => evPtr st cp d xs0
        | _, _ => none
      | none => match C.Γ f, o.dst with
      | some ct, some d => match allSV st own (c.argTypes.toList.map fun t => tyOf C t) c.args.toList with
        | some xs0 => match unvSs false st xs0 with
          | some xs => match shapes ct.psh xs with
            | some cs => match dec ct.p cs with
              | some x => match frO o ct with
                | none => match mkRes ct.rsh (enc ct.r (ct.F x)) with
                  | some v => cnd (orr (allFz st (vksS xs0)) (nott ct.r.hasSl)) (some ⟨(match ct.pre with | some q => some (q x) | none => none), some (d, v), []⟩) none
                  | none => none
                | some T => match lst1 (enc ct.r (ct.F x)), mkRes ct.rsh (frCells d (enc ct.r (ct.F x))), st.box d with
                  | some ⟨e, l⟩, some v, none => cnd (andd (nott e.hasSl) (andd (Nat.ble 1 e.n) (Nat.beq (lsts (enc ct.r (ct.F x))) 1)))
                      (cnd (Nat.ble big T)
                        (cnd (allFz st (vksS xs0)) (some ⟨(match ct.pre with | some q => some (q x) | none => none), some (d, v), [(d, some (.vec false (unB T) e l))]⟩) none)
                        (some ⟨(match ct.pre with | some q => some (q x) | none => none), some (d, v), [(d, some (.vec true T e l))]⟩)) none
                  | _, _, _ => none
              | none => none
            | none => none
          | none => none
        | none => none
      | _, _ => none
    | .value (.tmp t) => match opndc st own none (.tmp t), o.dst, allSV st own (c.argTypes.toList.map fun t => tyOf C t) c.args.toList with
      | some (.fn f), some d, some xs0 => match C.fv, unvSs false st xs0 with
        | some cv, some xs => match shapes cv.psh xs with
          | some cs => match dec cv.p cs with
            | some x => match mkRes cv.rsh (enc cv.r (cv.F (f.getD 0) x)) with
              | some v => cnd (orr (isNilB (vksS xs0)) (nott cv.r.hasSl)) (some ⟨some (∃ g, f = some g ∧ g ∈ cv.fs), some (d, v), []⟩) none
              | none => none
            | none => none
          | none => none
        | _, _ => none
      | some (.clo f ks), some d, some xs0 => match C.pg f with
        | some cp => evPtr st cp d (app xs0 (capS ks))
        | none => none
      | _, _, _ => none
    | .builtin .append => match c.args.toList, c.argTypes.toList, o.dst with
      | [s, x], [ts, tx], some k => match C.D ts, C.D tx, st.box k, opndc st own none s, opndc st own none x with
        | some d, some dx, none, some cs, some cx => match d.kind, d.ty, dx.kind with
          | .slice el, .sl e, .slice _ => match C.D el, apSrc st el e cs, apNew st e cx with
            | some de, some (l1, j, ow), some l2 => cnd (andd (Nat.beq ts tx) (andd (keyNe j cx) (andd (Nat.ble 1 e.n) (Nat.beq de.ty.n e.n))))
                (some ⟨some ((l1.length + l2.length) * de.bytes ≤ 140737488355328 ∧ l1.length + l2.length ≤ 4611686018427387903), some (k, .v (.one (.vref e k))),
                  (k, some (.vec (orr (newCons cx) ow) el e (l1 ++ l2))) :: killO j⟩) none
            | _, _, _ => none
          | .slice el, .sl e, .prim => match C.D el, apSrc st el e cs, strNew dx e cx with
            | some de, some (l1, j, ow), some l2 => cnd (andd (Nat.ble 1 e.n) (Nat.beq de.ty.n e.n))
                (some ⟨some (strPre ((l1.length + l2.length) * de.bytes ≤ 140737488355328 ∧ l1.length + l2.length ≤ 4611686018427387903) cx), some (k, .v (.one (.vref e k))),
                  (k, some (.vec (orr (newCons cx) ow) el e (l1 ++ l2))) :: killO j⟩) none
            | _, _, _ => none
          | _, _, _ => none
        | _, _, _, _, _ => none
      | _, _, _ => none
    | .builtin .copy => match c.args.toList, c.argTypes.toList, o.dst with
      | [s, x], [ts, tx], some k => match C.D ts, C.D tx, opndc st own none s, opndc st own none x with
        | some d, some dx, some (.vref e0 j), some cx => match d.kind, dx.kind, st.box j with
          | .slice el, .slice _, some (.vec true T e l) => match C.D el, apNew st e cx with
            | some de, some l2 => cnd (andd (Nat.ble 1 e.n) (andd (Nat.beq de.ty.n e.n) (Nat.beq e0.n e.n)))
                (some ⟨none, some (k, .v (.one (.int .i64 (min (l2.length : Int) (l.length : Int))))), [(j, some (.vec true T e (copyL l l2)))]⟩) none
            | _, _ => none
          | _, _, _ => none
        | _, _, _, _ => none
      | _, _, _ => none
    | .builtin .len => match c.args.toList, c.argTypes.toList with
      | [x], ty :: _ => match C.D ty with
        | some d => match d.kind, d.agg, d.ty, opndc st own (some d.ty) x with
          | .slice _, _, _, some (.lst _ _ l) => outE o none (.one (.int .i64 (l.length : Int)))
          | .slice _, _, _, some (.vref _ k) => match st.box k with
            | some (.vec _ _ _ l) => outE o none (.one (.int .i64 (l.length : Int)))
            | some (.frz _ l) => outE o none (.one (.int .i64 (l.length : Int)))
            | _ => none
          | .prim, false, .str, some (.str s) => outE o none (.one (.int .i64 (s.size : Int)))
          | _, _, _, _ => none
        | none => none
      | _, _ => none
    | .builtin .min => match c.args.toList with
      | [x, y] => match opndc st own ot x, opndc st own ot y with
        | some a, some b => match minC true a b with | some r => outE o none (.one r) | none => none
        | _, _ => none
      | _ => none
    | .builtin .max => match c.args.toList with
      | [x, y] => match opndc st own ot x, opndc st own ot y with
        | some a, some b => match minC false a b with | some r => outE o none (.one r) | none => none
        | _, _ => none
      | [x, y, z] => match opndc st own ot x, opndc st own ot y, opndc st own ot z with
        | some a, some b, some d => match minC false a b with
          | some q => match minC false q d with | some r => outE o none (.one r) | none => none
          | none => none
        | _, _, _ => none
      | _ => none
    | _ => none
  | _ => none

/-! ### Regions -/
def ownOf (ops : List Oper) (W : List Nat) (st : ASt) (o : Oper) : Option (List (Nat × Bool)) :=
  match o.guard with
  | none => some []
  | some (j, b) => match (ops[j]?).bind (·.dst) with
    | some d => match st.slot d with
      | some ⟨tg, .v (.one (.bool _))⟩ => cnd (mem d W) (some ((d, b) :: tg)) none
      | _ => none
    | none => none

/-- The condition that an operation's guards stand for. -/
def under (st : ASt) : List (Nat × Bool) → Prop → Prop
  | [], p => p
  | (d, b) :: r, p => under st r (match st.slot d with | some ⟨_, .v (.one (.bool c))⟩ => (c = b → p) | _ => p)

def isGuarded (o : Oper) : Bool := match o.guard with | none => false | some _ => true

inductive Tr (ρ₀ ρ : Type) where
  | ret (r : ρ) | ite (c : Bool) (t e : Tr ρ₀ ρ) | need (p : Prop) (t : Tr ρ₀ ρ) | opt (o : Option ρ₀) (t : Tr ρ₀ ρ) | bad

/-- An operation's effect in its region: the conditions that it stands under, what it needs, what it does. -/
structure ER where
  own : List (Nat × Bool)
  need : Option Prop
  eff : Eff

def underO (st : ASt) (own : List (Nat × Bool)) (p : Option Prop) : Option Prop :=
  match p with | some p => some (under st own p) | none => none

def consO (d : Option Nat) (W : List Nat) : List Nat := match d with | some d => d :: W | none => W

def dstOk : Option (Nat × TV) → Option Nat → Bool
  | some (d, _), some d' => Nat.beq d d' | none, none => true | _, _ => false

/-! Boxes that an operation writes under a condition: what they hold hangs on the condition. -/
def bcond (b c : Bool) : Bool := match b with | true => c | false => !c
def condOf (st : ASt) : List (Nat × Bool) → Option Bool
  | [] => some true
  | (d, b) :: r => match st.slot d, condOf st r with
    | some ⟨_, .v (.one (.bool c))⟩, some q => some (match r with | [] => bcond b c | _ :: _ => bcond b c && q)
    | _, _ => none
def mergeBxs (c : Bool) (st : ASt) : List (Nat × Option Bx) → Option (List (Nat × Option Bx))
  | [] => some []
  | (k, some (.cells new)) :: r => match st.box k, mergeBxs c st r with
    | some (.cells old), some l => match mergeL c new old with | some z => some ((k, some (.cells z)) :: l) | none => none
    | _, _ => none
  | _ :: _ => none
def gEff (st : ASt) (own : List (Nat × Bool)) (o : Oper) (e : Eff) : Option Eff :=
  match isGuarded o, e.bxs with
  | true, x :: r => match condOf st own with
    | some c => match mergeBxs c st (x :: r) with | some l => some ⟨e.need, e.dst, l⟩ | none => none
    | none => none
  | _, _ => some e
/-- The effects of a region's operations in the order of the text. -/
def evList (C : Ctx) (ops : List Oper) : List Oper → List Nat → ASt → Option (List ER)
  | [], _, _ => some []
  | o :: r, W, st => match ownOf ops W st o with
    | some own => match evOp C own W st o with
      | some e0 => match gEff st own o e0 with
        | some e => cnd (dstOk e.dst o.dst)
          (match evList C ops r (consO o.dst W) (e.apply own st) with
          | some l => some (⟨own, underO st own e.need, e⟩ :: l)
          | none => none) none
        | none => none
      | none => none
    | none => none

/-! ### Regions that draw their order: what stands ahead of an operation in every order, as bits of a number -/
def tb (A i : Nat) : Bool := Nat.beq (Nat.land (Nat.shiftRight A i) 1) 1
def bindsA (e : Edge) : Bool := match e.ground with | .textOnly _ => false | .gcOnly _ => false | _ => true
def ancOf (k : Nat) (acc : List Nat) : List Edge → Option Nat
  | [] => some 0
  | e :: r => match ancOf k acc r with
    | some A => cnd (bindsA e) (cnd (Nat.ble (Nat.succ e.on) k) (some (Nat.lor A (Nat.lor (Nat.shiftLeft 1 e.on) (acc.getD e.on 0)))) none) (some A)
    | none => none
def ancAll : List Oper → Nat → List Nat → Option (List Nat)
  | [], _, acc => some acc
  | o :: r, k, acc => match ancOf k acc o.after.toList with | some A => ancAll r (Nat.succ k) (app acc [A]) | none => none
def wrOf : List Oper → Nat → Nat → Option Nat
  | [], _, _ => none
  | o :: r, k, t => match o.dst with
    | some d => cnd (Nat.beq d t) (some k) (wrOf r (Nat.succ k) t)
    | none => wrOf r (Nat.succ k) t
/-- Is it settled, when the operation k comes up, whether the slot's writer has come up? -/
def knownA (ops : List Oper) (anc : List Nat) (k t : Nat) : Bool := match wrOf ops 0 t with
  | none => true
  | some i => orr (tb (anc.getD k 0) i) (orr (Nat.beq i k) (tb (anc.getD i 0) k))
def hasSlC (C : Ctx) (t : TypeId) : Bool := match C.D t with | some d => d.ty.hasSl | none => false
/-- Does the operation look at memory? -/
def touches (C : Ctx) (o : Oper) : Bool := match o.op with
  | .load _ _ => true | .store _ _ _ => true | .alloc _ => true | .box _ _ => true | .makeSlice _ _ _ => true | .slice _ _ _ _ _ => true | .indexAddr _ _ _ => true
  | .convert s d _ => orr (hasSlC C s) (hasSlC C d)
  | .call c => match c.callee with | .builtin .min => false | .builtin .max => false | .builtin _ => true | .value (.func f) => orr (isSomeB (C.pg f)) (orr (hasSlC C o.type) (anyB (hasSlC C) c.argTypes.toList)) | _ => true
  | _ => false
def isStore (o : Oper) : Bool := match o.op with
  | .store _ _ _ => true | .slice _ _ _ _ _ => true
  | .call c => match c.callee with | .builtin .append => true | .builtin .copy => true | _ => false
  | _ => false
def restrA (ops : List Oper) (anc : List Nat) (k : Nat) (tch : Bool) (mk : List Nat) (f : ASt) : ASt where
  slot := fun t => cnd (knownA ops anc k t) (f.slot t) none
  box := fun b => cnd (andd tch (andd (knownA ops anc k b) (nott (mem b mk)))) (f.box b) (some .tok)
/-- The effects of those that u names, in the order of the text. -/
def applyM (u : Nat → Bool) : Nat → List ER → ASt → ASt
  | _, [], st => st
  | k, e :: r, st => applyM u (Nat.succ k) r (cnd (u k) (e.eff.apply e.own st) st)
def dstsM (u : Nat → Bool) : Nat → List Oper → List Nat
  | _, [] => []
  | k, o :: r => match o.dst with | some d => cnd (u k) (d :: dstsM u (Nat.succ k) r) (dstsM u (Nat.succ k) r) | none => dstsM u (Nat.succ k) r
def noBx (e : Eff) : Bool := match e.bxs with | [] => true | _ => false
def keysOk (C : Ctx) (o : Oper) (e : Eff) : Bool := orr (noBx e) (andd (touches C o) (orr (isStore o) (allB (fun x => match o.dst with | some d => Nat.beq x.1 d | none => false) e.bxs)))
def keysB : List (Nat × Option Bx) → List Nat
  | [] => [] | (k, _) :: r => k :: keysB r
def keysE (e : Eff) : List Nat := keysB e.bxs
def subN : List Nat → List Nat → Bool
  | [], _ => true | x :: r, l => andd (mem x l) (subN r l)
def disjN : List Nat → List Nat → Bool
  | [], _ => true | x :: r, l => andd (nott (mem x l)) (disjN r l)
/-- Neither has its place ahead of the other. -/
def unord (anc : List Nat) (j k : Nat) : Bool := andd (nott (Nat.beq j k)) (andd (nott (tb (anc.getD k 0) j)) (nott (tb (anc.getD j 0) k)))
/-- What is written without a place ahead of or behind others is nothing that these look at. -/
def indepRow (C : Ctx) (anc : List Nat) (M : List (List Nat)) (j : Nat) (ks : List Nat) : Nat → List Oper → List ER → Bool
  | k, p :: r, e :: l => andd (cnd (unord anc j k) (andd (orr (nott (touches C p)) (subN ks (M.getD k []))) (disjN ks (keysE e.eff))) true) (indepRow C anc M j ks (Nat.succ k) r l)
  | _, _, _ => true
def indepAll (C : Ctx) (anc : List Nat) (M : List (List Nat)) (ops : List Oper) (l : List ER) : Nat → List Oper → List ER → Bool
  | j, o :: r, e :: q => andd (cnd (isStore o) (indepRow C anc M j (keysE e.eff) 0 ops l) true) (indepAll C anc M ops l (Nat.succ j) r q)
  | _, _, _ => true
def maskRow (anc : List Nat) (k : Nat) : Nat → List Oper → List ER → List Nat
  | j, o :: r, e :: l => app (cnd (andd (isStore o) (unord anc j k)) (keysE e.eff) []) (maskRow anc k (Nat.succ j) r l)
  | _, _, _ => []
def masks (anc : List Nat) (ops : List Oper) (l : List ER) : Nat → List Oper → List (List Nat)
  | _, [] => [] | k, _ :: r => maskRow anc k 0 ops l :: masks anc ops l (Nat.succ k) r
def evDr (C : Ctx) (ops : List Oper) (anc : List Nat) (M : List (List Nat)) (st0 : ASt) : List Oper → Nat → List ER → Option (List ER)
  | [], _, acc => some acc
  | o :: r, k, acc => match ownOf ops (dstsM (tb (anc.getD k 0)) 0 ops) (restrA ops anc k (touches C o) (M.getD k []) (applyM (tb (anc.getD k 0)) 0 acc st0)) o with
    | some own => match evOp C own (dstsM (tb (anc.getD k 0)) 0 ops) (restrA ops anc k (touches C o) (M.getD k []) (applyM (tb (anc.getD k 0)) 0 acc st0)) o with
      | some e => cnd (andd (dstOk e.dst o.dst) (andd (keysOk C o e) (nott (andd (isGuarded o) (match e.bxs with | [] => false | _ => true)))))
          (evDr C ops anc M st0 r (Nat.succ k) (app acc [⟨own, underO (restrA ops anc k (touches C o) (M.getD k []) (applyM (tb (anc.getD k 0)) 0 acc st0)) own e.need, e⟩])) none
      | none => none
    | none => none
def evDrawn (C : Ctx) (ops : List Oper) (anc : List Nat) (st : ASt) : Option (List ER) :=
  match evDr C ops anc [] st ops 0 [] with
  | some l => cnd (indepAll C anc [] ops l 0 ops l) (some l) (match evDr C ops anc (masks anc ops l 0 ops) st ops 0 [] with
    | some l' => cnd (indepAll C anc (masks anc ops l 0 ops) ops l' 0 ops l') (some l') none
    | none => none)
  | none => none
def evReg (C : Ctx) (d : Bool) (ops : List Oper) (st : ASt) : Option (List ER) :=
  cnd d (match ancAll ops 0 [] with | some anc => evDrawn C ops anc st | none => none) (evList C ops ops [] st)

def applyAll : List ER → ASt → ASt
  | [], st => st
  | e :: r, st => applyAll r (e.eff.apply e.own st)

def needs {ρ₀ ρ : Type} : List ER → Tr ρ₀ ρ → Tr ρ₀ ρ
  | [], t => t
  | e :: r, t => match e.need with | some p => .need p (needs r t) | none => needs r t

/-- Only what stands under no condition. -/
def ASt.plain (st : ASt) : ASt := { st with slot := fun t => match st.slot t with | some ⟨[], v⟩ => some ⟨[], v⟩ | _ => none }

def nodup : List Nat → Bool
  | [] => true
  | x :: r => andd (nott (anyB (fun y => Nat.beq x y) r)) (nodup r)

inductive Ex where
  | normal | exit (id : Nat) | ret

/-- What is said of a loop: its constants (slots with shapes, boxes with sizes), its variables, slots that hold boxes, its way out, and what it computes. -/
structure LS (ρ₀ : Type) where
  K : Ty
  X : Ty
  ks : List (Nat × Option Nat)
  kb : List (Nat × Nat)
  xs : List (Nat × Option Nat)
  xb : List (Nat × Nat)
  vecs : List (Nat × Nat × Bool × Nat) := []
  fz : List Nat := []
  ptrs : List (Nat × Nat)
  exit : Nat
  inv : Option (K.den → X.den → Prop)
  G : K.den → X.den → X.den
  R : Option (K.den → X.den → Option ρ₀)

def codeId : Code → Nat
  | .region id _ _ => id | .seq a _ => codeId a | .block _ b => codeId b | .cond _ a _ => codeId a | .loop b => codeId b | .scope b => codeId b | _ => 0

def dsts : Code → List Nat
  | .region _ ops _ => ops.toList.filterMap (·.dst)
  | .seq a b => app (dsts a) (dsts b) | .cond _ a b => app (dsts a) (dsts b) | .block _ b => dsts b | .loop b => dsts b | .scope b => dsts b | _ => []

/-- The cells that slots hold. -/
def rdS (st : ASt) : List (Nat × Option Nat) → Option (List Cell)
  | [] => some []
  | (t, sh) :: r => match st.slot t, rdS st r with
    | some ⟨[], .v x⟩, some cs => match sh, x with
      | none, .one c => some (c :: cs)
      | some n, .agg ds => cnd (Nat.beq (len' ds) n) (some (app ds cs)) none
      | _, _ => none
    | _, _ => none
def rdB (st : ASt) : List (Nat × Nat) → Option (List Cell)
  | [] => some []
  | (k, n) :: r => match st.box k, rdB st r with
    | some (.cells ds), some cs => cnd (Nat.beq (len' ds) n) (some (app ds cs)) none
    | some (.ro ds), some cs => cnd (Nat.beq (len' ds) n) (some (app ds cs)) none
    | _, _ => none
/-- The slots that hold boxes: each does, isn't written, isn't a variable, and its box is told of. -/
def chkP (st : ASt) (ds xs ids : List Nat) : List (Nat × Nat) → Bool
  | [] => true
  | (t, k) :: r => match st.slot t with
    | some ⟨[], .v (.one (.box k' off))⟩ => andd (andd (Nat.beq k' k) (Nat.beq off 0)) (andd (nott (mem t ds)) (andd (nott (mem t xs)) (andd (mem k ids) (chkP st ds xs ids r))))
    | _ => false
def firsts {α : Type} : List (Nat × α) → List Nat
  | [] => [] | (t, _) :: r => t :: firsts r
def seconds : List (Nat × Nat) → List Nat
  | [] => [] | (_, k) :: r => k :: seconds r
def vnames : List (Nat × Nat × Bool × Nat) → List Nat
  | [] => [] | (_, k, _, _) :: r => k :: vnames r
def chkN {ρ₀ : Type} (s : LS ρ₀) : Bool := andd (nodup (vnames s.vecs)) (allB (fun k => nott (mem k (app (firsts s.xb) (firsts s.kb)))) (vnames s.vecs))
def chkL {ρ₀ : Type} (s : LS ρ₀) (st : ASt) (ds : List Nat) : Bool :=
  andd (chkP st ds (firsts s.xs) (app (firsts s.xb) (firsts s.kb)) s.ptrs)
    (andd (allB (fun k => mem k (seconds s.ptrs)) (firsts s.xb)) (andd (allB (fun u => match st.box u with | none => true | some _ => false) ds) (allB (fun u => match st.box u with | none => true | some _ => false) (vnames s.vecs))))

def slotsOf : List (Nat × Option Nat) → List Cell → Nat → Option GS
  | [], _, _ => none
  | (t, none) :: r, c :: cs, u => cnd (Nat.beq u t) (some ⟨[], .v (.one c)⟩) (slotsOf r cs u)
  | (t, some n) :: r, cs, u => cnd (Nat.beq u t) (some ⟨[], .v (.agg (cs.take n))⟩) (slotsOf r (cs.drop n) u)
  | (t, none) :: r, [], u => slotsOf r [] u
def shLen : List (Nat × Option Nat) → Nat
  | [] => 0 | (_, none) :: r => Nat.succ (shLen r) | (_, some n) :: r => Nat.add n (shLen r)
def boxesOf (mk : List Cell → Bx) : List (Nat × Nat) → List Cell → Nat → Option Bx
  | [], _, _ => none
  | (k, n) :: r, cs, u => cnd (Nat.beq u k) (some (mk (cs.take n))) (boxesOf mk r (cs.drop n) u)
def ptrsOf : List (Nat × Nat) → Nat → Option GS
  | [], _ => none
  | (t, k) :: r, u => cnd (Nat.beq u t) (some ⟨[], .v (.one (.box k 0))⟩) (ptrsOf r u)
/-- The variables that are rows: place among the cells, name, may its elements be written, elements' type. -/
def lookV : List (Nat × Nat × Bool × Nat) → Nat → Option (Nat × Bool × Nat)
  | [], _ => none
  | (p, k, o, T) :: r, i => cnd (Nat.beq i p) (some (k, o, T)) (lookV r i)
def vxC (vs : List (Nat × Nat × Bool × Nat)) : Nat → List Cell → List Cell
  | _, [] => []
  | i, c :: r => (match lookV vs i with
    | some (k, _, _) => match c with | .lst e _ _ => .vref e k | c => c
    | none => c) :: vxC vs (Nat.succ i) r
def vxB (vs : List (Nat × Nat × Bool × Nat)) : Nat → List Cell → Nat → Option Bx
  | _, [], _ => none
  | i, c :: r, u => match lookV vs i with
    | some (k, o, T) => match c with | .lst e _ l => cnd (Nat.beq u k) (some (.vec o T e l)) (vxB vs (Nat.succ i) r u) | _ => vxB vs (Nat.succ i) r u
    | none => vxB vs (Nat.succ i) r u
/-- The variables as they are found, as lists; and the names that their rows have there. -/
def unvX (st : ASt) (vs : List (Nat × Nat × Bool × Nat)) : Nat → List Cell → Option (List Cell)
  | _, [] => some []
  | i, c :: r => match unvX st vs (Nat.succ i) r with
    | none => none
    | some r' => match lookV vs i with
      | some (_, o, T) => match c with
        | .vref e k0 => match st.box k0 with
          | some (.vec o' T' e' l) => match castL e' e l with | some l' => cnd (andd (Nat.beq T T') (orr (nott o) o')) (some (.lst e .no l' :: r')) none | none => none
          | _ => none
        | .lst e .exact l => cnd (orr (nott o) (isNilB l)) (some (.lst e .no l :: r')) none
        | _ => none
      | none => match unvC true st c with | some c' => some (c' :: r') | none => none
def keysX (vs : List (Nat × Nat × Bool × Nat)) : Nat → List Cell → List Nat
  | _, [] => []
  | i, c :: r => match lookV vs i with
    | some _ => match c with | .vref _ k0 => k0 :: keysX vs (Nat.succ i) r | _ => keysX vs (Nat.succ i) r
    | none => keysX vs (Nat.succ i) r
def orE {α : Type} (a b : Option α) : Option α := match a with | some x => some x | none => b

/-- The state at a loop's head. -/
def tmpl {ρ₀ : Type} (s : LS ρ₀) (kc xc : List Cell) : ASt where
  slot := fun u => orE (ptrsOf s.ptrs u) (orE (slotsOf s.xs (vxC s.vecs 0 xc) u) (slotsOf s.ks kc u))
  box := fun u => orE (boxesOf .cells s.xb ((vxC s.vecs 0 xc).drop (shLen s.xs)) u) (orE (boxesOf .ro s.kb (kc.drop (shLen s.ks)) u) (vxB s.vecs 0 xc u))

/-- The state behind a loop. k0: the names that the variables' rows had ahead of it. -/
def after {ρ₀ : Type} (s : LS ρ₀) (ds k0 : List Nat) (st : ASt) (xc : List Cell) : ASt where
  slot := fun u => orE (slotsOf s.xs (vxC s.vecs 0 xc) u) (cnd (mem u ds) none (st.slot u))
  box := fun u => orE (boxesOf .cells s.xb ((vxC s.vecs 0 xc).drop (shLen s.xs)) u) (orE (vxB s.vecs 0 xc u) (cnd (mem u k0) (some .tok) (st.box u)))

def appO (a b : Option (List Cell)) : Option (List Cell) := match a, b with | some x, some y => some (app x y) | _, _ => none

def evCode {ρ₀ ρ : Type} (C : Ctx) (L : Nat → Option (LS ρ₀)) : Code → ASt → (Ex → ASt → Tr ρ₀ ρ) → Tr ρ₀ ρ
  | .skip, st, k => k .normal st
  | .region id ops d, st, k => cnd (nodup (ops.toList.filterMap (·.dst))) (match evReg C d ops.toList (frzAll (C.fz id) st) with
    | some l => needs l (k .normal (applyAll l (frzAll (C.fz id) st)).plain)
    | none => .bad) .bad
  | .seq a b, st, k => evCode C L a st fun x st' => match x with | .normal => evCode C L b st' k | x => k x st'
  | .cond c a b, st, k => match opndc st [] none c with
    | some (.bool cv) => .ite cv (evCode C L a st k) (evCode C L b st k)
    | _ => .bad
  | .block id b, st, k => evCode C L b st fun x st' => match x with
    | .exit j => cnd (Nat.beq j id) (k .normal st') (k (.exit j) st')
    | x => k x st'
  | .exit id, st, k => k (.exit id) st
  | .ret, st, k => k .ret st
  | .loop body, st, k => match L (codeId body) with
    | some s => match appO (rdS (frzAll s.fz st) s.ks) (rdB (frzAll s.fz st) s.kb), appO (rdS (frzAll s.fz st) s.xs) (rdW (frzAll s.fz st) s.xb), andd (chkL s (frzAll s.fz st) (dsts body)) (chkN s) with
      | some kc0, some xc0, true => match unvL true (frzAll s.fz st) kc0, unvX (frzAll s.fz st) s.vecs 0 xc0, nodup (keysX s.vecs 0 xc0) with
        | some kc, some xc, true => match dec s.K kc, dec s.X xc with
          | some kv, some xv =>
            let go := k (.exit s.exit) (after s (dsts body) (keysX s.vecs 0 xc0) (frzAll s.fz st) (enc s.X (s.G kv xv)))
            let go := match s.R with | none => go | some R => .opt (R kv xv) go
            match s.inv with | none => go | some p => .need (p kv xv) go
          | _, _ => .bad
        | _, _, _ => .bad
      | _, _, _ => .bad
    | none => .bad
  | _, _, _ => .bad

end Go.Proofs.Ytghlpolodjlgjaa.Sy
namespace Go.Proofs.Ytghlpolodjlgjaa.Sp
/-- What is there, or else. -/
def nthT {α : Type} [Inhabited α] (l : List α) (i : Int) : α := l.getD i.toNat default
def optR {α β : Type} (o : Option α) (f : α → β) (d : β) : β := match o with | some r => f r | none => d
end Go.Proofs.Ytghlpolodjlgjaa.Sp
namespace Go.Proofs.Ytghlpolodjlgjaa.Sy
open Go
def Tr.val {ρ₀ ρ : Type} (rt : ρ₀ → ρ) (d : ρ) : Tr ρ₀ ρ → ρ
  | .ret r => r | .ite c t e => bif c then t.val rt d else e.val rt d | .need _ t => t.val rt d
  | .opt o t => Sp.optR o rt (t.val rt d)
  | .bad => d
def Tr.All {ρ₀ ρ : Type} (rt : ρ₀ → ρ) (Post : ρ → Prop) : Tr ρ₀ ρ → Prop
  | .ret r => Post r | .ite c t e => (c = true → t.All rt Post) ∧ (c = false → e.All rt Post) | .need p t => p ∧ t.All rt Post
  | .opt o t => (∀ r, o = some r → Post (rt r)) ∧ (o = none → t.All rt Post)
  | .bad => False
def Tr.safe {ρ₀ ρ : Type} : Tr ρ₀ ρ → Prop
  | .ret _ => True | .ite c t e => (c = true → t.safe) ∧ (c = false → e.safe) | .need p t => p ∧ t.safe
  | .opt o t => o = none → t.safe
  | .bad => False

/-! ### Functions -/
def resCells (C : Ctx) (fn : Func) (st : ASt) : List ResultVar → Option (List SV)
  | [] => some []
  | .tmp t :: r => match opnd1 st [] none (.tmp t), resCells C fn st r with | some v, some l => some (v :: l) | _, _ => none
  | .cell a t :: r => match opndc st [] none (.tmp a), C.D t, resCells C fn st r with
    | some (.box k 0), some d, some l => match st.box k with
      | some (.cells cs) => match mkSV d.agg (cs.take d.ty.n) with | some v => cnd (Nat.ble d.ty.n (len' cs)) (some (v :: l)) none | none => none
      | _ => none
    | _, _, _ => none

def shapesOf : Rsh → List (Option Nat)
  | .none => [] | .one s => [s] | .tup ss => ss

/-- Are all slices among the cells rows of their own, or nil? -/
def freshL (st : ASt) (T : Nat) : List Cell → Bool
  | [] => true
  | .lst _ .exact l :: r => andd (isNilB l) (freshL st T r)
  | .lst _ _ _ :: _ => false
  | .vref _ k :: r => match st.box k with
    | some (.vec true T' _ _) => andd (Nat.beq (unB T) T') (freshL st T r)
    | some (.vec false T' _ _) => andd (andd (Nat.ble big T) (Nat.beq (unB T) T')) (freshL st T r)
    | _ => false
  | _ :: r => freshL st T r
def freshS (st : ASt) (T : Nat) : List SV → Bool
  | [] => true | x :: r => andd (freshL st T x.cells) (freshS st T r)

def freshO (st : ASt) (xs : List SV) : Option Nat → Bool
  | none => true | some T => freshS st T xs

def evRet (C : Ctx) (fn : Func) (rsh : Rsh) (fr : Option Nat) (r : Ty) (x : Ex) (st : ASt) : Tr r.den r.den :=
  match x, rsh with
  | .exit _, _ => .bad
  | _, .tup [_] => .bad
  | _, _ => match resCells C fn st fn.results.toList with
    | some xs0 => match unvSs false st xs0, freshO st xs0 fr with
      | some xs, true => match shapes (shapesOf rsh) xs with
        | some cs => match dec r cs with | some y => .ret y | none => .bad
        | none => .bad
      | _, _ => .bad
    | none => .bad

def initSlots : List SV → Nat → Nat → Option GS
  | [], _, _ => none
  | v :: r, i, t => cnd (Nat.beq t i) (some ⟨[], .v v⟩) (initSlots r (Nat.add i 1) t)

def evFn (C : Ctx) (fn : Func) (p : Ty) (psh : List (Option Nat)) (rsh : Rsh) (fr : Option Nat) (r : Ty) (L : Nat → Option (LS r.den)) (x : p.den) : Tr r.den r.den :=
  match fn.body, unshape psh (enc p x) with
  | some c, some vs => cnd (allB (fun d => Nat.ble (Nat.succ d) fn.ntmps) (dsts c)) (evCode C L c { slot := fun t => initSlots vs 0 t, box := fun _ => none } (evRet C fn rsh fr r)) .bad
  | _, _ => .bad
end Go.Proofs.Ytghlpolodjlgjaa.Sy
