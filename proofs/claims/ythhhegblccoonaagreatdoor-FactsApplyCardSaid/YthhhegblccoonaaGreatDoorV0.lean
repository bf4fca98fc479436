import Derived.Calls
import Derived.Laws.Sem
import Derived.Laws.StructEq
/- A small evaluator of Go's code by value: its definitions. -/
namespace Go.Vm

/-- A value by value: `sl` is a slice (own: sole owner of the room behind its end), `vp` an address of cells that are never written again, `ptr` an address in the abstract heap. -/
inductive V where
  | bad
  | sc (v : Value)
  | agg (cs : List V)
  | tup (vs : List V)
  | sl (own : Bool) (es : List (List V))
  | vp (cs : List V)
  | ptr (i off : Nat)
  deriving Inhabited

abbrev Heap := List (List V)

def V.cells : V → List V
  | .agg cs => cs
  | v => [v]

/-- Has the value cells? -/
def okV : V → Bool
  | .agg _ => true
  | .sc v => v.oneCell'
  | .sl _ _ => true
  | .vp _ => true
  | .ptr _ _ => true
  | _ => false

def ofCell : Value → V
  | .slice none 0 0 => .sl true []
  | v => .sc v

def ofConst : Value → V
  | .agg cs => .agg (cs.toList.map ofCell)
  | v => ofCell v

mutual
/-- Without ownership. -/
def erase : V → V
  | .agg cs => .agg (eraseL cs)
  | .tup vs => .tup (eraseL vs)
  | .sl _ es => .sl false es
  | v => v
def eraseL : List V → List V
  | [] => []
  | v :: vs => erase v :: eraseL vs
end

mutual
/-- Is there no address of the abstract heap? -/
def noRef : V → Bool
  | .agg cs => noRefL cs
  | .tup vs => noRefL vs
  | .ptr _ _ => false
  | _ => true
def noRefL : List V → Bool
  | [] => true
  | v :: vs => noRef v && noRefL vs
end

mutual
/-- Addresses are given other numbers; one without a number is forgotten. -/
def ren (f : Nat → Option Nat) : V → V
  | .agg cs => .agg (renL f cs)
  | .tup vs => .tup (renL f vs)
  | .ptr i off => match f i with | some j => .ptr j off | none => .bad
  | v => v
def renL (f : Nat → Option Nat) : List V → List V
  | [] => []
  | v :: vs => ren f v :: renL f vs
end

mutual
def refs : V → List Nat
  | .agg cs => refsL cs
  | .tup vs => refsL vs
  | .ptr i _ => [i]
  | _ => []
def refsL : List V → List Nat
  | [] => []
  | v :: vs => refs v ++ refsL vs
end

/-- Blocks from n on are forgotten. -/
def keep (n : Nat) (i : Nat) : Option Nat := if i < n then some i else none
def clean (n : Nat) : V → V := ren (keep n)
def cleanL (n : Nat) : List V → List V := renL (keep n)

/-- Is a constant a single cell, or a row of single cells? -/
def constV : Value → Bool
  | .agg cs => cs.toList.all Value.oneCell'
  | _ => true

/-- The package's variables that a proof knows: their cells, by number. -/
class Globs where
  gl : Nat → Option (List V)
variable [Globs]

def ev (s : List V) : Operand → Option V
  | .tmp t => s[t]?
  | .const v => if constV v then some (ofConst v) else none
  | .func f => some (.sc (.func (.func f) #[] #[]))
  | .global g => match Globs.gl g with | some cs => some (.vp cs) | none => none

/-! ## Operations on scalars -/

/-- Arithmetic, held apart so that a proof can leave it unopened. -/
structure Ar where
  op : BinOp → IntKind → Int → Int → Int
  ok : BinOp → Int → Bool
  cmp : BinOp → Int → Int → Bool
  neg : IntKind → Int → Int
  not : IntKind → Int → Int
  wrap : IntKind → Int → Int
  min : Int → Int → Int
  max : Int → Int → Int
  idx : Int → Option Nat
  len : List (List V) → Int
  get : List (List V) → Int → Option (List V)
  cut : Nat → List (List V) → Option V → Option V → Option (List (List V))
  app : Nat → Nat → List (List V) → List (List V) → Option (List (List V))
  byte : ByteArray → Int → Option Int

def most : Nat := 2 ^ 47

def realIdx (i : Int) : Option Nat := if 0 ≤ i then some i.toNat else none

def realBound (x : Option V) (d : Nat) : Option Nat :=
  match x with
  | none => some d
  | some (.sc (.int _ n)) => realIdx n
  | _ => none

def real : Ar where
  op o k a b := match o with
    | .shl => k.wrap (a * 2 ^ (Min.min b.toNat k.bits))
    | .shr => a.fdiv (2 ^ (Min.min b.toNat k.bits))
    | .add => k.wrap (a + b)
    | .sub => k.wrap (a - b)
    | .mul => k.wrap (a * b)
    | .quo => k.wrap (a.tdiv b)
    | .rem => a.tmod b
    | .and => k.wrap (BitVec.ofInt k.bits a &&& BitVec.ofInt k.bits b).toNat
    | .or => k.wrap (BitVec.ofInt k.bits a ||| BitVec.ofInt k.bits b).toNat
    | .xor => k.wrap (BitVec.ofInt k.bits a ^^^ BitVec.ofInt k.bits b).toNat
    | .andNot => k.wrap (BitVec.ofInt k.bits a &&& ~~~ BitVec.ofInt k.bits b).toNat
    | _ => 0
  ok o b := match o with
    | .shl => decide (0 ≤ b)
    | .shr => decide (0 ≤ b)
    | .quo => !decide (b = 0)
    | .rem => !decide (b = 0)
    | _ => true
  cmp op a b := match op with
    | .eql => decide (a = b)
    | .neq => !decide (a = b)
    | .lss => decide (a < b)
    | .leq => decide (a ≤ b)
    | .gtr => decide (b < a)
    | .geq => decide (b ≤ a)
    | _ => false
  neg k n := k.wrap (0 - n)
  not k n := k.wrap (BitVec.ofInt k.bits (if k.signed then -1 else k.max) ^^^ BitVec.ofInt k.bits n).toNat
  wrap k n := k.wrap n
  min x y := if y < x then y else x
  max x y := if x < y then y else x
  idx i := realIdx i
  len es := es.length
  get es i := match realIdx i with
    | some j => es[j]?
    | none => none
  cut n es lo hi := match realBound hi es.length, realBound lo 0 with
    | some h, some l => if l ≤ h ∧ h ≤ es.length ∧ (es.head?.map (·.length)).getD n = n then some ((es.drop l).take (h - l)) else none
    | _, _ => none
  app n b es fs := if (es.length + fs.length) * b ≤ most ∧ es.length + fs.length ≤ most ∧ (es.head?.map (·.length)).getD n = n ∧ (fs.head?.map (·.length)).getD n = n then some (es ++ fs) else none
  byte s i := match (if 0 ≤ i then s[i.toNat]? else none) with
    | some b => some b.toNat
    | none => none

def whenB {α : Type} : Bool → Option α → Option α
  | true, x => x
  | false, _ => none

def bin (A : Ar) (op : BinOp) (k : IntKind) (a : Int) (k' : IntKind) (b : Int) : Option Value :=
  match op with
  | .shl => (whenB (A.ok .shl b) (some (.int k (A.op .shl k a b))))
  | .shr => (whenB (A.ok .shr b) (some (.int k (A.op .shr k a b))))
  | .quo => if k = k' then (whenB (A.ok .quo b) (some (.int k (A.op .quo k a b)))) else none
  | .rem => if k = k' then (whenB (A.ok .rem b) (some (.int k (A.op .rem k a b)))) else none
  | .eql => if k = k' then some (.bool (A.cmp .eql a b)) else none
  | .neq => if k = k' then some (.bool (A.cmp .neq a b)) else none
  | .lss => if k = k' then some (.bool (A.cmp .lss a b)) else none
  | .leq => if k = k' then some (.bool (A.cmp .leq a b)) else none
  | .gtr => if k = k' then some (.bool (A.cmp .gtr a b)) else none
  | .geq => if k = k' then some (.bool (A.cmp .geq a b)) else none
  | op => if k = k' then some (.int k (A.op op k a b)) else none

def un (A : Ar) (op : UnOp) : Value → Option Value
  | .int k n =>
    match op with
    | .neg => some (.int k (A.neg k n))
    | .xor => some (.int k (A.not k n))
    | _ => none
  | .bool b => match op with | .not => some (.bool !b) | _ => none
  | _ => none

def min2 (A : Ar) : Value → Value → Option Value
  | .int k x, .int _ y => some (.int k (A.min x y))
  | _, _ => none
def max2 (A : Ar) : Value → Value → Option Value
  | .int k x, .int _ y => some (.int k (A.max x y))
  | _, _ => none

/-- What the evaluator knows of a type. -/
inductive Kd where
  | int (k : IntKind) | bool | string
  | struct (fs : List (Nat × TypeId)) (eqOk : Bool)
  | array (n : Nat) (e : TypeId)
  | slice (e : TypeId)
  | other

structure TI where
  kd : Kd
  size : Nat
  bytes : Nat
  zero : List V

abbrev Types := TypeId → Option TI

inductive Ex where
  | nrm
  | ret
  | exit (id : Nat)

structure St where
  s : List V
  h : Heap
  deriving Inhabited

/-- The table of types, arithmetic, and what runs a loop: (body, blocks kept, slots kept, rounds). -/
structure En where
  ty : Types
  ar : Ar
  lp : (St → Option (Ex × St)) → Nat → List Nat → Nat → St → Option (Ex × St)

def isAgg (T : En) (t : TypeId) : Option Bool :=
  match T.ty t with
  | some i => match i.kd with
    | .struct _ _ | .array _ _ => some true
    | _ => some false
  | none => none

def kd (T : En) (t : TypeId) : Option Kd := match T.ty t with | some i => some i.kd | none => none
def size (T : En) (t : TypeId) : Option Nat := match T.ty t with | some i => some i.size | none => none

/-- The value of type t in cells from an offset on. -/
def part (T : En) (t : TypeId) (cs : List V) (off : Nat) : Option V :=
  match T.ty t with
  | some i => match i.kd with
    | .struct _ _ | .array _ _ => if off + i.size ≤ cs.length then some (.agg ((cs.drop off).take i.size)) else none
    | _ => cs[off]?
  | none => none

/-- Equality of the fields of two structs. -/
def eqGo (T : En) (f : TypeId → V → V → Option Bool) (xs ys : List V) : List (Nat × TypeId) → Option Bool
  | [] => some true
  | (off, t) :: fs =>
    match part T t xs off, part T t ys off with
    | some x, some y => match f t x y with
      | some true => eqGo T f xs ys fs
      | some false => some false
      | none => none
    | _, _ => none

/-- Equality of values of a type: numbers, bools, structs of these. -/
def eqs (T : En) : Nat → TypeId → V → V → Option Bool
  | 0, _, _, _ => none
  | d + 1, t, x, y =>
    match kd T t, x, y with
    | some .bool, .sc (.bool a), .sc (.bool b) => some (a == b)
    | some (.int _), .sc (.int k a), .sc (.int k' b) => if k = k' then some (T.ar.cmp .eql a b) else none
    | some (.struct fs true), .agg xs, .agg ys => eqGo T (eqs T d) xs ys fs
    | _, _, _ => none

def binV (T : En) (op : BinOp) (t : TypeId) : V → V → Option V
  | .sc (.int k a), .sc (.int k' b) => (bin T.ar op k a k' b).map .sc
  | x, y =>
    match op with
    | .eql => (eqs T 8 t x y).map fun b => .sc (.bool b)
    | .neq => (eqs T 8 t x y).map fun b => .sc (.bool !b)
    | _ => none

/-! ## Operations -/

/-- An operation with what its region knows of it: the number of its block, the temporary of its guard, whether it takes over what it reads. -/
structure PO where
  o : Oper
  id : Nat
  g : Option (Nat × Bool)
  take : Bool
  pos : Option (TypeId × Nat)

def temps (o : Oper) : List Nat := o.op.operands.toList.filterMap fun | .tmp t => some t | _ => none

def wantedV (p : PO) (s : List V) : Option Bool :=
  match p.g with
  | none => some true
  | some (t, want) => match s[t]? with
    | some (.sc (.bool b)) => some (b == want)
    | some (.sc (.tuple _)) => some false
    | _ => none

/-- The temporary whose ownership an operation takes over. -/
def consumed (p : PO) : Option Nat :=
  match p.o.op with
  | .assign (.tmp t) | .box _ (.tmp t) | .store _ _ (.tmp t) => some t
  | .move (.tmp t) => if p.take then some t else none
  | .call { callee := .builtin .append, args, .. } => match args.toList with | .tmp t :: _ => some t | _ => none
  | _ => none

def field (T : En) (t : TypeId) (f : Nat) : Option (Nat × TypeId) :=
  match kd T t with
  | some (.struct fs _) => fs[f]?
  | _ => none

/-- The cells of a value of a type. -/
def partLen (T : En) (t : TypeId) : Nat :=
  match T.ty t with
  | some i => match i.kd with
    | .struct _ _ => i.size
    | .array _ _ => i.size
    | _ => 1
  | none => 0

/-- Cells without ownership, in a row. -/
def wipe (cs : List V) (off n : Nat) : List V := cs.take off ++ eraseL ((cs.drop off).take n) ++ cs.drop (off + n)

def splice (cs : List V) (off : Nat) (vs : List V) : List V := cs.take off ++ vs ++ cs.drop (off + vs.length)

/-- Parts of a struct or an array, put over zero cells. -/
def fillV (place : Nat → Option (Nat × Nat)) (cs : List V) : List (Nat × V) → Option (List V)
  | [] => some cs
  | (i, v) :: rest => match place i with
    | none => none
    | some (off, n) => if v.cells.length = n ∧ okV v = true ∧ off + n ≤ cs.length then fillV place (splice cs off v.cells) rest else none

def fillS (n : Nat) (es : List (List V)) : List (Nat × V) → Option (List (List V))
  | [] => some es
  | (i, v) :: rest => if v.cells.length = n ∧ okV v = true ∧ i < es.length ∧ noRef v = true then fillS n (es.set i (eraseL v.cells)) rest else none

def zeroCells (T : En) (t : TypeId) : Option (List V) := match T.ty t with | some i => some i.zero | none => none

def bound (T : En) (x : Option V) (d : Nat) : Option Nat :=
  match x with
  | none => some d
  | some (.sc (.int _ n)) => T.ar.idx n
  | _ => none

/-- An index: a constant is no secret. -/
def idxV (T : En) (x : Operand) (i : Int) : Option Nat :=
  match x with
  | .const _ => real.idx i
  | _ => T.ar.idx i

def sliceV (T : En) (t : TypeId) (x : V) (lo hi mx : Option V) : Option V :=
  match kd T t, x, mx with
  | some (.slice e), .sl _ es, none => match size T e with
    | some n => (T.ar.cut n es lo hi).map (.sl false)
    | _ => none
  | some (.slice e), .sl _ _, some m => match size T e, bound T (some m) 0, bound T hi 0, bound T lo 0 with
    | some _, some 0, some 0, some 0 => if hi.isSome then some (.sl true []) else none
    | _, _, _, _ => none
  | some .string, .sc (.string s), none => match bound T hi s.size, bound T lo 0 with
    | some h, some l => if l ≤ h ∧ h ≤ s.size then some (.sc (.string (s.extract l h))) else none
    | _, _ => none
  | _, _, _ => none

def lenV (T : En) (t : TypeId) (x : V) : Option V :=
  match kd T t, x with
  | some (.slice _), .sl _ es => some (.sc (.int .i64 (T.ar.len es)))
  | some .string, .sc (.string s) => some (.sc (.int .i64 s.size))
  | some (.array n _), _ => some (.sc (.int .i64 n))
  | _, _ => none

def foldV (f : Value → Value → Option Value) : Value → List V → Option Value
  | x, [] => some x
  | x, .sc y :: rest => (f x y).bind fun z => foldV f z rest
  | _, _ => none

/-- append(x, y...) with the element's size and bytes. -/
def appendV (T : En) (t : TypeId) (x y : V) : Option V :=
  match kd T t, x, y with
  | some (.slice e), .sl true es, .sl _ fs => match T.ty e with
    | some i => if 0 < i.size ∧ i.zero.length = i.size then (T.ar.app i.size i.bytes es fs).map (.sl true) else none
    | none => none
  | _, _, _ => none

def builtinV (T : En) (b : Builtin) (ts : Array TypeId) (vs : List V) : Option V :=
  match b, ts[0]?, vs with
  | .len, some t, [x] => lenV T t x
  | .min, _, .sc x :: rest => (foldV (min2 T.ar) x rest).map .sc
  | .max, _, .sc x :: rest => (foldV (max2 T.ar) x rest).map .sc
  | .append, some t, [x, y] => match ts[1]? with
    | some u => match kd T u with
      | some (.slice _) => appendV T t x y
      | _ => none
    | none => none
  | _, _, _ => none

/-- What an operation yields that neither reads nor writes the abstract heap. -/
def pureAct (T : En) (p : PO) (vs : List V) : Option V :=
  match p.o.op with
  | .move _ => match vs with
    | [x] => some (if p.take then x else erase x)
    | _ => none
  | .assign _ => match vs with
    | [x] => some x
    | _ => none
  | .pick .. => match vs with
    | [.sc (.bool c), a, b] => some (erase (match c with | true => a | false => b))
    | _ => none
  | .alloc _ => match vs with
    | [] => some (.ptr p.id 0)
    | _ => none
  | .binOp op t _ _ _ => match vs with
    | [a, b] => binV T op t a b
    | _ => none
  | .unOp op _ _ => match vs with
    | [.sc a] => (un T.ar op a).map .sc
    | _ => none
  | .convert src dst _ => match vs with
    | [.sc (.int _ n)] => match kd T src, kd T dst with
      | some _, some (.int k) => some (.sc (.int k (T.ar.wrap k n)))
      | _, _ => none
    | _ => none
  | .nilCheck _ => match vs with
    | [.ptr i off] => some (.ptr i off)
    | [.vp cs] => some (.vp cs)
    | _ => none
  | .fieldAddr t _ f => match vs with
    | [x] => match field T t f with
      | some (off, ft) => match size T ft, x with
        | some (_ + 1), .ptr i o => some (.ptr i (o + off))
        | some (_ + 1), .vp cs => if off ≤ cs.length then some (.vp (cs.drop off)) else none
        | _, _ => none
      | none => none
    | _ => none
  | .indexAddr t _ ix => match vs with
    | [x, .sc (.int _ i)] => match kd T t, x with
      | some (.slice e), .sl _ es => match T.ar.get es i with
        | some c => if size T e = some c.length then some (.vp c) else none
        | none => none
      | some (.array n e), .ptr b off => match idxV T ix i, size T e with
        | some j, some k => if j < n then some (.ptr b (off + j * k)) else none
        | _, _ => none
      | some (.array n e), .vp cs => match idxV T ix i, size T e with
        | some j, some k => if j < n ∧ j * k ≤ cs.length then some (.vp (cs.drop (j * k))) else none
        | _, _ => none
      | _, _ => none
    | _ => none
  | .field t _ f => match vs with
    | [.agg cs] => match field T t f with
      | some (off, ft) => (part T ft cs off).map erase
      | none => none
    | _ => none
  | .index t _ ix => match vs with
    | [x, .sc (.int _ i)] => match kd T t, x with
      | some (.array n e), .agg cs => match idxV T ix i, size T e with
        | some j, some k => if j < n then (part T e cs (j * k)).map erase else none
        | _, _ => none
      | some .string, .sc (.string s) => match T.ar.byte s i with
        | some b => some (.sc (.int .u8 b))
        | none => none
      | _, _ => none
    | _ => none
  | .extract _ i => match vs with
    | [.tup us] => (us[i]?).map erase
    | _ => none
  | .build t parts => match kd T t, zeroCells T t with
    | some (.struct fs _), some z => (fillV (fun i => match fs[i]? with | some (off, ft) => (match size T ft with | some n => some (off, n) | none => none) | none => none) z ((parts.toList.map (·.1)).zip (vs.map erase))).map .agg
    | some (.array _ e), some z => match size T e with
      | some n => (fillV (fun i => some (i * n, n)) z ((parts.toList.map (·.1)).zip (vs.map erase))).map .agg
      | none => none
    | _, _ => none
  | .buildSlice t n parts => match kd T t with
    | some (.slice e) => match size T e, zeroCells T e with
      | some k, some z => if n * k ≤ 2 ^ 24 then (fillS k (List.replicate n (eraseL z)) ((parts.toList.map (·.1)).zip vs)).map (.sl true) else none
      | _, _ => none
    | _ => none
  | .slice t _ lo hi mx => match lo.isSome, hi.isSome, mx.isSome, vs with
    | false, false, false, [x] => sliceV T t x none none none
    | true, false, false, [x, l] => sliceV T t x (some l) none none
    | false, true, false, [x, h] => sliceV T t x none (some h) none
    | true, true, false, [x, l, h] => sliceV T t x (some l) (some h) none
    | true, true, true, [x, l, h, m] => sliceV T t x (some l) (some h) (some m)
    | _, _, _, _ => none
  | .call c => match c.callee with
    | .builtin b => builtinV T b c.argTypes vs
    | _ => none
  | .load t _ => match vs with
    | [.vp cs] => (part T t cs 0).map erase
    | _ => none
  | _ => none

/-- The calls: function, arguments, the blocks that these refer to. -/
abbrev Oracle := FuncId → List V → Heap → Option (V × Heap)

def addNew (l : List Nat) : List Nat → List Nat
  | [] => l
  | x :: xs => if l.contains x then addNew l xs else addNew (l ++ [x]) xs

/-- The blocks that addresses reach. -/
def reach (h : Heap) : Nat → List Nat → List Nat
  | 0, l => l
  | n + 1, l => reach h n (addNew l (l.flatMap fun i => refsL (h.getD i [])))

def setAll (h : Heap) : List Nat → Heap → Heap
  | i :: is, c :: cs => setAll (h.set i c) is cs
  | _, _ => h

/-- (Arguments of these are evaluated first.) -/
def ask (K : Oracle) (f : FuncId) (as : List V) (h : Heap) : Option (V × Heap) := K f as h

def callR (K : Oracle) (f : FuncId) (as : List V) (h : Heap) (ids : List Nat) : Option (V × Heap) :=
  if ids.Nodup then
    (ask K f (renL (fun i => ids.idxOf? i) as) (ids.map fun i => renL (fun i => ids.idxOf? i) (h.getD i []))).map fun r => (ren (fun j => ids[j]?) r.1, setAll h ids (r.2.map (renL (fun j => ids[j]?))))
  else none

def callW (K : Oracle) (fo : Bool) (f : FuncId) (as : List V) (h : Heap) : Option (V × Heap) :=
  if noRefL as then (ask K f as []).map fun r => (r.1, h)
  else if fo then none
  else callR K f as h (reach h h.length (addNew [] (refsL as)))

def callV (K : Oracle) (fo : Bool) (f : FuncId) (vs : List V) (h : Heap) : Option (V × Heap) := callW K fo f (eraseL vs) h

inductive Mem where
  | none | read | write
  deriving DecidableEq

def memOf (p : PO) (fo : Bool) : Mem :=
  match p.o.op with
  | .load _ _ => if fo then (if p.pos.isSome then .read else .none) else if p.take then .write else .read
  | .store .. => .write
  | .box .. => .write
  | .call c => match c.callee with
    | .value (.func _) => if fo then .none else .write
    | _ => .none
  | _ => .none

/-- The fields one behind the other. -/
def sortedB (T : En) : Nat → List (Nat × TypeId) → Bool
  | _, [] => true
  | lo, (o, t) :: fs => match size T t with
    | some n => decide (lo ≤ o) && sortedB T (o + n) fs
    | none => false

/-- Is an offset that of the field that the operation's place names? -/
def posOk (T : En) (pos : Option (TypeId × Nat)) (t : TypeId) (off : Nat) : Bool :=
  match pos with
  | none => false
  | some (u, f) => match kd T u with
    | some (.struct fs _) => match fs[f]? with
      | some (o, ft) => match size T ft, size T t with
        | some n, some m => n == m && decide (0 < n) && off == o && sortedB T 0 fs
        | _, _ => false
      | none => false
    | _ => false

def loadOk (T : En) (p : PO) (fo : Bool) (t : TypeId) (off : Nat) : Bool := match fo with | false => true | true => posOk T p.pos t off
def storeOk (T : En) (p : PO) (fo : Bool) (t : TypeId) (off : Nat) : Bool := match fo, p.pos with | true, some _ => posOk T p.pos t off | _, _ => true

def withHeap (v : Option V) (h : Heap) : Option (V × Heap) :=
  match v with
  | some v => some (v, h)
  | none => none

/-- What an operation yields, and the abstract heap behind it. -/
def act (T : En) (K : Oracle) (p : PO) (fo : Bool) (vs : List V) (h : Heap) : Option (V × Heap) :=
  match p.o.op with
  | .load t _ => match vs with
    | [.ptr i off] => match loadOk T p fo t off with
      | false => none
      | true => match h[i]? with
        | some cs => match part T t cs off with
          | some v => some (match !fo && p.take with | true => (v, h.set i (wipe cs off (partLen T t))) | false => (erase v, h))
          | none => none
        | none => none
    | _ => withHeap (pureAct T p vs) h
  | .store t _ _ => match vs with
    | [.ptr i off, v] => match storeOk T p fo t off with
      | false => none
      | true => match h[i]? with
        | some cs => if size T t = some v.cells.length ∧ okV v = true ∧ off + v.cells.length ≤ cs.length then some (.sc undef, h.set i (splice cs off v.cells)) else none
        | none => none
    | _ => none
  | .box t _ => match vs with
    | [v] => if size T t = some v.cells.length ∧ okV v = true ∧ p.id < h.length then some (.ptr p.id 0, h.set p.id v.cells) else none
    | _ => none
  | .call c => match c.callee with
    | .value (.func f) => match vs with
      | _ :: vs => callV K fo f vs h
      | _ => none
    | _ => withHeap (pureAct T p vs) h
  | _ => withHeap (pureAct T p vs) h

def putV (s : List V) (dst : Option Nat) (v : V) : List V :=
  match dst with
  | some d => s.set d v
  | none => s

def step (T : En) (K : Oracle) (fo : Bool) (p : PO) (st : St) : Option St :=
  match wantedV p st.s with
  | none => none
  | some false => some ⟨putV st.s p.o.dst (.sc undef), st.h⟩
  | some true => match p.o.op.operands.toList.mapM (ev st.s) with
    | none => none
    | some vs => match act T K p fo vs st.h with
      | none => none
      | some (v, h) => some ⟨putV (match consumed p with | some t => st.s.modify t erase | none => st.s) p.o.dst v, h⟩

def runs (T : En) (K : Oracle) : List (Bool × PO) → St → Option St
  | [], st => some st
  | (fo, p) :: l, st => match step T K fo p st with
    | some st' => runs T K l st'
    | none => none

/-! ## Regions -/

/-- Is the temporary read by an append of the region, as what is appended to? -/
def appends (ops : List Oper) (d : Option Nat) : Bool :=
  match d with
  | none => false
  | some d => ops.any fun o => match o.op with
    | .call { callee := .builtin .append, args, .. } => match args.toList with | .tmp t :: _ => t == d | _ => false
    | _ => false

def isNew (o : Oper) : Bool := match o.op with | .alloc _ | .box _ _ => true | _ => false

/-- The temporary of an operation's guard (one that is never a bool, if there is none: guardsOk). -/
def guardOf (ops : List Oper) (o : Oper) : Option (Nat × Bool) :=
  match o.guard with
  | none => none
  | some (j, want) => some (((ops[j]?).bind (·.dst)).getD 0, want)

/-- The field that an operation reads or writes, if its address is made in the region. -/
def rawPos (ops : List Oper) (ad : Operand) : Option (TypeId × Nat) :=
  match ad with
  | .tmp d => ops.findSome? fun q => if q.dst == some d then (match q.op with | .fieldAddr t _ f => some (t, f) | _ => none) else none
  | _ => none
def storesAt (ops : List Oper) : List (Option (TypeId × Nat)) := ops.filterMap fun q => match q.op with | .store _ ad _ => some (rawPos ops ad) | _ => none
/-- A load of a field of a struct, where all stores of the region go to other fields of such structs. -/
def loadPos (ops : List Oper) (ad : Operand) : Option (TypeId × Nat) :=
  match rawPos ops ad with
  | none => none
  | some (t, f) => match (storesAt ops).isEmpty || !(storesAt ops).all (fun q => match q with | some (u, g) => u == t && g != f | none => false) with
    | true => none
    | false => some (t, f)
def posOf (ops : List Oper) (o : Oper) : Option (TypeId × Nat) :=
  match o.op with
  | .load _ ad => loadPos ops ad
  | .store _ ad _ => match ops.any (fun q => match q.op with | .load _ ad => (loadPos ops ad).isSome | _ => false) with
    | true => rawPos ops ad
    | false => none
  | _ => none

def prepFrom (ops : List Oper) : List Oper → Nat → List PO
  | [], _ => []
  | o :: l, n => ⟨o, n, guardOf ops o, appends ops o.dst, posOf ops o⟩ :: prepFrom ops l (if isNew o then n + 1 else n)

/-- The zero cells of the blocks that a region makes. -/
def newBlocks (T : En) : List Oper → Option Heap
  | [] => some []
  | o :: l => match o.op with
    | .alloc t => match zeroCells T t, newBlocks T l with
      | some z, some r => some (z :: r)
      | _, _ => none
    | .box _ _ => (newBlocks T l).map ([] :: ·)
    | _ => newBlocks T l

/-- Does operation i come before operation j in any order? -/
def ord (ops : List Oper) : Nat → Nat → Nat → Bool
  | 0, _, _ => false
  | n + 1, i, j => match ops[j]? with
    | some o => o.after.toList.any fun e => Region.binds .any e && (e.on == i || ord ops n i e.on)
    | none => false

def reads (p : PO) : List Nat := temps p.o ++ (match p.g with | some (t, _) => [t] | none => [])
def writes (p : PO) : List Nat := (match p.o.dst with | some d => [d] | none => []) ++ (match consumed p with | some t => [t] | none => [])

/-- A load and a store of different fields. -/
def cross (fo1 fo2 : Bool) (x y : PO) : Bool :=
  fo1 && fo2 && (match x.o.op, y.o.op with | .load _ _, .store _ _ _ => true | _, _ => false) &&
  (match x.pos, y.pos with | some (t, f), some (u, g) => t == u && f != g | _, _ => false)

def apart (fo1 fo2 : Bool) (x y : PO) : Bool :=
  (writes x).all (fun t => !(reads y).contains t && !(writes y).contains t) && (writes y).all (fun t => !(reads x).contains t) &&
  (match memOf x fo1, memOf y fo2 with
   | .none, _ | _, .none => true
   | .read, .read => true
   | _, _ => cross fo1 fo2 x y || cross fo2 fo1 y x)

def getAt (l : List (Bool × PO)) (i : Nat) : Option (Bool × PO) := l[i]?

/-- In a region that draws: is each pair that may come in either order apart? -/
def drawOk (ops : List Oper) (l : List (Bool × PO)) : Bool :=
  l.zipIdx.all fun (y, j) => l.zipIdx.all fun (x, i) => !(i < j) || ord ops ops.length i j || apart x.1 y.1 x.2 y.2

/-- Which operations matter to an operation that may come in either order with them: to a load those that write (calls apart). -/
def heeds (p q : PO) : Bool :=
  match p.o.op with
  | .load _ _ => match q.o.op with
    | .call _ => false
    | _ => memOf q false == .write
  | _ => memOf q false != .none

/-- A call must be by value, and a load of cells that never change, if it may come in either order with such an operation. -/
def flags (draw : Bool) (ops : List Oper) (l : List PO) : List (Bool × PO) :=
  l.zipIdx.map fun (p, j) => (draw && l.zipIdx.any fun (q, i) => i != j && heeds p q && !ord ops ops.length i j && !ord ops ops.length j i, p)

/-- Edges lead back. -/
def edgesBack (ops : List Oper) : Bool := ops.zipIdx.all fun (o, i) => o.after.toList.all fun e => !Region.binds .any e || decide (e.on < i)

def guardsOk (ops : List Oper) : Bool := ops.all fun o => match o.guard with
  | none => true
  | some (j, _) => ((ops[j]?).bind (·.dst)).isSome

def evRegion (T : En) (K : Oracle) (ops : List Oper) (draw : Bool) (st : St) : Option St :=
  match newBlocks T ops with
  | none => none
  | some nb =>
    let l := flags draw ops (prepFrom ops ops st.h.length)
    if guardsOk ops && (!draw || (edgesBack ops && drawOk ops l)) then runs T K l ⟨st.s, st.h ++ nb⟩ else none

/-- What is written on both ways (none: the end is not reached). -/
def both : Option (List Nat) → Option (List Nat) → Option (List Nat)
  | none, d => d
  | d, none => d
  | some d, some d' => some (d.filter d'.contains)

/-- What is read in code before it is written there (given what is written already), and what is surely written behind it. -/
def exposed : Code → List Nat → List Nat × Option (List Nat)
  | .region _ ops _, d => match ops.toList.foldl (fun (e, d) o =>
      (((temps o ++ (match guardOf ops.toList o with | some (t, _) => [t] | none => [])).filter fun t => !d.contains t) ++ e, match o.dst with | some t => t :: d | none => d)) ([], d) with
    | (e, d) => (e, some d)
  | .seq a b, d => match exposed a d with
    | (e, none) => (e, none)
    | (e, some d') => match exposed b d' with
      | (e', d2) => (e' ++ e, d2)
  | .cond c a b, d => match exposed a d, exposed b d with
    | (e, da), (e', db) => ((match c with | .tmp t => if d.contains t then [] else [t] | _ => []) ++ e ++ e', both da db)
  | .block _ c, d => ((exposed c d).1, some d)
  | .loop c, d => ((exposed c d).1, some d)
  | .exit _, _ => ([], none)
  | .ret, _ => ([], none)
  | _, d => ([], some d)

/-- What is not kept is forgotten. -/
def maskL (kp : List Nat) : Nat → List V → List V
  | _, [] => []
  | i, v :: vs => (if kp.contains i then v else .bad) :: maskL kp (i + 1) vs

def rounds (body : St → Option (Ex × St)) (n0 : Nat) (kp : List Nat) : Nat → St → Option (Ex × St)
  | 0, _ => none
  | n + 1, st => match body st with
    | some (.nrm, st') => rounds body n0 kp n ⟨maskL kp 0 (cleanL n0 st'.s), (st'.h.take n0).map (cleanL n0)⟩
    | r => r

/-- What is known of an operation of a region: must a call be by value, its guard, does it take over. -/
abbrev Hint := Bool × Option (Nat × Bool) × Bool × Option (TypeId × Nat)

/-- What is known of the regions of a function (by their numbers), and which slots its loops keep (by the first region). -/
structure Hints where
  r : Nat → List Hint
  k : Nat → List Nat

def hintsOf (draw : Bool) (ops : List Oper) : List Hint := (flags draw ops (prepFrom ops ops 0)).map fun x => (x.1, x.2.g, x.2.take, x.2.pos)

def runsH (T : En) (K : Oracle) : List Hint → List Oper → Nat → St → Option St
  | [], [], _, st => some st
  | h :: hs, o :: os, n, st => match h with
    | (fo, g, tk, ps) => match step T K fo ⟨o, n, g, tk, ps⟩ st with
      | some st' => runsH T K hs os (match isNew o with | true => n + 1 | false => n) st'
      | none => none
  | _, _, _, _ => none

def evRegionH (T : En) (K : Oracle) (hs : List Hint) (ops : List Oper) (st : St) : Option St :=
  match newBlocks T ops with
  | none => none
  | some nb => runsH T K hs ops st.h.length ⟨st.s, st.h ++ nb⟩

def firstR : Code → Option Nat
  | .region id _ _ => some id
  | .seq a b => match firstR a with | some i => some i | none => firstR b
  | .cond _ a b => match firstR a with | some i => some i | none => firstR b
  | .block _ c => firstR c
  | .loop c => firstR c
  | _ => none

/-- Are the hints true? -/
def codeOk (H : Hints) : Code → Bool
  | .region id ops draw => H.r id == hintsOf draw ops.toList && guardsOk ops.toList && (!draw || (edgesBack ops.toList && drawOk ops.toList (flags draw ops.toList (prepFrom ops.toList ops.toList 0))))
  | .seq a b => codeOk H a && codeOk H b
  | .cond _ a b => codeOk H a && codeOk H b
  | .block _ c => codeOk H c
  | .loop c => codeOk H c
  | _ => true

def fnOk (H : Hints) (fn : Func) : Bool := match fn.body with | some c => codeOk H c | none => false

/-- The slots of the results. -/
def keptSlots (fn : Func) : List Nat := fn.results.toList.map fun | .tmp t => t | .cell t _ => t

/-- (For a program that prints hints.) -/
def allHints : Code → List Nat → List (Nat × List Hint) × List (Nat × List Nat)
  | .region id ops draw, _ => ([(id, hintsOf draw ops.toList)], [])
  | .seq a b, kp => match allHints a ((exposed b []).1 ++ kp), allHints b kp with | (x, y), (x', y') => (x ++ x', y ++ y')
  | .cond _ a b, kp => match allHints a kp, allHints b kp with | (x, y), (x', y') => (x ++ x', y ++ y')
  | .block _ c, kp => allHints c kp
  | .loop c, kp => match allHints c (kp ++ (exposed c []).1) with | (x, y) => (x, ((firstR c).getD 0, kp ++ (exposed c []).1) :: y)
  | _, _ => ([], [])

def evC (T : En) (K : Oracle) (L : Nat) (H : Hints) : Code → St → Option (Ex × St)
  | .skip, st => some (.nrm, st)
  | .label _, st => some (.nrm, st)
  | .region id ops _, st => match evRegionH T K (H.r id) ops.toList st with
    | some st' => some (.nrm, st')
    | none => none
  | .seq a b, st => match evC T K L H a st with
    | some (.nrm, st') => evC T K L H b st'
    | r => r
  | .cond c a b, st => match ev st.s c with
    | some (.sc (.bool t)) => match t with
      | true => evC T K L H a st
      | false => evC T K L H b st
    | _ => none
  | .block id c, st => match evC T K L H c st with
    | some (.exit j, st') => if j = id then some (.nrm, st') else some (.exit j, st')
    | r => r
  | .loop c, st => T.lp (evC T K L H c) st.h.length (H.k ((firstR c).getD 0)) L ⟨maskL (H.k ((firstR c).getD 0)) 0 st.s, st.h⟩
  | .exit id, st => some (.exit id, st)
  | .ret, st => some (.ret, st)
  | _, _ => none

def resultV (T : En) (n : Nat) (st : St) : ResultVar → Option V
  | .tmp t => st.s[t]?
  | .cell a t => match st.s[a]? with
    | some (.ptr i off) => match st.h[i]? with
      | some cs => match part T t cs off with
        | some v => some (if n ≤ i then v else erase v)
        | none => none
      | none => none
    | _ => none

/-- What a function yields, and the blocks that it was given. -/
def evEnd (T : En) (n : Nat) (fn : Func) (st : St) : Option (V × Heap) :=
  match fn.results.toList.mapM (resultV T n st) with
  | some [v] => some (clean n v, (st.h.take n).map (cleanL n))
  | some vs => some (.tup (cleanL n (eraseL vs)), (st.h.take n).map (cleanL n))
  | none => none

def evFn (T : En) (L : Nat) (K : Oracle) (H : Hints) (fn : Func) (args : List V) (h : Heap) : Option (V × Heap) :=
  match fn.body with
  | none => none
  | some c => match evC T K L H c ⟨args ++ List.replicate (fn.ntmps - args.length) (.sc undef), h⟩ with
    | some (.nrm, st) => evEnd T h.length fn st
    | some (.ret, st) => evEnd T h.length fn st
    | _ => none

end Go.Vm
/- The evaluator by value: what its values stand for in a world. -/
namespace Go.Vm
set_option linter.unusedSectionVars false
variable [Globs]
set_option linter.unusedVariables false
set_option linter.unusedSimpArgs false

abbrev Res := Nat → Nat
abbrev BM := List (Option Nat)
abbrev Lim := Nat → Nat

def nil0 : Res := fun _ => 0
def one (b : Nat) : Res := fun x => if x = b then 1 else 0

/-- No value takes more than one cell. -/
def flat (ys : List Value) : Prop := ∀ y ∈ ys, Value.oneCell' y = true

mutual
/-- A real value x for v, with the blocks that v alone owns. -/
def Rep (w : World) (lim : Lim) : V → BM → Value → Res → Prop
  | .bad, _, _, r => ∀ b, r b = 0
  | .sc v, _, x, r => x = v ∧ ∀ b, r b = 0
  | .agg cs, B, x, r => ∃ ys : List Value, x = .agg ys.toArray ∧ flat ys ∧ RepL w lim cs B ys r
  | .tup cs, B, x, r => ∃ ys : List Value, x = .tuple ys.toArray ∧ RepL w lim cs B ys r
  | .sl own es, _, x, r => ∃ a cap, x = .slice a es.length cap ∧
      ((es = [] ∧ (∀ b, r b = 0) ∧ (own = true → cap = 0)) ∨
       (es ≠ [] ∧ ∃ b off k c ty fz, a = some ⟨b, off, none⟩ ∧ w.heap[b]? = some (.cells c ty fz) ∧ (∀ e ∈ es, e.length = k) ∧
          RepLL w lim es ((c.toList.drop off).take (es.length * k)) ∧ off + es.length * k ≤ c.size ∧ off + es.length * k ≤ lim b ∧ es.length ≤ cap ∧
          ((own = false ∧ ∀ b, r b = 0) ∨ (own = true ∧ off = 0 ∧ 0 < k ∧ lim b = off + es.length * k ∧ c.size = off + cap * k ∧ fz = (0, 0) ∧ ∀ x, r x = one b x))))
  | .vp cs, _, x, r => (∀ b, r b = 0) ∧ ∃ b off c ty fz, x = .pointer (some ⟨b, off, none⟩) ∧ w.heap[b]? = some (.cells c ty fz) ∧
      off + cs.length ≤ c.size ∧ off + cs.length ≤ lim b ∧ flat ((c.toList.drop off).take cs.length) ∧ RepL w lim cs [] ((c.toList.drop off).take cs.length) nil0
  | .ptr i off, B, x, r => (∀ b, r b = 0) ∧ ∃ b, B[i]? = some (some b) ∧ x = .pointer (some ⟨b, off, none⟩)
def RepL (w : World) (lim : Lim) : List V → BM → List Value → Res → Prop
  | [], _, ys, r => ys = [] ∧ ∀ b, r b = 0
  | v :: vs, B, ys, r => ∃ y ys' r1 r2, ys = y :: ys' ∧ (∀ b, r b = r1 b + r2 b) ∧ Rep w lim v B y r1 ∧ RepL w lim vs B ys' r2
def RepLL (w : World) (lim : Lim) : List (List V) → List Value → Prop
  | [], ys => ys = []
  | e :: es, ys => ∃ y1 y2, ys = y1 ++ y2 ∧ flat y1 ∧ RepL w lim e [] y1 nil0 ∧ RepLL w lim es y2
end

/-- A world later on: blocks of others are as they were, and so are cells below the limit of a block of one's own. -/
structure Ext (R : Res) (w : World) (lim : Lim) (w' : World) (lim' : Lim) : Prop where
  size : w.heap.size ≤ w'.heap.size
  other : ∀ b, b < w.heap.size → R b = 0 → w'.heap[b]? = w.heap[b]? ∧ lim' b = lim b
  own : ∀ b, b < w.heap.size → R b ≠ 0 → lim b ≤ lim' b ∧ ∀ c ty fz, w.heap[b]? = some (.cells c ty fz) →
    ∃ c', w'.heap[b]? = some (.cells c' ty fz) ∧ c'.size = c.size ∧ ∀ o, o < lim b → c'[o]? = c[o]?
  env : w'.os = w.os ∧ w'.tape = w.tape ∧ w'.output = w.output

theorem Ext.refl (R : Res) (w : World) (lim : Lim) : Ext R w lim w lim :=
  ⟨Nat.le_refl _, fun _ _ _ => ⟨rfl, rfl⟩, fun _ _ _ => ⟨Nat.le_refl _, fun c ty fz h => ⟨c, h, rfl, fun _ _ => rfl⟩⟩, rfl, rfl, rfl⟩

theorem lt_of_block {w : World} {b : Nat} {o : Obj} (h : w.heap[b]? = some o) : b < w.heap.size := by
  rcases Nat.lt_or_ge b w.heap.size with h' | h'
  · exact h'
  · simp [Array.getElem?_eq_none h'] at h

theorem Ext.trans {R R' : Res} {w w1 w2 : World} {l l1 l2 : Lim} (h : Ext R w l w1 l1) (h' : Ext R' w1 l1 w2 l2)
    (hR : ∀ b, b < w.heap.size → R' b ≠ 0 → R b ≠ 0) : Ext R w l w2 l2 where
  size := Nat.le_trans h.size h'.size
  env := ⟨h'.env.1.trans h.env.1, h'.env.2.1.trans h.env.2.1, h'.env.2.2.trans h.env.2.2⟩
  other b hb hr := by
    have h1 := h.other b hb hr
    have h2 := h'.other b (Nat.lt_of_lt_of_le hb h.size) (Classical.byContradiction fun hn => (hR b hb hn) hr)
    exact ⟨h2.1.trans h1.1, h2.2.trans h1.2⟩
  own b hb hr := by
    have h1 := h.own b hb hr
    have hb1 := Nat.lt_of_lt_of_le hb h.size
    by_cases hr' : R' b = 0
    · have h2 := h'.other b hb1 hr'
      refine ⟨by rw [h2.2]; exact h1.1, fun c ty fz hc => ?_⟩
      obtain ⟨c', hc', hs, ho⟩ := h1.2 c ty fz hc
      exact ⟨c', h2.1.trans hc', hs, ho⟩
    · have h2 := h'.own b hb1 hr'
      refine ⟨Nat.le_trans h1.1 h2.1, fun c ty fz hc => ?_⟩
      obtain ⟨c', hc', hs, ho⟩ := h1.2 c ty fz hc
      obtain ⟨c2, hc2, hs2, ho2⟩ := h2.2 c' ty fz hc'
      exact ⟨c2, hc2, hs2.trans hs, fun o hlt => (ho2 o (Nat.lt_of_lt_of_le hlt h1.1)).trans (ho o hlt)⟩

theorem Ext.weaken {R R' : Res} {w w' : World} {l l' : Lim} (h : Ext R w l w' l') (hR : ∀ b, R b ≠ 0 → R' b ≠ 0) : Ext R' w l w' l' where
  size := h.size
  env := h.env
  other b hb hr := h.other b hb (Classical.byContradiction fun hn => hR b hn hr)
  own b hb hr := by
    by_cases hr' : R b = 0
    · have h2 := h.other b hb hr'
      exact ⟨Nat.le_of_eq h2.2.symm, fun c ty fz hc => ⟨c, h2.1.trans hc, rfl, fun _ _ => rfl⟩⟩
    · exact h.own b hb hr'

/-- The part of a block below its limit. -/
theorem Ext.below {R : Res} {w w' : World} {l l' : Lim} (h : Ext R w l w' l') {b : Nat} {c ty fz} (hc : w.heap[b]? = some (.cells c ty fz)) :
    l b ≤ l' b ∧ ∃ c', w'.heap[b]? = some (.cells c' ty fz) ∧ c'.size = c.size ∧ ∀ o, o < l b → c'[o]? = c[o]? := by
  have hb := lt_of_block hc
  by_cases hr : R b = 0
  · have h2 := h.other b hb hr
    exact ⟨Nat.le_of_eq h2.2.symm, c, h2.1.trans hc, rfl, fun _ _ => rfl⟩
  · exact ⟨(h.own b hb hr).1, (h.own b hb hr).2 c ty fz hc⟩

theorem take_drop_same {c c' : Array Value} {off n m : Nat} (h : ∀ o, o < m → c'[o]? = c[o]?) (hn : off + n ≤ m) :
    (c'.toList.drop off).take n = (c.toList.drop off).take n := by
  apply List.ext_getElem?
  intro i
  by_cases hi : i < n
  · rw [List.getElem?_take_of_lt hi, List.getElem?_take_of_lt hi, List.getElem?_drop, List.getElem?_drop]
    simpa using h (off + i) (by omega)
  · rw [List.getElem?_take_eq_none (by omega), List.getElem?_take_eq_none (by omega)]

mutual
theorem Rep.mono {R : Res} {w w' : World} {l l' : Lim} (E : Ext R w l w' l') : ∀ (v : V) (B : BM) (x : Value) (r : Res), (∀ b, r b ≠ 0 → R b = 0) → Rep w l v B x r → Rep w' l' v B x r
  | .bad, _, _, _, _, h => by simpa [Rep] using h
  | .sc _, _, _, _, _, h => by simpa [Rep] using h
  | .agg cs, B, x, r, hr, h => by
    simp only [Rep] at h ⊢
    obtain ⟨ys, rfl, hfl, h⟩ := h
    exact ⟨ys, rfl, hfl, RepL.mono E cs B ys r hr h⟩
  | .tup cs, B, x, r, hr, h => by
    simp only [Rep] at h ⊢
    obtain ⟨ys, rfl, h⟩ := h
    exact ⟨ys, rfl, RepL.mono E cs B ys r hr h⟩
  | .sl own es, B, x, r, hr, h => by
    simp only [Rep] at h ⊢
    obtain ⟨a, cap, rfl, h⟩ := h
    refine ⟨a, cap, rfl, ?_⟩
    rcases h with h | ⟨hne, b, off, k, c, ty, fz, rfl, hc, hk, hL, h1, h2, h3, h4⟩
    · exact .inl h
    · obtain ⟨hl, c', hc', hs, ho⟩ := E.below hc
      refine .inr ⟨hne, b, off, k, c', ty, fz, rfl, hc', hk, ?_, by rw [hs]; exact h1, by omega, h3, ?_⟩
      · rw [take_drop_same ho h2]
        exact RepLL.mono E es _ hL
      · rcases h4 with h4 | ⟨ho1, ho0, hk1, hl1, hs1, hf1, hr1⟩
        · exact .inl h4
        · refine .inr ⟨ho1, ho0, hk1, ?_, by rw [hs]; exact hs1, hf1, hr1⟩
          rw [(E.other b (lt_of_block hc) (hr b (by rw [hr1]; simp [one]))).2]
          exact hl1
  | .vp cs, B, x, r, hr, h => by
    simp only [Rep] at h ⊢
    obtain ⟨h0, b, off, c, ty, fz, rfl, hc, h1, h2, hfl, hL⟩ := h
    obtain ⟨hl, c', hc', hs, ho⟩ := E.below hc
    refine ⟨h0, b, off, c', ty, fz, rfl, hc', by rw [hs]; exact h1, by omega, ?_⟩
    rw [take_drop_same ho h2]
    refine ⟨hfl, ?_⟩
    exact RepL.mono E cs [] _ nil0 (fun b hb => absurd rfl hb) hL
  | .ptr i off, B, x, r, hr, h => by simpa [Rep] using h
theorem RepL.mono {R : Res} {w w' : World} {l l' : Lim} (E : Ext R w l w' l') : ∀ (vs : List V) (B : BM) (ys : List Value) (r : Res), (∀ b, r b ≠ 0 → R b = 0) → RepL w l vs B ys r → RepL w' l' vs B ys r
  | [], _, _, _, _, h => by simpa [RepL] using h
  | v :: vs, B, ys, r, hr, h => by
    simp only [RepL] at h ⊢
    obtain ⟨y, ys', r1, r2, rfl, hs, h1, h2⟩ := h
    exact ⟨y, ys', r1, r2, rfl, hs, Rep.mono E v B y r1 (fun b hb => hr b (by rw [hs]; omega)) h1, RepL.mono E vs B ys' r2 (fun b hb => hr b (by rw [hs]; omega)) h2⟩
theorem RepLL.mono {R : Res} {w w' : World} {l l' : Lim} (E : Ext R w l w' l') : ∀ (es : List (List V)) (ys : List Value), RepLL w l es ys → RepLL w' l' es ys
  | [], _, h => by simpa [RepLL] using h
  | e :: es, ys, h => by
    simp only [RepLL] at h ⊢
    obtain ⟨y1, y2, rfl, hfl, h1, h2⟩ := h
    exact ⟨y1, y2, rfl, hfl, RepL.mono E e [] y1 nil0 (fun b hb => absurd rfl hb) h1, RepLL.mono E es y2 h2⟩
end

/-- The known variables hold what is known of them. -/
def Held (w : World) (l : Lim) : Prop := ∀ g cs, Globs.gl g = some cs → Rep w l (.vp cs) [] (.pointer (some ⟨g, 0, none⟩)) nil0

theorem Held.mono {R : Res} {w w' : World} {l l' : Lim} (E : Ext R w l w' l') (h : Held w l) : Held w' l' :=
  fun g cs hg => Rep.mono E _ _ _ _ (fun b hb => absurd rfl hb) (h g cs hg)

theorem RepL.length {w : World} {l : Lim} : ∀ {vs : List V} {B : BM} {ys : List Value} {r : Res}, RepL w l vs B ys r → ys.length = vs.length
  | [], _, _, _, h => by simp only [RepL] at h; simp [h.1]
  | v :: vs, B, ys, r, h => by
    simp only [RepL] at h
    obtain ⟨y, ys', r1, r2, rfl, _, _, h2⟩ := h
    simp [RepL.length h2]

mutual
theorem Rep.res {w : World} {l : Lim} : ∀ {v : V} {B : BM} {x : Value} {r r' : Res}, (∀ b, r b = r' b) → Rep w l v B x r → Rep w l v B x r' := by
  intro v B x r r' h h1
  rw [← funext h]; exact h1
end

theorem RepL.res {w : World} {l : Lim} {vs : List V} {B : BM} {ys : List Value} {r r' : Res} (h : ∀ b, r b = r' b) (h1 : RepL w l vs B ys r) : RepL w l vs B ys r' := by
  rw [← funext h]; exact h1

/-! ### Ownership forgotten -/

mutual
theorem Rep.erase {w : World} {l : Lim} : ∀ (v : V) (B : BM) (x : Value) (r : Res), Rep w l v B x r → Rep w l (erase v) B x nil0
  | .bad, _, _, _, h => by simp only [Vm.erase, Rep]; exact fun _ => rfl
  | .sc _, _, _, _, h => by simp only [Vm.erase, Rep] at h ⊢; exact ⟨h.1, fun _ => rfl⟩
  | .agg cs, B, x, r, h => by
    simp only [Vm.erase, Rep] at h ⊢
    obtain ⟨ys, rfl, hfl, h⟩ := h
    exact ⟨ys, rfl, hfl, RepL.erase cs B ys r h⟩
  | .tup cs, B, x, r, h => by
    simp only [Vm.erase, Rep] at h ⊢
    obtain ⟨ys, rfl, h⟩ := h
    exact ⟨ys, rfl, RepL.erase cs B ys r h⟩
  | .sl own es, B, x, r, h => by
    simp only [Vm.erase, Rep] at h ⊢
    obtain ⟨a, cap, rfl, h⟩ := h
    refine ⟨a, cap, rfl, ?_⟩
    rcases h with h | ⟨hne, b, off, k, c, ty, fz, rfl, hc, hk, hL, h1, h2, h3, h4⟩
    · exact .inl ⟨h.1, fun _ => rfl, by simp⟩
    · exact .inr ⟨hne, b, off, k, c, ty, fz, rfl, hc, hk, hL, h1, h2, h3, .inl ⟨trivial, fun _ => rfl⟩⟩
  | .vp cs, B, x, r, h => by simp only [Vm.erase, Rep] at h ⊢; exact ⟨fun _ => rfl, h.2⟩
  | .ptr i off, B, x, r, h => by simp only [Vm.erase, Rep] at h ⊢; exact ⟨fun _ => rfl, h.2⟩
theorem RepL.erase {w : World} {l : Lim} : ∀ (vs : List V) (B : BM) (ys : List Value) (r : Res), RepL w l vs B ys r → RepL w l (eraseL vs) B ys nil0
  | [], _, _, _, h => by simp only [eraseL, RepL] at h ⊢; exact ⟨h.1, fun _ => rfl⟩
  | v :: vs, B, ys, r, h => by
    simp only [eraseL, RepL] at h ⊢
    obtain ⟨y, ys', r1, r2, rfl, hs, h1, h2⟩ := h
    exact ⟨y, ys', nil0, nil0, rfl, fun _ => rfl, Rep.erase v B y r1 h1, RepL.erase vs B ys' r2 h2⟩
end

/-! ### Other numbers for blocks -/

mutual
theorem Rep.ren {w : World} {l : Lim} {f : Nat → Option Nat} {B B' : BM} (hf : ∀ i j b, f i = some j → B[i]? = some (some b) → B'[j]? = some (some b)) :
    ∀ (v : V) (x : Value) (r : Res), Rep w l v B x r → Rep w l (ren f v) B' x r
  | .bad, _, _, h => by simpa [Vm.ren, Rep] using h
  | .sc _, _, _, h => by simpa [Vm.ren, Rep] using h
  | .agg cs, x, r, h => by
    simp only [Vm.ren, Rep] at h ⊢
    obtain ⟨ys, rfl, hfl, h⟩ := h
    exact ⟨ys, rfl, hfl, RepL.ren hf cs ys r h⟩
  | .tup cs, x, r, h => by
    simp only [Vm.ren, Rep] at h ⊢
    obtain ⟨ys, rfl, h⟩ := h
    exact ⟨ys, rfl, RepL.ren hf cs ys r h⟩
  | .sl own es, x, r, h => by simpa [Vm.ren, Rep] using h
  | .vp cs, x, r, h => by simpa [Vm.ren, Rep] using h
  | .ptr i off, x, r, h => by
    simp only [Rep] at h
    obtain ⟨h0, b, hb, rfl⟩ := h
    simp only [Vm.ren]
    cases hfi : f i with
    | none => simpa [Rep] using h0
    | some j => simp only [Rep]; exact ⟨h0, b, hf i j b hfi hb, rfl⟩
theorem RepL.ren {w : World} {l : Lim} {f : Nat → Option Nat} {B B' : BM} (hf : ∀ i j b, f i = some j → B[i]? = some (some b) → B'[j]? = some (some b)) :
    ∀ (vs : List V) (ys : List Value) (r : Res), RepL w l vs B ys r → RepL w l (renL f vs) B' ys r
  | [], _, _, h => by simpa [renL, RepL] using h
  | v :: vs, ys, r, h => by
    simp only [renL, RepL] at h ⊢
    obtain ⟨y, ys', r1, r2, rfl, hs, h1, h2⟩ := h
    exact ⟨y, ys', r1, r2, rfl, hs, Rep.ren hf v y r1 h1, RepL.ren hf vs ys' r2 h2⟩
end

mutual
theorem Rep.ofNoRef {w : World} {l : Lim} {B B' : BM} : ∀ (v : V) (x : Value) (r : Res), noRef v = true → Rep w l v B x r → Rep w l v B' x r
  | .bad, _, _, _, h => by simpa [Rep] using h
  | .sc _, _, _, _, h => by simpa [Rep] using h
  | .agg cs, x, r, hn, h => by
    simp only [Rep] at h ⊢
    obtain ⟨ys, rfl, hfl, h⟩ := h
    exact ⟨ys, rfl, hfl, RepL.ofNoRef cs ys r (by simpa [noRef] using hn) h⟩
  | .tup cs, x, r, hn, h => by
    simp only [Rep] at h ⊢
    obtain ⟨ys, rfl, h⟩ := h
    exact ⟨ys, rfl, RepL.ofNoRef cs ys r (by simpa [noRef] using hn) h⟩
  | .sl own es, x, r, _, h => by simpa [Rep] using h
  | .vp cs, x, r, _, h => by simpa [Rep] using h
  | .ptr i off, x, r, hn, h => by simp [noRef] at hn
theorem RepL.ofNoRef {w : World} {l : Lim} {B B' : BM} : ∀ (vs : List V) (ys : List Value) (r : Res), noRefL vs = true → RepL w l vs B ys r → RepL w l vs B' ys r
  | [], _, _, _, h => by simpa [RepL] using h
  | v :: vs, ys, r, hn, h => by
    simp only [noRefL, Bool.and_eq_true] at hn
    simp only [RepL] at h ⊢
    obtain ⟨y, ys', r1, r2, rfl, hs, h1, h2⟩ := h
    exact ⟨y, ys', r1, r2, rfl, hs, Rep.ofNoRef v y r1 hn.1 h1, RepL.ofNoRef vs ys' r2 hn.2 h2⟩
end

/-- More blocks have numbers. -/
theorem renL_id : ∀ (vs : List V), renL some vs = vs ∧ True
  | [] => ⟨rfl, trivial⟩
  | v :: vs => by
    refine ⟨?_, trivial⟩
    simp only [renL, (renL_id vs).1, List.cons.injEq, and_true]
    exact go v
where go : ∀ v : V, ren some v = v
  | .bad => rfl
  | .sc _ => rfl
  | .agg cs => by simp only [ren, (renL_id cs).1]
  | .tup cs => by simp only [ren, (renL_id cs).1]
  | .sl _ _ => rfl
  | .vp _ => rfl
  | .ptr _ _ => rfl

theorem Rep.more {w : World} {l : Lim} {B B' : BM} (hf : ∀ (i b : Nat), B[i]? = some (some b) → B'[i]? = some (some b)) {v : V} {x : Value} {r : Res} (h : Rep w l v B x r) : Rep w l v B' x r := by
  have := Rep.ren (f := some) (B' := B') (fun i j b hij hb => by cases hij; exact hf i b hb) v x r h
  rwa [renL_id.go] at this

theorem RepL.more {w : World} {l : Lim} {B B' : BM} (hf : ∀ (i b : Nat), B[i]? = some (some b) → B'[i]? = some (some b)) {vs : List V} {ys : List Value} {r : Res} (h : RepL w l vs B ys r) : RepL w l vs B' ys r := by
  have := RepL.ren (f := some) (B' := B') (fun i j b hij hb => by cases hij; exact hf i b hb) vs ys r h
  rwa [(renL_id vs).1] at this

end Go.Vm
/- The evaluator by value: lists of values, the abstract heap. -/
namespace Go.Vm
set_option linter.unusedSectionVars false
variable [Globs]
set_option linter.unusedVariables false
set_option linter.unusedSimpArgs false

variable {w : World} {l : Lim}

theorem RepL.cons {v : V} {vs : List V} {B : BM} {y : Value} {ys : List Value} {r r1 r2 : Res} (h1 : Rep w l v B y r1) (h2 : RepL w l vs B ys r2) (hr : ∀ b, r b = r1 b + r2 b) : RepL w l (v :: vs) B (y :: ys) r := by
  simp only [RepL]; exact ⟨y, ys, r1, r2, rfl, hr, h1, h2⟩

theorem RepL.nil {B : BM} : RepL w l [] B [] nil0 := by simp only [RepL]; exact ⟨trivial, fun _ => rfl⟩

theorem RepL.append : ∀ {vs us : List V} {B : BM} {ys zs : List Value} {r1 r2 r : Res}, RepL w l vs B ys r1 → RepL w l us B zs r2 → (∀ b, r b = r1 b + r2 b) → RepL w l (vs ++ us) B (ys ++ zs) r
  | [], us, B, ys, zs, r1, r2, r, h1, h2, hr => by
    simp only [RepL] at h1
    obtain ⟨rfl, h0⟩ := h1
    exact RepL.res (fun b => by rw [hr, h0]; simp) h2
  | v :: vs, us, B, ys, zs, r1, r2, r, h1, h2, hr => by
    simp only [RepL] at h1
    obtain ⟨y, ys', s1, s2, rfl, hs, ha, hb⟩ := h1
    exact RepL.cons (r2 := fun b => s2 b + r2 b) ha (RepL.append hb h2 (fun _ => rfl)) (fun b => by simp only [hr, hs]; omega)

theorem RepL.split : ∀ {vs us : List V} {B : BM} {ys : List Value} {r : Res}, RepL w l (vs ++ us) B ys r →
    ∃ (y1 y2 : List Value) (r1 r2 : Res), ys = y1 ++ y2 ∧ RepL w l vs B y1 r1 ∧ RepL w l us B y2 r2 ∧ ∀ b, r b = r1 b + r2 b
  | [], us, B, ys, r, h => ⟨[], ys, nil0, r, rfl, RepL.nil, h, fun b => by simp [nil0]⟩
  | v :: vs, us, B, ys, r, h => by
    simp only [List.cons_append, RepL] at h
    obtain ⟨y, ys', s1, s2, rfl, hs, ha, hb⟩ := h
    obtain ⟨y1, y2, t1, t2, rfl, h1, h2, ht⟩ := RepL.split hb
    exact ⟨y :: y1, y2, fun b => s1 b + t1 b, t2, rfl, RepL.cons ha h1 (fun _ => rfl), h2, fun b => by simp only [hs, ht]; omega⟩

/-- One of the values, and the others with whatever stands in its place. -/
theorem RepL.at : ∀ {vs : List V} {B : BM} {ys : List Value} {r : Res} {i : Nat} {v : V}, RepL w l vs B ys r → vs[i]? = some v →
    ∃ (y : Value) (r1 r2 : Res), ys[i]? = some y ∧ Rep w l v B y r1 ∧ (∀ b, r b = r1 b + r2 b) ∧
      ∀ v' y' r', Rep w l v' B y' r' → RepL w l (vs.set i v') B (ys.set i y') (fun b => r' b + r2 b)
  | [], _, _, _, _, _, _, h => by simp at h
  | v :: vs, B, ys, r, 0, u, h, hi => by
    simp only [RepL] at h
    obtain ⟨y, ys', r1, r2, rfl, hs, h1, h2⟩ := h
    simp at hi; subst hi
    exact ⟨y, r1, r2, rfl, h1, hs, fun v' y' r' h' => by simpa using RepL.cons h' h2 (fun _ => rfl)⟩
  | v :: vs, B, ys, r, i + 1, u, h, hi => by
    simp only [RepL] at h
    obtain ⟨y, ys', r1, r2, rfl, hs, h1, h2⟩ := h
    simp at hi
    obtain ⟨z, s1, s2, hz, hR, hsum, hset⟩ := RepL.at h2 hi
    refine ⟨z, s1, fun b => r1 b + s2 b, by simpa using hz, hR, fun b => by simp only [hs, hsum]; omega, fun v' y' r' h' => ?_⟩
    simpa using RepL.cons h1 (hset v' y' r' h') (fun b => by omega)

theorem RepL.get? {vs : List V} {B : BM} {ys : List Value} {r : Res} {i : Nat} {y : Value} (h : RepL w l vs B ys r) (hy : ys[i]? = some y) : ∃ v, vs[i]? = some v := by
  have := h.length
  have hlt : i < ys.length := by
    rcases Nat.lt_or_ge i ys.length with h' | h'
    · exact h'
    · simp [List.getElem?_eq_none h'] at hy
  exact ⟨vs[i], List.getElem?_eq_getElem (by omega)⟩

/-- A value without owned blocks: its row without its resources. -/
theorem RepL.take {vs : List V} {B : BM} {ys : List Value} {r : Res} (n : Nat) (h : RepL w l vs B ys r) : ∃ r1 r2, RepL w l (vs.take n) B (ys.take n) r1 ∧ RepL w l (vs.drop n) B (ys.drop n) r2 ∧ ∀ b, r b = r1 b + r2 b := by
  have h' : RepL w l (vs.take n ++ vs.drop n) B ys r := by rwa [List.take_append_drop]
  obtain ⟨y1, y2, r1, r2, rfl, h1, h2, hr⟩ := h'.split
  have hl := h1.length
  have hl2 := h2.length
  by_cases hn : n ≤ vs.length
  · have : y1.length = n := by simp at hl; omega
    refine ⟨r1, r2, ?_, ?_, hr⟩
    · rw [List.take_left' this]; exact h1
    · rw [List.drop_left' this]; exact h2
  · have e2 : y2 = [] := by
      have : y2.length = 0 := by simp at hl2; omega
      exact List.length_eq_zero_iff.1 this
    subst e2
    refine ⟨r1, r2, ?_, ?_, hr⟩
    · rw [List.append_nil, List.take_of_length_le (l := y1) (by simp at hl; omega)]; exact h1
    · rw [List.append_nil, List.drop_eq_nil_of_le (as := y1) (by simp at hl; omega)]; exact h2

theorem sum0 {r r1 r2 : Res} (h : ∀ b, r b = r1 b + r2 b) (h0 : ∀ b, r b = 0) : (∀ b, r1 b = 0) ∧ ∀ b, r2 b = 0 :=
  ⟨fun b => by have := h b; have := h0 b; omega, fun b => by have := h b; have := h0 b; omega⟩

/-! ### The abstract heap -/

def RepB (w : World) (lim : Lim) (B : BM) (c : List V) (b : Nat) (r : Res) : Prop :=
  lim b = 0 ∧ ∃ cs ty, w.heap[b]? = some (.cells cs ty (0, 0)) ∧ flat cs.toList ∧ ∃ rc, (∀ x, r x = one b x + rc x) ∧ RepL w lim c B cs.toList rc

def RepH (w : World) (lim : Lim) (B : BM) : Heap → BM → Res → Prop
  | [], bs, r => bs = [] ∧ ∀ b, r b = 0
  | _ :: h, none :: bs, r => RepH w lim B h bs r
  | c :: h, some b :: bs, r => ∃ r1 r2, (∀ x, r x = r1 x + r2 x) ∧ RepB w lim B c b r1 ∧ RepH w lim B h bs r2
  | _ :: _, [], _ => False

theorem RepB.mono {R : Res} {w' : World} {l' : Lim} (E : Ext R w l w' l') {B : BM} {c : List V} {b : Nat} {r : Res} (hr : ∀ b, r b ≠ 0 → R b = 0) (h : RepB w l B c b r) : RepB w' l' B c b r := by
  obtain ⟨h0, cs, ty, hc, hfl, rc, hs, hL⟩ := h
  have h1 := E.other b (lt_of_block hc) (hr b (by rw [hs]; simp [one]))
  refine ⟨h1.2.trans h0, cs, ty, h1.1.trans hc, hfl, rc, hs, RepL.mono E c B _ rc (fun x hx => hr x (by simp only [hs]; omega)) hL⟩

theorem RepB.more {B B' : BM} (hf : ∀ (i b : Nat), B[i]? = some (some b) → B'[i]? = some (some b)) {c : List V} {b : Nat} {r : Res} (h : RepB w l B c b r) : RepB w l B' c b r := by
  obtain ⟨h0, cs, ty, hc, hfl, rc, hs, hL⟩ := h
  exact ⟨h0, cs, ty, hc, hfl, rc, hs, hL.more hf⟩

theorem RepH.mono {R : Res} {w' : World} {l' : Lim} (E : Ext R w l w' l') {B : BM} : ∀ {h : Heap} {bs : BM} {r : Res}, (∀ b, r b ≠ 0 → R b = 0) → RepH w l B h bs r → RepH w' l' B h bs r
  | [], bs, r, _, h => by simpa [RepH] using h
  | c :: h, none :: bs, r, hr, hh => by simp only [RepH] at hh ⊢; exact RepH.mono E hr hh
  | c :: h, some b :: bs, r, hr, hh => by
    simp only [RepH] at hh ⊢
    obtain ⟨r1, r2, hs, h1, h2⟩ := hh
    exact ⟨r1, r2, hs, h1.mono E (fun x hx => hr x (by simp only [hs]; omega)), RepH.mono E (fun x hx => hr x (by simp only [hs]; omega)) h2⟩
  | _ :: _, [], _, _, hh => by simp [RepH] at hh

theorem RepH.more {B B' : BM} (hf : ∀ (i b : Nat), B[i]? = some (some b) → B'[i]? = some (some b)) : ∀ {h : Heap} {bs : BM} {r : Res}, RepH w l B h bs r → RepH w l B' h bs r
  | [], bs, r, h => by simpa [RepH] using h
  | c :: h, none :: bs, r, hh => by simp only [RepH] at hh ⊢; exact RepH.more hf hh
  | c :: h, some b :: bs, r, hh => by
    simp only [RepH] at hh ⊢
    obtain ⟨r1, r2, hs, h1, h2⟩ := hh
    exact ⟨r1, r2, hs, h1.more hf, RepH.more hf h2⟩
  | _ :: _, [], _, hh => by simp [RepH] at hh

theorem RepH.length {B : BM} : ∀ {h : Heap} {bs : BM} {r : Res}, RepH w l B h bs r → bs.length = h.length
  | [], bs, r, h => by simp only [RepH] at h; simp [h.1]
  | c :: h, none :: bs, r, hh => by simp only [RepH] at hh; simp [RepH.length hh]
  | c :: h, some b :: bs, r, hh => by simp only [RepH] at hh; obtain ⟨r1, r2, hs, h1, h2⟩ := hh; simp [RepH.length h2]
  | _ :: _, [], _, hh => by simp [RepH] at hh

theorem RepH.res {B : BM} {h : Heap} {bs : BM} {r r' : Res} (e : ∀ b, r b = r' b) (hh : RepH w l B h bs r) : RepH w l B h bs r' := by
  rw [← funext e]; exact hh

/-- A block is taken out. -/
theorem RepH.out {B : BM} : ∀ {h : Heap} {bs : BM} {r : Res} {i b : Nat} {c : List V}, RepH w l B h bs r → bs[i]? = some (some b) → h[i]? = some c →
    ∃ r1 r2, (∀ x, r x = r1 x + r2 x) ∧ RepB w l B c b r1 ∧ RepH w l B h (bs.set i none) r2
  | [], _, _, _, _, _, _, _, hi => by simp at hi
  | _ :: _, [], _, _, _, _, _, hb, _ => by simp at hb
  | c :: h, none :: bs, r, 0, b, d, hh, hb, hi => by simp at hb
  | c :: h, some b' :: bs, r, 0, b, d, hh, hb, hi => by
    simp at hb hi; subst hb; subst hi
    simp only [RepH] at hh
    obtain ⟨r1, r2, hs, h1, h2⟩ := hh
    exact ⟨r1, r2, hs, h1, by simpa [RepH] using h2⟩
  | c :: h, none :: bs, r, i + 1, b, d, hh, hb, hi => by
    simp at hb hi
    simp only [RepH] at hh
    obtain ⟨r1, r2, hs, h1, h2⟩ := RepH.out hh hb hi
    exact ⟨r1, r2, hs, h1, by simpa [RepH] using h2⟩
  | c :: h, some b' :: bs, r, i + 1, b, d, hh, hb, hi => by
    simp at hb hi
    simp only [RepH] at hh
    obtain ⟨s1, s2, hs, h1, h2⟩ := hh
    obtain ⟨r1, r2, hs2, h3, h4⟩ := RepH.out h2 hb hi
    refine ⟨r1, fun x => s1 x + r2 x, fun x => by simp only [hs, hs2]; omega, h3, ?_⟩
    simp only [List.set_cons_succ, RepH]
    exact ⟨s1, r2, fun _ => rfl, h1, h4⟩

/-- A block is put in. -/
theorem RepH.put {B : BM} : ∀ {h : Heap} {bs : BM} {r r1 : Res} {i b : Nat} {c : List V}, RepH w l B h bs r → bs[i]? = some none → RepB w l B c b r1 →
    RepH w l B (h.set i c) (bs.set i (some b)) (fun x => r1 x + r x)
  | [], bs, _, _, _, _, _, hh, hb, _ => by simp only [RepH] at hh; simp [hh.1] at hb
  | _ :: _, [], _, _, _, _, _, _, hb, _ => by simp at hb
  | c :: h, none :: bs, r, r1, 0, b, d, hh, hb, h1 => by
    simp only [RepH] at hh
    simp only [List.set_cons_zero, RepH]
    exact ⟨r1, r, fun _ => rfl, h1, hh⟩
  | c :: h, some b' :: bs, r, r1, 0, b, d, hh, hb, h1 => by simp at hb
  | c :: h, none :: bs, r, r1, i + 1, b, d, hh, hb, h1 => by
    simp at hb
    simp only [RepH] at hh
    simp only [List.set_cons_succ, RepH]
    exact RepH.put hh hb h1
  | c :: h, some b' :: bs, r, r1, i + 1, b, d, hh, hb, h1 => by
    simp at hb
    simp only [RepH] at hh
    obtain ⟨s1, s2, hs, h3, h4⟩ := hh
    simp only [List.set_cons_succ, RepH]
    exact ⟨s1, fun x => r1 x + s2 x, fun x => by simp only [hs]; omega, h3, RepH.put h4 hb h1⟩

/-- What is pending may be anything. -/
theorem RepH.setPending {B : BM} : ∀ {h : Heap} {bs : BM} {r : Res} {i : Nat} (c : List V), RepH w l B h bs r → bs[i]? = some none → RepH w l B (h.set i c) bs r
  | [], bs, _, _, _, hh, hb => by simp only [RepH] at hh; simp [hh.1] at hb
  | _ :: _, [], _, _, _, _, hb => by simp at hb
  | c :: h, none :: bs, r, 0, d, hh, hb => by simpa [RepH] using hh
  | c :: h, some b' :: bs, r, 0, d, hh, hb => by simp at hb
  | c :: h, none :: bs, r, i + 1, d, hh, hb => by
    simp at hb
    simp only [List.set_cons_succ, RepH] at hh ⊢
    exact RepH.setPending d hh hb
  | c :: h, some b' :: bs, r, i + 1, d, hh, hb => by
    simp at hb
    simp only [List.set_cons_succ, RepH] at hh ⊢
    obtain ⟨s1, s2, hs, h3, h4⟩ := hh
    exact ⟨s1, s2, hs, h3, RepH.setPending d h4 hb⟩

/-- Pending blocks behind. -/
theorem RepH.pend {B : BM} : ∀ {h : Heap} {bs : BM} {r : Res} (nb : Heap), RepH w l B h bs r → RepH w l B (h ++ nb) (bs ++ List.replicate nb.length none) r
  | [], bs, r, nb, hh => by
    simp only [RepH] at hh
    obtain ⟨rfl, h0⟩ := hh
    simp only [List.nil_append]
    induction nb with
    | nil => simp only [List.length_nil, List.replicate_zero, RepH]; exact ⟨trivial, h0⟩
    | cons c nb ih => simpa [List.replicate_succ, RepH] using ih
  | c :: h, none :: bs, r, nb, hh => by simp only [RepH] at hh; simpa [RepH] using RepH.pend nb hh
  | c :: h, some b :: bs, r, nb, hh => by
    simp only [RepH] at hh
    obtain ⟨s1, s2, hs, h3, h4⟩ := hh
    simp only [List.cons_append, RepH]
    exact ⟨s1, s2, hs, h3, RepH.pend nb h4⟩
  | _ :: _, [], _, _, hh => by simp [RepH] at hh

/-- The first n blocks. -/
theorem RepH.take {B : BM} : ∀ {h : Heap} {bs : BM} {r : Res} (n : Nat), RepH w l B h bs r → ∃ (r1 r2 : Res), (∀ x, r x = r1 x + r2 x) ∧ RepH w l B (h.take n) (bs.take n) r1
  | [], bs, r, n, hh => by
    simp only [RepH] at hh
    obtain ⟨rfl, h0⟩ := hh
    exact ⟨r, nil0, fun x => by simp [nil0], by simp [RepH, h0]⟩
  | c :: h, bs, r, 0, hh => ⟨nil0, r, fun x => by simp [nil0], by simp [RepH, nil0]⟩
  | c :: h, none :: bs, r, n + 1, hh => by
    simp only [RepH] at hh
    obtain ⟨r1, r2, hs, h1⟩ := RepH.take n hh
    exact ⟨r1, r2, hs, by simpa [RepH] using h1⟩
  | c :: h, some b :: bs, r, n + 1, hh => by
    simp only [RepH] at hh
    obtain ⟨s1, s2, hs, h3, h4⟩ := hh
    obtain ⟨r1, r2, hs2, h1⟩ := RepH.take n h4
    refine ⟨fun x => s1 x + r1 x, r2, fun x => by simp only [hs, hs2]; omega, ?_⟩
    simp only [List.take_succ_cons, RepH]
    exact ⟨s1, r1, fun _ => rfl, h3, h1⟩
  | _ :: _, [], _, _ + 1, hh => by simp [RepH] at hh

/-- Other numbers in the blocks. -/
theorem RepH.ren {f : Nat → Option Nat} {B B' : BM} (hf : ∀ i j b, f i = some j → B[i]? = some (some b) → B'[j]? = some (some b)) : ∀ {h : Heap} {bs : BM} {r : Res}, RepH w l B h bs r → RepH w l B' (h.map (renL f)) bs r
  | [], bs, r, h => by simpa [RepH] using h
  | c :: h, none :: bs, r, hh => by simp only [List.map_cons, RepH] at hh ⊢; exact RepH.ren hf hh
  | c :: h, some b :: bs, r, hh => by
    simp only [List.map_cons, RepH] at hh ⊢
    obtain ⟨r1, r2, hs, h1, h2⟩ := hh
    obtain ⟨h0, cs, ty, hc, hfl, rc, hs', hL⟩ := h1
    exact ⟨r1, r2, hs, ⟨h0, cs, ty, hc, hfl, rc, hs', RepL.ren hf c _ rc hL⟩, RepH.ren hf h2⟩
  | _ :: _, [], _, hh => by simp [RepH] at hh

end Go.Vm
/- The evaluator by value: what pure operations yield in the program's own run. -/
namespace Go.Vm
set_option linter.unusedSectionVars false
variable [Globs]
set_option linter.unusedVariables false
set_option linter.unusedSimpArgs false

/-- What a row of the table of types says of the program. -/
def Kd.ok (P : Program) (t : TypeId) : Kd → Prop
  | .int k => P.underlying t = some (.int k)
  | .bool => P.underlying t = some .bool
  | .string => P.underlying t = some .string
  | .slice e => P.underlying t = some (.slice e)
  | .array n e => P.underlying t = some (.array n e)
  | .struct fs ok => ∃ fields, P.underlying t = some (.struct fields) ∧ fields.toList.map (fun f => (f.offset, f.type)) = fs ∧ fields.toList.all (fun f => (P.info? f.type).isSome) = true ∧
      (ok = true → P.stoodInHeld t = false ∧ P.eqGuardType P.depth t = false ∧ fields.toList.all (fun f => !decide (f.name = "_")) = true)
  | .other => ∃ d, P.underlying t = some d ∧ (∀ fs, d ≠ .struct fs) ∧ ∀ n e, d ≠ .array n e

def TI.ok (P : Program) (t : TypeId) (i : TI) : Prop :=
  ∃ info z, P.info? t = some info ∧ info.size = i.size ∧ info.bytes = i.bytes ∧ info.zero = some z ∧ (ofConst z).cells = i.zero ∧
    z.cells.toList.all Value.oneCell' = true ∧ i.zero.length = i.size ∧ 0 < i.size ∧ i.kd.ok P t

structure En.ok (P : Program) (E : En) : Prop where
  ar : E.ar = real
  lp : E.lp = rounds
  ty : ∀ t i, E.ty t = some i → i.ok P t

section
variable {P : Program} {E : En} {w : World} {l : Lim} {B : BM}

@[simp] theorem run_und {t : TypeId} {d : TypeDesc} (h : P.underlying t = some d) : (underlying t).run P w = .ok d w := by
  simp [underlying, h]

@[simp] theorem run_tyInfo {t : TypeId} {i : TypeInfo} (h : P.info? t = some i) : (typeInfo t).run P w = .ok i w := by
  simp [typeInfo, h]

theorem run_sizeOf {t : TypeId} {i : TypeInfo} (h : P.info? t = some i) : (sizeOf t).run P w = .ok i.size w := by
  simp [sizeOf, run_tyInfo h]

theorem En.ok.info (hE : E.ok P) {t : TypeId} {i : TI} (h : E.ty t = some i) : ∃ info, P.info? t = some info ∧ info.size = i.size := by
  obtain ⟨info, z, h1, h2, _⟩ := hE.ty t i h
  exact ⟨info, h1, h2⟩

theorem En.ok.size (hE : E.ok P) {t : TypeId} {n : Nat} (h : size E t = some n) (w : World) : (sizeOf t).run P w = .ok n w ∧ 0 < n := by
  unfold Vm.size at h
  cases hi : E.ty t with
  | none => simp [hi] at h
  | some i =>
    simp [hi] at h
    obtain ⟨info, z, h1, h2, h3, h4, h5, h6, h7, h8, h9⟩ := hE.ty t i hi
    exact ⟨by rw [run_sizeOf h1, h2, h], by omega⟩

theorem En.ok.kd (hE : E.ok P) {t : TypeId} {k : Kd} (h : kd E t = some k) : k.ok P t := by
  unfold Vm.kd at h
  cases hi : E.ty t with
  | none => simp [hi] at h
  | some i =>
    simp [hi] at h
    obtain ⟨info, z, h1, h2, h3, h4, h5, h6, h7, h8, h9⟩ := hE.ty t i hi
    rw [← h]; exact h9

def isA : TypeDesc → Bool
  | .struct _ => true
  | .array _ _ => true
  | _ => false

theorem run_isAgg {t : TypeId} {d : TypeDesc} (h : P.underlying t = some d) : (Go.isAgg t).run P w = .ok (isA d) w := by
  simp only [Go.isAgg, Sem.run_bind, run_und h, Result.andThen_ok]
  cases d <;> rfl

/-! ### Scalars -/

theorem whenB_eq {α : Type} (b : Bool) (x : Option α) : whenB b x = if b then x else none := by cases b <;> rfl

theorem run_bin {op : BinOp} {k k' : IntKind} {a b : Int} {t : TypeId} {v : Value} (h : bin real op k a k' b = some v) :
    (binOp op t (.int k a) (.int k' b)).run P w = .ok v w := by
  unfold bin at h
  cases op <;> simp [real, whenB_eq] at h <;>
    first
    | (obtain ⟨rfl, rfl⟩ := h; simp [binOp, Op.intArith, Op.intBits, Op.intCmp]; done)
    | (obtain ⟨rfl, rfl⟩ := h; simp [binOp, Op.intArith, Op.intBits, Op.intCmp]; rfl)
    | (obtain ⟨rfl, h0, rfl⟩ := h; simp [binOp, Op.intDiv, h0]; done)
    | (obtain ⟨h0, rfl⟩ := h; simp [binOp, Op.shift, Int.not_lt.2 h0]; done)

theorem run_guard {op : BinOp} {t : TypeId} {x y : Operand} {k k' : IntKind} {a b : Int} : (eqGuard op t x y (.int k a) (.int k' b)).run P w = .ok () w := by
  cases op <;> simp [eqGuard]

theorem run_guardB {op : BinOp} {t : TypeId} {x y : Operand} {a b : Bool} : (eqGuard op t x y (.bool a) (.bool b)).run P w = .ok () w := by
  cases op <;> simp [eqGuard]

theorem run_un {op : UnOp} {a v : Value} (h : un real op a = some v) : (Op.unary op a).run P w = .ok v w := by
  cases a <;> simp [un] at h
  · cases op <;> simp at h
    subst h; simp [Op.unary]
  · cases op <;> simp [real] at h
    · subst h; simp [Op.unary, Op.intArith]
    · subst h; simp [Op.unary, Op.intBits]

theorem run_min2 {a b v : Value} (h : min2 real a b = some v) : (Builtin.min2 a b).run P w = .ok v w := by
  cases a <;> cases b <;> simp [min2, real] at h
  subst h; simp [Builtin.min2]

theorem run_max2 {a b v : Value} (h : max2 real a b = some v) : (Builtin.max2 a b).run P w = .ok v w := by
  cases a <;> cases b <;> simp [max2, real] at h
  subst h; simp [Builtin.max2]

/-! ### Parts of a struct -/

theorem flat_sub {ys : List Value} (h : flat ys) (n m : Nat) : flat ((ys.drop n).take m) := fun y hy => h y (List.mem_of_mem_drop (List.mem_of_mem_take hy))

/-- Fewer blocks. -/
def Sub (r1 r : Res) : Prop := ∀ b, r1 b ≤ r b

theorem part_ok (hE : E.ok P) {t : TypeId} {cs : List V} {off : Nat} {v : V} {ys : List Value} {r : Res} (h : Vm.part E t cs off = some v) (hL : RepL w l cs B ys r) (hf : flat ys) :
    ∃ x r1, (Go.part t ys.toArray off).run P w = .ok x w ∧ Rep w l v B x r1 ∧ Sub r1 r := by
  unfold Vm.part at h
  cases hi : E.ty t with
  | none => simp [hi] at h
  | some i =>
    obtain ⟨info, z, h1, h2, h3, h4, h5, h6, h7, h8, h9⟩ := hE.ty t i hi
    simp only [hi] at h
    have agg : (match i.kd with | .struct _ _ | .array _ _ => True | _ => False) → (if off + i.size ≤ cs.length then some (V.agg ((cs.drop off).take i.size)) else none) = some v → (∃ d, P.underlying t = some d ∧ isA d = true) →
        ∃ x r1, (Go.part t ys.toArray off).run P w = .ok x w ∧ Rep w l v B x r1 ∧ Sub r1 r := by
      intro _ hv ⟨d, hd, hd'⟩
      split at hv
      · rename_i hle
        cases hv
        obtain ⟨ra, rb, ha, hb, hab⟩ := hL.take off
        obtain ⟨rc, rd, hc, hd2, hcd⟩ := hb.take i.size
        refine ⟨.agg ((ys.drop off).take i.size).toArray, rc, ?_, ?_, fun b => ?_⟩
        · simp only [Go.part, Sem.run_bind, run_isAgg hd, Result.andThen_ok, hd', if_true]
          simp [run_sizeOf h1, h2, List.extract_eq_take_drop]
        · simp only [Rep]; exact ⟨_, rfl, flat_sub hf _ _, hc⟩
        · have := hab b; have := hcd b; omega
      · simp at hv
    have one : cs[off]? = some v → (∃ d, P.underlying t = some d ∧ isA d = false) →
        ∃ x r1, (Go.part t ys.toArray off).run P w = .ok x w ∧ Rep w l v B x r1 ∧ Sub r1 r := by
      intro hv ⟨d, hd, hd'⟩
      obtain ⟨y, r1, r2, hy, hR, hs, _⟩ := hL.at hv
      refine ⟨y, r1, ?_, hR, fun b => by have := hs b; omega⟩
      simp only [Go.part, Sem.run_bind, run_isAgg hd, Result.andThen_ok, hd', Bool.false_eq_true, if_false]
      simp [hy]
    revert h
    cases hk : i.kd <;> rw [hk] at h9 <;> simp only [Kd.ok] at h9 <;> intro h
    case struct => obtain ⟨fields, hu, _⟩ := h9; exact agg (by simp [hk]) (by simpa using h) ⟨_, hu, rfl⟩
    case array => exact agg (by simp [hk]) (by simpa using h) ⟨_, h9, rfl⟩
    case other =>
      obtain ⟨d, hd, ha, hb⟩ := h9
      refine one (by simpa using h) ⟨d, hd, ?_⟩
      cases d <;> first | rfl | exact absurd rfl (ha _) | exact absurd rfl (hb _ _)
    all_goals exact one (by simpa using h) ⟨_, h9, rfl⟩

/-! ### Equality -/

theorem eqs_ok (hE : E.ok P) : ∀ (d : Nat) (t : TypeId) (x y : V) (b : Bool) (xr yr : Value) (r1 r2 : Res), eqs E d t x y = some b → Rep w l x B xr r1 → Rep w l y B yr r2 →
    ∀ d', d ≤ d' → (Op.equalIn d' t xr yr).run P w = .ok b w
  | 0, _, _, _, _, _, _, _, _, h, _, _, _, _ => by simp [eqs] at h
  | d + 1, t, x, y, b, xr, yr, r1, r2, h, hx, hy, 0, hd => by omega
  | d + 1, t, x, y, b, xr, yr, r1, r2, h, hx, hy, d' + 1, hd => by
    simp only [eqs] at h
    cases hk : kd E t with
    | none => simp [hk] at h
    | some k =>
      have hk' := hE.kd hk
      rw [hk] at h
      split at h <;> try (simp at h; done)
      · rename_i a a' he
        cases he
        simp only [Rep] at hx hy
        obtain ⟨rfl, _⟩ := hx
        obtain ⟨rfl, _⟩ := hy
        simp only [Option.some.injEq] at h
        rw [← h]
        exact run_equalIn_bool w d' t a a' hk'
      · rename_i k1 k2 a k3 a' he
        cases he
        simp only [Rep] at hx hy
        obtain ⟨rfl, _⟩ := hx
        obtain ⟨rfl, _⟩ := hy
        split at h
        · rename_i hkk
          subst hkk
          rw [hE.ar] at h
          simp [real] at h
          rw [run_equalIn_int w d' t k2 k1 a a' hk', ← h]
          simp [BEq.beq]
        · simp at h
      · rename_i fs xs ys he
        cases he
        simp only [Rep] at hx hy
        obtain ⟨xl, rfl, hxf, hxL⟩ := hx
        obtain ⟨yl, rfl, hyf, hyL⟩ := hy
        obtain ⟨fields, hu, hfs, hinf, hok⟩ := hk'
        obtain ⟨hst, _, hnm⟩ := hok rfl
        have hfo : P.fieldsOf t = fields := by simp [Program.fieldsOf, hu]
        rw [run_equalIn_struct w d' t _ _ (by rw [hfo]; exact hu) hst, hfo]
        rw [← hfs] at h
        clear hu hfs hfo hok hinf
        revert h hnm
        generalize fields.toList = fl
        intro h hnm
        induction fl with
        | nil => simp [eqGo] at h; subst h; simp [Op.eqFields]
        | cons f fl ih =>
          simp only [List.map_cons, eqGo] at h
          simp only [List.all_cons, Bool.and_eq_true] at hnm
          have hne : f.name ≠ "_" := by simpa using hnm.1
          cases hp1 : Vm.part E f.type xs f.offset with
          | none => simp [hp1] at h
          | some u1 =>
            cases hp2 : Vm.part E f.type ys f.offset with
            | none => simp [hp1, hp2] at h
            | some u2 =>
              simp only [hp1, hp2] at h
              obtain ⟨z1, s1, hz1, hz1', _⟩ := part_ok hE hp1 hxL hxf
              obtain ⟨z2, s2, hz2, hz2', _⟩ := part_ok hE hp2 hyL hyf
              simp only [Op.eqFields, hne, ne_eq, not_false_eq_true, if_true, Sem.run_bind, hz1, hz2, Result.andThen_ok]
              cases he : eqs E d f.type u1 u2 with
              | none => simp [he] at h
              | some bb =>
                have hrec := eqs_ok hE d f.type u1 u2 bb z1 z2 s1 s2 he hz1' hz2' d' (by omega)
                simp only [hrec, Result.andThen_ok]
                cases bb
                · simp [he] at h; subst h; simp
                · simp only [he] at h
                  simpa using ih h hnm.2
end
end Go.Vm
/- The evaluator by value: the operations that change neither slots nor blocks that stand. -/
namespace Go.Vm
set_option linter.unusedSectionVars false
variable [Globs]
set_option linter.unusedVariables false
set_option linter.unusedSimpArgs false

/-- Real operands for abstract ones. -/
def Opd (w : World) (l : Lim) (B : BM) : List V → List Value → Prop
  | [], [] => True
  | v :: vs, x :: xs => (∃ r, Rep w l v B x r) ∧ Opd w l B vs xs
  | _, _ => False

/-- A value is yielded; nothing changes. -/
def Same (w : World) (l : Lim) (B : BM) (res : Result Next) (v : V) : Prop := ∃ x, res = .ok (.value x) w ∧ Rep w l v B x nil0

section
variable {P : Program} {E : En} {w : World} {l : Lim} {B : BM} {ρ : Operand → Value}

theorem Rep.of_scalar {v : Value} : Rep w l (.sc v) B v nil0 := by simp only [Rep]; exact ⟨trivial, fun _ => rfl⟩

theorem Same.sc {res : Result Next} {v : Value} (h : res = .ok (.value v) w) : Same w l B res (.sc v) := ⟨v, h, Rep.of_scalar⟩

theorem Rep.sub0 {v : V} {x : Value} {r : Res} (h : Rep w l v B x r) (h0 : ∀ b, r b = 0) : Rep w l v B x nil0 := Rep.res (fun b => by rw [h0]; rfl) h

theorem run_eqGuard_other {op : BinOp} {t : TypeId} {x y : Operand} {a b : Value} (ha : ∀ cs, a ≠ .agg cs) (hn : a ≠ .nilIface) : (eqGuard op t x y a b).run P w = .ok () w := by
  unfold eqGuard
  cases op <;> simp <;> (split <;> first | rfl | simp_all)

/-- Equality of two values, as an operation. -/
theorem binV_ok (hE : E.ok P) {op : BinOp} {t : TypeId} {x y v : V} {xr yr : Value} {r1 r2 : Res} {ox oy : Operand} (h : binV E op t x y = some v) (hx : Rep w l x B xr r1) (hy : Rep w l y B yr r2) :
    ∃ z, ((do eqGuard op t ox oy xr yr; binOp op t xr yr : Sem Value)).run P w = .ok z w ∧ Rep w l v B z nil0 := by
  unfold binV at h
  split at h
  · rename_i k a k' b
    simp only [Rep] at hx hy
    obtain ⟨rfl, _⟩ := hx
    obtain ⟨rfl, _⟩ := hy
    rw [hE.ar] at h
    cases hb : bin real op k a k' b with
    | none => simp [hb] at h
    | some z =>
      simp [hb] at h; subst h
      exact ⟨z, by simp [run_guard, run_bin hb], Rep.of_scalar⟩
  · rename_i hno
    have key : ∀ b, eqs E 8 t x y = some b → (∀ o : BinOp, (eqGuard o t ox oy xr yr).run P w = .ok () w) ∧ (Op.equal t xr yr).run P w = .ok b w ∧
        (binOp .eql t xr yr = (do pure (.bool (← Op.equal t xr yr)))) ∧ (binOp .neq t xr yr = (do pure (.bool (!(← Op.equal t xr yr))))) := by
      intro b hb
      have he := eqs_ok hE 8 t x y b xr yr r1 r2 hb hx hy 10000 (by omega)
      simp only [eqs] at hb
      cases hk : kd E t with
      | none => simp [hk] at hb
      | some k =>
        have hk' := hE.kd hk
        rw [hk] at hb
        split at hb <;> try (simp at hb; done)
        · rename_i a a' _
          simp only [Rep] at hx hy
          obtain ⟨rfl, _⟩ := hx
          obtain ⟨rfl, _⟩ := hy
          exact ⟨fun o => run_guardB, he, rfl, rfl⟩
        · rename_i k1 a k2 b' _
          exact (hno k1 a k2 b' rfl rfl).elim
        · rename_i fs xs ys he'
          cases he'
          obtain ⟨fields, hu, hfs, hinf, hok⟩ := hk'
          simp only [Rep] at hx hy
          obtain ⟨xl, rfl, hxf, hxL⟩ := hx
          obtain ⟨yl, rfl, hyf, hyL⟩ := hy
          refine ⟨fun o => ?_, he, rfl, rfl⟩
          have hg := (hok rfl).2.1
          cases o <;> simp [eqGuard, hg]
    split at h
    · cases hb : eqs E 8 t x y with
      | none => simp [hb] at h
      | some b =>
        simp [hb] at h; subst h
        obtain ⟨h1, h2, h3, h4⟩ := key b hb
        exact ⟨.bool b, by simp [h1, h3, h2], Rep.of_scalar⟩
    · cases hb : eqs E 8 t x y with
      | none => simp [hb] at h
      | some b =>
        simp [hb] at h; subst h
        obtain ⟨h1, h2, h3, h4⟩ := key b hb
        exact ⟨.bool (!b), by simp [h1, h4, h2], Rep.of_scalar⟩
    · simp at h

theorem field_ok (hE : E.ok P) {t ft : TypeId} {f off : Nat} (h : field E t f = some (off, ft)) : ∃ fields fd, P.underlying t = some (.struct fields) ∧ fields[f]? = some fd ∧ fd.offset = off ∧ fd.type = ft := by
  unfold field at h
  cases hk : kd E t with
  | none => simp [hk] at h
  | some k =>
    have hk' := hE.kd hk
    rw [hk] at h
    split at h <;> try (simp at h; done)
    rename_i fs _ he
    cases he
    obtain ⟨fields, hu, hfs, _⟩ := hk'
    rw [← hfs] at h
    simp at h
    obtain ⟨fd, hfd, h1, h2⟩ := h
    exact ⟨fields, fd, hu, hfd, h1, h2⟩

theorem idx_ok {i : Int} {j : Nat} (h : real.idx i = some j) : 0 ≤ i ∧ i.toNat = j := by
  simp [real, realIdx] at h; exact h

theorem vp_drop {cs : List V} {b off : Nat} {c : Array Value} {ty fz} {n : Nat} (hc : w.heap[b]? = some (.cells c ty fz)) (h1 : off + cs.length ≤ c.size) (h2 : off + cs.length ≤ l b) (hf : flat ((c.toList.drop off).take cs.length))
    (hL : RepL w l cs [] ((c.toList.drop off).take cs.length) nil0) (hn : n ≤ cs.length) : Rep w l (.vp (cs.drop n)) B (.pointer (some ⟨b, off + n, none⟩)) nil0 := by
  simp only [Rep]
  obtain ⟨r1, r2, ha, hb, hr⟩ := hL.take n
  have he : (((c.toList.drop off).take cs.length).drop n) = ((c.toList.drop (off + n)).take (cs.drop n).length) := by
    rw [List.drop_take, List.drop_drop]; simp
  refine ⟨fun _ => rfl, b, off + n, c, ty, fz, rfl, hc, by simp; omega, by simp; omega, ?_, ?_⟩
  · rw [← he]; intro y hy; exact hf y (List.mem_of_mem_drop hy)
  · rw [← he]; exact RepL.res (fun b => (sum0 hr (fun _ => rfl)).2 b) hb

theorem Addr.add_eq {b off n : Nat} : (⟨b, off, none⟩ : Addr).add n = ⟨b, off + n, none⟩ := by
  unfold Addr.add; split
  · rename_i h; subst h; rfl
  · rfl

def faV (x : V) (off : Nat) : Option V :=
  match x with
  | .ptr i o => some (.ptr i (o + off))
  | .vp cs => if off ≤ cs.length then some (.vp (cs.drop off)) else none
  | _ => none

theorem fieldAddr_ok (hE : E.ok P) {t : TypeId} {f : Nat} {x v : V} {xr : Value} {r : Res} {off : Nat} {ft : TypeId} (hf : field E t f = some (off, ft)) {n : Nat} (hs : size E ft = some n)
    (h : faV x off = some v) (hx : Rep w l x B xr r) :
    ∃ z, (Instr.fieldAt t xr f).run P w = .ok z w ∧ Rep w l v B z nil0 := by
  obtain ⟨fields, fd, hu, hfd, rfl, rfl⟩ := field_ok hE hf
  obtain ⟨hsz, hpos⟩ := hE.size hs w
  have run : ∀ b o, (Instr.fieldAt t (.pointer (some ⟨b, o, none⟩)) f).run P w = .ok (.pointer (some ⟨b, o + fd.offset, none⟩)) w := by
    intro b o
    simp [Instr.fieldAt, run_und hu, hfd, Instr.sureAddr, fieldPlace, hsz, Nat.pos_iff_ne_zero.1 hpos, Addr.add_eq]
  unfold faV at h
  split at h <;> try (simp at h; done)
  · cases h
    simp only [Rep] at hx
    obtain ⟨h0, b, hb, rfl⟩ := hx
    exact ⟨_, run b _, by simp only [Rep]; exact ⟨fun _ => rfl, b, hb, rfl⟩⟩
  · split at h
    · cases h
      simp only [Rep] at hx
      obtain ⟨h0, b, o, c, ty, fz, rfl, hc, h1, h2, hfl, hL⟩ := hx
      exact ⟨_, run b o, vp_drop hc h1 h2 hfl hL (by assumption)⟩
    · simp at h


theorem idxV_ok (hE : E.ok P) (x : Operand) (i : Int) : idxV E x i = real.idx i := by
  unfold idxV; rw [hE.ar]; cases x <;> rfl

/-- The address of an element. -/
theorem indexAddr_ok (hE : E.ok P) {ix : Operand} {t : TypeId} {x v : V} {xr : Value} {r : Res} {k : IntKind} {i : Int}
    (h : (match kd E t, x with
      | some (.slice e), .sl _ es => match E.ar.get es i with
        | some c => if size E e = some c.length then some (V.vp c) else none
        | none => none
      | some (.array n e), .ptr b off => match idxV E ix i, size E e with
        | some j, some k => if j < n then some (.ptr b (off + j * k)) else none
        | _, _ => none
      | some (.array n e), .vp cs => match idxV E ix i, size E e with
        | some j, some k => if j < n ∧ j * k ≤ cs.length then some (.vp (cs.drop (j * k))) else none
        | _, _ => none
      | _, _ => none) = some v) (hx : Rep w l x B xr r) :
    ∃ z, (Instr.indexAt t xr (.int k i)).run P w = .ok z w ∧ Rep w l v B z nil0 := by
  rw [idxV_ok hE] at h
  cases hk : kd E t with
  | none => simp [hk] at h
  | some kk =>
    have hk' := hE.kd hk
    rw [hk] at h
    split at h <;> try (simp at h; done)
    · rename_i e own es he
      cases he
      rw [hE.ar] at h
      simp only [real] at h
      cases hj : realIdx i with
      | none => simp [hj] at h
      | some j =>
        obtain ⟨hi0, rfl⟩ := idx_ok hj
        simp only [hj] at h
        cases hc : es[i.toNat]? with
        | none => simp [hc] at h
        | some c =>
          simp only [hc] at h
          split at h
          · rename_i hsz
            cases h
            obtain ⟨hszr, hpos⟩ := hE.size hsz w
            simp only [Rep] at hx
            obtain ⟨a, cap, rfl, hx⟩ := hx
            have hlt : i.toNat < es.length := by
              rcases Nat.lt_or_ge i.toNat es.length with h' | h'
              · exact h'
              · simp [List.getElem?_eq_none h'] at hc
            rcases hx with ⟨rfl, _⟩ | ⟨hne, b, off, kl, cc, ty, fz, rfl, hcc, hkl, hLL, hs1, hs2, hcap, _⟩
            · simp at hlt
            · have hkc : c.length = kl := hkl c (List.mem_of_getElem? hc)
              refine ⟨.pointer (some ⟨b, off + i.toNat * kl, none⟩), ?_, ?_⟩
              · simp only [Kd.ok] at hk'
                simp only [Instr.indexAt, asIntOf, Sem.run_bind, Sem.run_pure, Result.andThen_ok, run_und hk']
                have : i < (es.length : Int) := by omega
                simp [hi0, this, hszr, Addr.add_eq, hkc]
              · -- the cells of the element
                have key : ∀ (es : List (List V)) (j : Nat) (ys : List Value) (c : List V), (∀ e ∈ es, e.length = kl) → RepLL w l es ys → es[j]? = some c → flat ((ys.drop (j * kl)).take kl) ∧ RepL w l c [] ((ys.drop (j * kl)).take kl) nil0 ∧ (j + 1) * kl ≤ ys.length := by
                  intro es
                  induction es with
                  | nil => intro j ys c _ _ hj; simp at hj
                  | cons e es ih =>
                    intro j ys c hk hL hj
                    simp only [RepLL] at hL
                    obtain ⟨y1, y2, rfl, hf1, h1, h2⟩ := hL
                    have hl1 : y1.length = kl := by rw [h1.length]; exact hk e (by simp)
                    cases j with
                    | zero =>
                      simp at hj; subst hj
                      simp only [Nat.zero_mul, List.drop_zero]
                      rw [List.take_left' hl1]
                      exact ⟨hf1, h1, by simp; omega⟩
                    | succ j =>
                      simp at hj
                      obtain ⟨ha, hb, hcl⟩ := ih j y2 c (fun e he => hk e (by simp [he])) h2 hj
                      have he : ((y1 ++ y2).drop ((j + 1) * kl)) = y2.drop (j * kl) := by
                        rw [Nat.succ_mul, Nat.add_comm, ← hl1, List.drop_append]
                        simp
                      rw [he]
                      exact ⟨ha, hb, by simp [hl1]; rw [Nat.succ_mul]; omega⟩
                obtain ⟨hfl, hRL, hle⟩ := key es i.toNat _ c hkl hLL hc
                have hjk : (i.toNat + 1) * kl ≤ es.length * kl := Nat.mul_le_mul_right _ hlt
                have hjk' : (i.toNat + 1) * kl = i.toNat * kl + kl := by rw [Nat.succ_mul]
                have heq : ((((cc.toList.drop off).take (es.length * kl)).drop (i.toNat * kl)).take kl) = ((cc.toList.drop (off + i.toNat * kl)).take c.length) := by
                  rw [hkc, List.drop_take, List.drop_drop, List.take_take]
                  congr 1
                  omega
                rw [heq] at hfl hRL
                simp only [Rep]
                exact ⟨fun _ => rfl, b, off + i.toNat * kl, cc, ty, fz, rfl, hcc, by omega, by omega, hfl, hRL⟩
          · simp at h
    · rename_i n e b off he
      cases he
      cases hj : real.idx i with
      | none => simp [hj] at h
      | some j =>
        obtain ⟨hi0, rfl⟩ := idx_ok hj
        simp only [hj] at h
        cases hsz : size E e with
        | none => simp [hsz] at h
        | some kk =>
          simp only [hsz] at h
          split at h
          · rename_i hlt
            cases h
            obtain ⟨hszr, hpos⟩ := hE.size hsz w
            simp only [Rep] at hx
            obtain ⟨h0, b', hb, rfl⟩ := hx
            refine ⟨.pointer (some ⟨b', off + i.toNat * kk, none⟩), ?_, by simp only [Rep]; exact ⟨fun _ => rfl, b', hb, rfl⟩⟩
            simp only [Kd.ok] at hk'
            simp only [Instr.indexAt, asIntOf, Sem.run_bind, Sem.run_pure, Result.andThen_ok, run_und hk', Instr.sureAddr]
            have : i < (n : Int) := by omega
            simp [hi0, this, hszr, Addr.add_eq, run_und hk']
          · simp at h
    · rename_i n e cs he
      cases he
      cases hj : real.idx i with
      | none => simp [hj] at h
      | some j =>
        obtain ⟨hi0, rfl⟩ := idx_ok hj
        simp only [hj] at h
        cases hsz : size E e with
        | none => simp [hsz] at h
        | some kk =>
          simp only [hsz] at h
          split at h
          · rename_i hlt
            cases h
            obtain ⟨hszr, hpos⟩ := hE.size hsz w
            simp only [Rep] at hx
            obtain ⟨h0, b, off, c, ty, fz, rfl, hc, h1, h2, hfl, hL⟩ := hx
            refine ⟨.pointer (some ⟨b, off + i.toNat * kk, none⟩), ?_, vp_drop hc h1 h2 hfl hL hlt.2⟩
            simp only [Kd.ok] at hk'
            simp only [Instr.indexAt, asIntOf, Sem.run_bind, Sem.run_pure, Result.andThen_ok, run_und hk', Instr.sureAddr]
            have : i < (n : Int) := by omega
            simp [hi0, this, hszr, Addr.add_eq, run_und hk']
          · simp at h

end
end Go.Vm
/- The evaluator by value: more operations that change nothing. -/
namespace Go.Vm
set_option linter.unusedSectionVars false
variable [Globs]
set_option linter.unusedVariables false
set_option linter.unusedSimpArgs false
section
variable {P : Program} {E : En} {w : World} {l : Lim} {B : BM} {ρ : Operand → Value}

theorem len_ok (hE : E.ok P) {t : TypeId} {ts : Array TypeId} {ty : TypeId} {x v : V} {xr : Value} {r : Res} (h : lenV E t x = some v) (ht : ts[0]? = some t) (hx : Rep w l x B xr r) :
    (Builtin.len_ ts ty #[xr]).run P w = .ok (match v with | .sc z => z | _ => undef) w ∧ (∃ z, v = .sc z) := by
  unfold lenV at h
  cases hk : kd E t with
  | none => simp [hk] at h
  | some kk =>
    have hk' := hE.kd hk
    rw [hk] at h
    split at h <;> try (simp at h; done)
    · rename_i e own es he
      cases he; cases h
      rw [hE.ar]
      simp only [real]
      simp only [Kd.ok] at hk'
      simp only [Rep] at hx
      obtain ⟨a, cap, rfl, _⟩ := hx
      exact ⟨by simp [Builtin.len_, ht, run_und hk', goInt], _, rfl⟩
    · rename_i s he
      cases he; cases h
      simp only [Kd.ok] at hk'
      simp only [Rep] at hx
      obtain ⟨rfl, _⟩ := hx
      exact ⟨by simp [Builtin.len_, ht, run_und hk', goInt], _, rfl⟩
    · rename_i n e _ he
      cases he; cases h
      simp only [Kd.ok] at hk'
      exact ⟨by simp [Builtin.len_, ht, run_und hk', goInt], _, rfl⟩

theorem foldV_ok {f : Value → Value → Option Value} {g : Value → Value → Sem Value} (hfg : ∀ a b v, f a b = some v → (g a b).run P w = .ok v w) : ∀ (vs : List V) (x : Value) (xs : List Value) (v : Value), foldV f x vs = some v → Opd w l B vs xs →
    (xs.foldlM g x).run P w = .ok v w
  | [], x, xs, v, h, ho => by
    cases xs with
    | nil => simp [foldV] at h; subst h; simp
    | cons => simp [Opd] at ho
  | u :: vs, x, xs, v, h, ho => by
    cases xs with
    | nil => simp [Opd] at ho
    | cons y ys =>
      simp only [Opd] at ho
      obtain ⟨⟨r, hu⟩, ho⟩ := ho
      cases u <;> simp only [foldV] at h <;> try (simp at h; done)
      rename_i uy
      simp only [Rep] at hu
      obtain ⟨rfl, _⟩ := hu
      cases hf : f x y with
      | none => simp [hf] at h
      | some z =>
        simp [hf] at h
        simp only [List.foldlM_cons, Sem.run_bind, hfg x y z hf, Result.andThen_ok]
        exact foldV_ok hfg vs z ys v h ho

theorem RepLL.drop_take : ∀ (es : List (List V)) (ys : List Value) (k a n : Nat), (∀ e ∈ es, e.length = k) → RepLL w l es ys → RepLL w l ((es.drop a).take n) ((ys.drop (a * k)).take (((es.drop a).take n).length * k))
  | [], ys, k, a, n, _, h => by simp [RepLL]
  | e :: es, ys, k, 0, 0, hk, h => by simp [RepLL]
  | e :: es, ys, k, 0, n + 1, hk, h => by
    simp only [RepLL] at h
    obtain ⟨y1, y2, rfl, hf, h1, h2⟩ := h
    have hl1 : y1.length = k := by rw [h1.length]; exact hk e (by simp)
    have ih := RepLL.drop_take es y2 k 0 n (fun e he => hk e (by simp [he])) h2
    simp only [List.drop_zero, Nat.zero_mul] at ih ⊢
    simp only [List.take_succ_cons, RepLL, List.length_cons]
    refine ⟨y1, y2.take ((es.take n).length * k), ?_, hf, h1, ih⟩
    rw [Nat.succ_mul, Nat.add_comm, ← hl1, List.take_append, List.take_of_length_le (by omega)]
    simp
  | e :: es, ys, k, a + 1, n, hk, h => by
    simp only [RepLL] at h
    obtain ⟨y1, y2, rfl, hf, h1, h2⟩ := h
    have hl1 : y1.length = k := by rw [h1.length]; exact hk e (by simp)
    have ih := RepLL.drop_take es y2 k a n (fun e he => hk e (by simp [he])) h2
    simp only [List.drop_succ_cons]
    have he : ((y1 ++ y2).drop ((a + 1) * k)) = y2.drop (a * k) := by
      rw [Nat.succ_mul, Nat.add_comm, ← hl1, List.drop_append]
      simp
    rw [he]; exact ih

def OptRep (w : World) (l : Lim) (B : BM) : Option V → Option Value → Prop
  | none, none => True
  | some v, some y => ∃ r, Rep w l v B y r
  | _, _ => False

def BR (d : Nat) : Option Value → Nat → Prop
  | none, n => n = d
  | some y, n => ∃ (k : IntKind) (i : Int), y = .int k i ∧ 0 ≤ i ∧ i.toNat = n

theorem bound_ok {E : En} (hE : E.ok P) {x : Option V} {xr : Option Value} {d n : Nat} (h : bound E x d = some n) (hx : OptRep w l B x xr) : BR d xr n := by
  unfold bound at h
  rw [hE.ar] at h
  split at h
  · cases xr with
    | none => simp [BR] at h ⊢; exact h.symm
    | some => exact hx.elim
  · rename_i k i
    cases xr with
    | none => exact hx.elim
    | some y =>
      obtain ⟨r, hx⟩ := hx
      simp only [Rep] at hx
      obtain ⟨rfl, _⟩ := hx
      obtain ⟨h1, h2⟩ := idx_ok h
      exact ⟨k, i, rfl, h1, h2⟩
  · simp at h

theorem bound_real {E : En} (hE : E.ok P) {x : Option V} {d : Nat} : bound E x d = realBound x d := by
  unfold bound realBound
  rw [hE.ar]
  rfl

theorem sliceBound_ok {y : Value} {k : IntKind} {i : Int} {n m : Nat} {c : BoundsCode} (hy : y = .int k i) (h0 : 0 ≤ i) (hn : i.toNat = n) (hm : n ≤ m) : (Instr.sliceBound y m c).run P w = .ok n w := by
  subst hy
  have : i ≤ (m : Int) := by omega
  simp [Instr.sliceBound, asIntOf, h0, this, hn]

/-- Two bounds, without a third. -/
theorem sliceBounds_ok {isS : Bool} {len cap : Nat} {lo hi : Option Value} {a b : Nat} (hlo : BR 0 lo a) (hhi : BR len hi b) (hab : a ≤ b) (hbc : b ≤ cap) :
    (Instr.sliceBounds isS len cap lo hi none).run P w = .ok (a, b, cap) w := by
  cases lo with
  | none =>
    cases hi with
    | none => simp only [BR] at hlo hhi; subst hlo; subst hhi; simp [Instr.sliceBounds]
    | some y =>
      obtain ⟨k, i, hy, h0, hn⟩ := hhi
      simp only [BR] at hlo; subst hlo
      simp [Instr.sliceBounds, sliceBound_ok hy h0 hn hbc]
  | some z =>
    obtain ⟨k', i', hz, h0', hn'⟩ := hlo
    cases hi with
    | none => simp only [BR] at hhi; subst hhi; simp [Instr.sliceBounds, sliceBound_ok hz h0' hn' hab]
    | some y =>
      obtain ⟨k, i, hy, h0, hn⟩ := hhi
      simp [Instr.sliceBounds, sliceBound_ok hy h0 hn hbc, sliceBound_ok hz h0' hn' hab]

theorem slice_ok (hE : E.ok P) {t : TypeId} {x v : V} {xr : Value} {r : Res} {lo hi mx : Option V} {lor hir mxr : Option Value} (h : sliceV E t x lo hi mx = some v) (hx : Rep w l x B xr r)
    (h1 : OptRep w l B lo lor) (h2 : OptRep w l B hi hir) (h3 : OptRep w l B mx mxr) : ∃ z, (Instr.sliceAt t xr lor hir mxr).run P w = .ok z w ∧ Rep w l v B z nil0 := by
  unfold sliceV at h
  cases hk : kd E t with
  | none => simp [hk] at h
  | some kk =>
    have hk' := hE.kd hk
    rw [hk] at h
    split at h <;> try (simp at h; done)
    · rename_i e own es he
      cases he
      simp only [Kd.ok] at hk'
      cases hn : size E e with
      | none => simp [hn] at h
      | some n =>
        rw [hE.ar] at h
        simp only [hn, real, ← bound_real hE] at h
        cases hb : bound E hi es.length with
        | none => simp [hb] at h
        | some b =>
          cases ha : bound E lo 0 with
          | none => simp [hb, ha] at h
          | some a =>
            simp only [hb, ha, Option.map_if] at h
            split at h
            · rename_i hc
              cases h
              obtain ⟨hab, hbl, hhd⟩ := hc
              obtain ⟨hsz, hpos⟩ := hE.size hn w
              have hBa := bound_ok hE ha h1
              have hBb := bound_ok hE hb h2
              cases mxr with
              | some => exact h3.elim
              | none =>
                simp only [Rep] at hx
                obtain ⟨ad, cap, rfl, hx⟩ := hx
                have hlc : es.length ≤ cap := by
                  rcases hx with ⟨rfl, _⟩ | ⟨_, _, _, _, _, _, _, _, _, _, _, _, _, hcap, _⟩
                  · simp
                  · exact hcap
                have hsb := sliceBounds_ok (P := P) (w := w) (isS := true) hBa hBb hab (Nat.le_trans hbl hlc)
                refine ⟨.slice (if cap = a then ad else ad.map (·.add (a * n))) (b - a) (cap - a), ?_, ?_⟩
                · simp [Instr.sliceAt, Instr.slice, run_und hk', hsb, hsz]
                · simp only [Rep]
                  have hlen : ((es.drop a).take (b - a)).length = b - a := by rw [List.length_take, List.length_drop]; omega
                  refine ⟨_, cap - a, by rw [hlen], ?_⟩
                  by_cases hempty : a = b
                  · subst hempty
                    exact .inl ⟨by simp, fun _ => rfl, by simp⟩
                  · rcases hx with ⟨rfl, _⟩ | ⟨hne, bb, off, k, c, ty, fz, rfl, hcc, hkl, hLL, hs1, hs2, hcap, _⟩
                    · simp at hbl; omega
                    · have hkn : k = n := by
                        cases es with
                        | nil => simp at hne
                        | cons e0 es => simp at hhd; rw [← hhd]; exact (hkl e0 (by simp)).symm
                      subst hkn
                      have hca : cap ≠ a := by omega
                      refine .inr ⟨?_, bb, off + a * k, k, c, ty, fz, ?_, hcc, ?_, ?_, ?_, ?_, ?_, .inl ⟨trivial, fun _ => rfl⟩⟩
                      · intro h0; rw [h0] at hlen; simp at hlen; omega
                      · simp [hca, Addr.add_eq]
                      · exact fun e he => hkl e (List.mem_of_mem_drop (List.mem_of_mem_take he))
                      · have := RepLL.drop_take es _ k a (b - a) hkl hLL
                        rw [hlen] at this ⊢
                        rw [List.drop_take, List.drop_drop, List.take_take] at this
                        have hle : (b - a) * k ≤ es.length * k - a * k := by
                          rw [← Nat.sub_mul]; exact Nat.mul_le_mul_right _ (by omega)
                        rwa [Nat.min_eq_left hle] at this
                      · rw [hlen, Nat.add_assoc, ← Nat.add_mul]
                        have : (a + (b - a)) * k ≤ es.length * k := Nat.mul_le_mul_right _ (by omega)
                        omega
                      · rw [hlen, Nat.add_assoc, ← Nat.add_mul]
                        have : (a + (b - a)) * k ≤ es.length * k := Nat.mul_le_mul_right _ (by omega)
                        omega
                      · rw [hlen]; omega
            · simp at h
    · rename_i e own es m he
      cases he
      simp only [Kd.ok] at hk'
      cases hn : size E e with
      | none => simp [hn] at h
      | some n =>
        obtain ⟨hsz, hpos⟩ := hE.size hn w
        rw [hn] at h
        split at h <;> try (simp at h; done)
        rename_i n' hn' hm hb ha
        split at h
        · rename_i hsome
          cases h
          have hBa := bound_ok hE ha h1
          have hBb := bound_ok hE hb h2
          have hBm := bound_ok hE hm h3
          cases mxr with
          | none => exact h3.elim
          | some my =>
            cases hi with
            | none => simp at hsome
            | some hv =>
              cases hir with
              | none => exact h2.elim
              | some hy =>
                simp only [Rep] at hx
                obtain ⟨ad, cap, rfl, hx⟩ := hx
                obtain ⟨k1, i1, rfl, h01, hn1⟩ := hBm
                obtain ⟨k2, i2, rfl, h02, hn2⟩ := hBb
                have e1 : i1 = 0 := by omega
                have e2 : i2 = 0 := by omega
                subst e1; subst e2
                refine ⟨.slice ad 0 0, ?_, ?_⟩
                · cases lor with
                  | none => simp [Instr.sliceAt, Instr.slice, run_und hk', Instr.sliceBounds, Instr.sliceBound, asIntOf, hsz]
                  | some ly =>
                    obtain ⟨k3, i3, rfl, h03, hn3⟩ := hBa
                    have e3 : i3 = 0 := by omega
                    subst e3
                    simp [Instr.sliceAt, Instr.slice, run_und hk', Instr.sliceBounds, Instr.sliceBound, asIntOf, hsz]
                · simp only [Rep]
                  exact ⟨ad, 0, rfl, .inl ⟨trivial, fun _ => rfl, fun _ => rfl⟩⟩
        · simp at h
    · rename_i s he
      cases he
      simp only [Kd.ok] at hk'
      cases hb : bound E hi s.size with
      | none => simp [hb] at h
      | some b =>
        cases ha : bound E lo 0 with
        | none => simp [hb, ha] at h
        | some a =>
          simp only [hb, ha] at h
          split at h
          · rename_i hc
            cases h
            have hBa := bound_ok hE ha h1
            have hBb := bound_ok hE hb h2
            cases mxr with
            | some => exact h3.elim
            | none =>
              simp only [Rep] at hx
              obtain ⟨rfl, _⟩ := hx
              have hsb := sliceBounds_ok (P := P) (w := w) (isS := false) (cap := s.size) hBa hBb hc.1 hc.2
              exact ⟨.string (s.extract a b), by simp [Instr.sliceAt, Instr.slice, run_und hk', hsb], Rep.of_scalar⟩
          · simp at h

end
end Go.Vm
/- The evaluator by value: values that are built. -/
namespace Go.Vm
set_option linter.unusedSectionVars false
variable [Globs]
set_option linter.unusedVariables false
set_option linter.unusedSimpArgs false
section
variable {P : Program} {E : En} {w : World} {l : Lim} {B : BM} {ρ : Operand → Value}

theorem Rep.ofCell {v : Value} : Rep w l (ofCell v) B v nil0 := by
  unfold Vm.ofCell
  split
  · simp only [Rep]; exact ⟨none, 0, rfl, .inl ⟨trivial, fun _ => rfl, fun _ => rfl⟩⟩
  · exact Rep.of_scalar

theorem RepL.ofCells : ∀ (cs : List Value), RepL w l (cs.map Vm.ofCell) B cs nil0
  | [] => RepL.nil
  | c :: cs => RepL.cons Rep.ofCell (RepL.ofCells cs) (fun _ => rfl)

theorem cells_ofCell (z : Value) : (ofCell z).cells = [ofCell z] := by unfold Vm.ofCell; split <;> rfl

theorem RepL.ofConst {z : Value} : RepL w l (ofConst z).cells B z.cells.toList nil0 := by
  unfold Vm.ofConst
  split
  · simpa [V.cells, Value.cells] using RepL.ofCells _
  · rename_i hz
    rw [cells_ofCell]
    have : z.cells = #[z] := by unfold Value.cells; split <;> simp_all
    rw [this]
    exact RepL.cons Rep.ofCell RepL.nil (fun _ => rfl)

theorem Rep.ofConst {z : Value} (hf : z.cells.toList.all Value.oneCell' = true ∨ ∀ cs, z ≠ .agg cs) : Rep w l (ofConst z) B z nil0 := by
  unfold Vm.ofConst
  split
  · rename_i cs
    simp only [Rep]
    refine ⟨cs.toList, by simp, ?_, RepL.ofCells _⟩
    rcases hf with hf | hf
    · intro y hy; exact List.all_eq_true.1 hf y (by simpa [Value.cells] using hy)
    · exact absurd rfl (hf cs)
  · exact Rep.ofCell

theorem zero_ok (hE : E.ok P) {t : TypeId} {z : List V} (h : zeroCells E t = some z) : ∃ zr : Value, (zeroValue t).run P w = .ok zr w ∧ RepL w l z B zr.cells.toList nil0 ∧ flat zr.cells.toList ∧ (∃ n, size E t = some n ∧ z.length = n) := by
  unfold zeroCells at h
  cases hi : E.ty t with
  | none => simp [hi] at h
  | some i =>
    simp [hi] at h; subst h
    obtain ⟨info, zr, h1, h2, h3, h4, h5, h6, h7, h8, h9⟩ := hE.ty t i hi
    refine ⟨zr, by simp [zeroValue, run_tyInfo h1, h4], by rw [← h5]; exact RepL.ofConst, ?_, i.size, by simp [Vm.size, hi], h7⟩
    intro y hy
    exact List.all_eq_true.1 h6 y hy

/-- Parts are put over cells. -/
theorem foldl_set {vs : List Value} : ∀ (j : Nat) (cs : Array Value) (off : Nat), off + j + vs.length ≤ cs.size →
    ((vs.zipIdx j).foldl (fun cs (p : Value × Nat) => cs.setIfInBounds (off + p.2) p.1) cs).toList = cs.toList.take (off + j) ++ vs ++ cs.toList.drop (off + j + vs.length) := by
  induction vs with
  | nil => intro j cs off h; simp
  | cons v vs ih =>
    intro j cs off h
    simp only [List.length_cons] at h
    simp only [List.zipIdx_cons, List.foldl_cons]
    rw [ih (j + 1) _ off (by simp; omega)]
    simp only [Array.toList_setIfInBounds, List.length_cons]
    apply List.ext_getElem?
    intro k
    simp only [List.append_assoc, List.getElem?_append, List.length_take, List.length_set, Array.length_toList, List.length_append, List.length_cons]
    have e1 : min (off + (j + 1)) cs.size = off + j + 1 := by omega
    have e2 : min (off + j) cs.size = off + j := by omega
    rw [e1, e2]
    by_cases hk : k < off + j
    · have : k < off + j + 1 := by omega
      simp only [hk, this, if_true]
      rw [List.getElem?_take_of_lt (by omega), List.getElem?_take_of_lt hk, List.getElem?_set_ne (by omega)]
    · by_cases hk2 : k = off + j
      · subst hk2
        simp only [Nat.lt_irrefl, if_false, Nat.sub_self, List.length_cons]
        have : off + j < off + j + 1 := by omega
        simp only [this, if_true]
        rw [List.getElem?_take_of_lt (by omega), List.getElem?_set_self (by simp; omega)]
        simp
      · have hk3 : ¬ k < off + j + 1 := by omega
        simp only [hk, hk3, if_false]
        have e3 : k - (off + j) = (k - (off + j + 1)) + 1 := by omega
        rw [e3]
        by_cases hk4 : k - (off + j + 1) < vs.length
        · have : k - (off + j + 1) + 1 < vs.length + 1 := by omega
          simp [hk4, this]
        · have : ¬ k - (off + j + 1) + 1 < vs.length + 1 := by omega
          simp only [hk4, this, if_false]
          rw [List.getElem?_drop, List.getElem?_drop, List.getElem?_set_ne (by omega)]
          congr 1
          omega

theorem foldl_set0 {vs : Array Value} {cs : Array Value} {off : Nat} (h : off + vs.size ≤ cs.size) :
    (vs.zipIdx.foldl (fun cs (p : Value × Nat) => cs.setIfInBounds (off + p.2) p.1) cs).toList = cs.toList.take off ++ vs.toList ++ cs.toList.drop (off + vs.size) := by
  have := foldl_set (vs := vs.toList) 0 cs off (by simpa using h)
  simp only [Nat.add_zero, Array.length_toList] at this
  rw [← this, ← Array.foldl_toList]
  simp

/-- The cells of a value. -/
theorem Rep.cells {v : V} {x : Value} {r : Res} (h : Rep w l v B x r) (hb : okV v = true) : RepL w l v.cells B x.cells.toList r ∧ flat x.cells.toList := by
  have single : ∀ v : V, v.cells = [v] → Value.oneCell' x = true → Rep w l v B x r → RepL w l v.cells B x.cells.toList r ∧ flat x.cells.toList := by
    intro v hv ho hR
    have hx : x.cells = #[x] := by cases x <;> first | rfl | simp [Value.oneCell'] at ho
    rw [hv, hx]
    refine ⟨RepL.cons hR RepL.nil (fun b => by simp [nil0]), ?_⟩
    intro y hy; simp at hy; subst hy; exact ho
  cases v with
  | bad => simp [okV] at hb
  | agg cs =>
    simp only [Rep] at h
    obtain ⟨ys, rfl, hf, hL⟩ := h
    exact ⟨by simpa [V.cells, Value.cells] using hL, by simpa [Value.cells] using hf⟩
  | sc v =>
    have h' := h
    simp only [Rep] at h'
    obtain ⟨rfl, _⟩ := h'
    exact single _ rfl (by simpa [okV] using hb) h
  | tup vs => simp [okV] at hb
  | sl own es =>
    have h' := h
    simp only [Rep] at h'
    obtain ⟨a, cap, rfl, _⟩ := h'
    exact single _ rfl rfl h
  | vp cs =>
    have h' := h
    simp only [Rep] at h'
    obtain ⟨_, b, off, c, ty, fz, rfl, _⟩ := h'
    exact single _ rfl rfl h
  | ptr i off =>
    have h' := h
    simp only [Rep] at h'
    obtain ⟨_, b, _, rfl⟩ := h'
    exact single _ rfl rfl h

/-- Cells put over cells. -/
theorem RepL.splice {cs vs : List V} {ys zs : List Value} {r r' r1 : Res} {off : Nat} (h : RepL w l cs B ys r) (h' : RepL w l vs B zs r') (hle : off + vs.length ≤ cs.length) :
    ∃ r2 : Res, RepL w l (Vm.splice cs off vs) B (ys.take off ++ zs ++ ys.drop (off + zs.length)) (fun b => r' b + r2 b) ∧ Sub r2 r := by
  obtain ⟨ra, rb, h1, h2, h3⟩ := h.take off
  obtain ⟨rc, rd, h4, h5, h6⟩ := h2.take vs.length
  have hz := h'.length
  rw [List.drop_drop, List.drop_drop] at h5
  refine ⟨fun b => ra b + rd b, ?_, fun b => by have := h3 b; have := h6 b; simp only []; omega⟩
  unfold Vm.splice
  rw [hz]
  exact RepL.append (RepL.append h1 h' (fun _ => rfl)) h5 (fun b => by simp only []; omega)

theorem flat_append {a b : List Value} (h1 : flat a) (h2 : flat b) : flat (a ++ b) := fun y hy => (List.mem_append.1 hy).elim (h1 y) (h2 y)

theorem flat_take {a : List Value} (h1 : flat a) (n : Nat) : flat (a.take n) := fun y hy => h1 y (List.mem_of_mem_take hy)
theorem flat_drop {a : List Value} (h1 : flat a) (n : Nat) : flat (a.drop n) := fun y hy => h1 y (List.mem_of_mem_drop hy)

theorem splice_length {cs vs : List V} {off : Nat} (h : off + vs.length ≤ cs.length) : (Vm.splice cs off vs).length = cs.length := by
  unfold Vm.splice; simp; omega

/-- The parts of a struct. -/
theorem fillV_ok {place : Nat → Option (Nat × Nat)} : ∀ (vs : List V) (xs : List Value) (is : List Nat) (cs z : List V) (cr : Array Value), fillV place cs (is.zip (vs.map erase)) = some z → Opd w l B vs xs →
    RepL w l cs B cr.toList nil0 → flat cr.toList → is.length = vs.length → ∃ zr, Instr.fill place cr (is.zip xs) = some zr ∧ RepL w l z B zr.toList nil0 ∧ flat zr.toList ∧ z.length = cs.length
  | [], xs, is, cs, z, cr, h, ho, hL, hf, hi => by
    have : is = [] := by cases is <;> simp at hi ⊢
    subst this
    simp [fillV] at h; subst h
    exact ⟨cr, by simp [Instr.fill], hL, hf, rfl⟩
  | v :: vs, xs, is, cs, z, cr, h, ho, hL, hf, hi => by
    cases is with
    | nil => simp at hi
    | cons i is =>
      cases xs with
      | nil => simp [Opd] at ho
      | cons x xs =>
        simp only [Opd] at ho
        obtain ⟨⟨r, hv⟩, ho⟩ := ho
        simp only [List.map_cons, List.zip_cons_cons, fillV] at h
        cases hp : place i with
        | none => simp [hp] at h
        | some q =>
          obtain ⟨off, n⟩ := q
          simp only [hp] at h
          split at h
          · rename_i hc
            obtain ⟨hn, hok, hle⟩ := hc
            obtain ⟨hcL, hcf⟩ := (Rep.erase v B x r hv).cells hok
            have hsz : x.cells.size = n := by have := hcL.length; simp at this; omega
            have hszc : cr.size = cs.length := by have := hL.length; simpa using this
            have hle' : off + x.cells.size ≤ cr.size := by omega
            obtain ⟨r2, hsp, hsub⟩ := hL.splice (r1 := nil0) hcL (by omega : off + (erase v).cells.length ≤ cs.length)
            have hfold := foldl_set0 hle'
            have hsp' : RepL w l (Vm.splice cs off (erase v).cells) B (x.cells.zipIdx.foldl (fun cs (p : Value × Nat) => cs.setIfInBounds (off + p.2) p.1) cr).toList nil0 := by
              rw [hfold]
              have : x.cells.toList.length = x.cells.size := by simp
              rw [this] at hsp
              exact RepL.res (fun b => by have := hsub b; simp [nil0] at this ⊢; omega) hsp
            obtain ⟨zr, hz1, hz2, hz3, hz4⟩ := fillV_ok vs xs is _ z _ h ho hsp' (by rw [hfold]; exact flat_append (flat_append (flat_take hf _) hcf) (flat_drop hf _)) (by simpa using hi)
            refine ⟨zr, ?_, hz2, hz3, by rw [hz4]; exact splice_length (by omega)⟩
            simp only [List.zip_cons_cons, Instr.fill, hp]
            have hcond : ¬ (x.cells.size ≠ n ∨ off + x.cells.size > cr.size) := by omega
            simp only [bne_iff_ne, ne_eq, Bool.or_eq_true, decide_eq_true_eq]
            rw [if_neg (by simpa using hcond)]
            exact hz1
          · simp at h

end
end Go.Vm
/- The evaluator by value: structs and arrays that are built; all operations that change nothing. -/
namespace Go.Vm
set_option linter.unusedSectionVars false
variable [Globs]
set_option linter.unusedVariables false
set_option linter.unusedSimpArgs false
section
variable {P : Program} {E : En} {w : World} {l : Lim} {B : BM} {ρ : Operand → Value}

theorem run_mapM {α β : Type} (f : α → Sem β) (g : α → β) : ∀ (xs : List α), (∀ x ∈ xs, (f x).run P w = .ok (g x) w) → (xs.mapM f).run P w = .ok (xs.map g) w
  | [], _ => by simp
  | x :: xs, h => by
    simp only [List.mapM_cons, Sem.run_bind, h x (by simp), Result.andThen_ok, run_mapM f g xs (fun y hy => h y (by simp [hy])), Sem.run_pure, List.map_cons]

theorem run_mapMA {α β : Type} (f : α → Sem β) (g : α → β) (xs : Array α) (h : ∀ x ∈ xs.toList, (f x).run P w = .ok (g x) w) : (xs.mapM f).run P w = .ok (xs.map g) w := by
  obtain ⟨l⟩ := xs
  have := run_mapM f g l h
  rw [List.mapM_toArray]
  simp [Functor.map, Sem.run_bind', this]

def szOf (P : Program) (t : TypeId) : Nat := match P.info? t with | some i => i.size | none => 0

theorem build_ok (hE : E.ok P) {t : TypeId} {parts : Array (Nat × Operand)} {vs : List V} {v : V} (h : pureAct E ⟨⟨none, .build t parts, 0, "", #[], none⟩, 0, none, false, none⟩ vs = some v) (ho : Opd w l B vs (parts.toList.map fun p => ρ p.2)) :
    ∃ z, (Instr.build t (parts.map fun (i, x) => (i, ρ x))).run P w = .ok z w ∧ Rep w l v B z nil0 := by
  simp only [pureAct] at h
  have hzip : ((parts.map fun (i, x) => (i, ρ x)).toList) = (parts.toList.map (·.1)).zip (parts.toList.map fun p => ρ p.2) := by
    rw [Array.toList_map, List.zip_map', List.map_inj_left]
    intro a _; rfl
  have hlen : (parts.toList.map (·.1)).length = vs.length := by
    have : ∀ (vs : List V) (xs : List Value), Opd w l B vs xs → xs.length = vs.length := by
      intro vs
      induction vs with
      | nil => intro xs h; cases xs <;> simp [Opd] at h ⊢
      | cons v vs ih => intro xs h; cases xs with | nil => simp [Opd] at h | cons x xs => simp only [Opd] at h; simp [ih xs h.2]
    have := this vs _ ho
    simpa using this
  cases hk : kd E t with
  | none => simp [hk] at h
  | some kk =>
    have hk' := hE.kd hk
    rw [hk] at h
    split at h <;> try (simp at h; done)
    · rename_i fs _ z he hz
      cases he
      obtain ⟨fields, hu, hfs, hinf, hok⟩ := hk'
      obtain ⟨zr, hzr, hzL, hzf, _⟩ := zero_ok (w := w) (l := l) (B := B) hE hz
      obtain ⟨zz, hzz, rfl⟩ : ∃ zz, fillV _ z ((parts.toList.map (·.1)).zip (vs.map erase)) = some zz ∧ V.agg zz = v := by
        cases hf : fillV _ z ((parts.toList.map (·.1)).zip (vs.map erase)) with
        | none => rw [hf] at h; simp at h
        | some zz => rw [hf] at h; exact ⟨zz, hf, by simpa using h⟩
      have hpl : (fields.mapM fun f => do pure (f.offset, ← sizeOf f.type) : Sem _).run P w = .ok (fields.map fun f => (f.offset, szOf P f.type)) w := by
        refine run_mapMA _ _ _ fun f hf => ?_
        have := List.all_eq_true.1 hinf f hf
        cases hi : P.info? f.type with
        | none => simp [hi] at this
        | some i => simp [run_sizeOf hi, szOf, hi]
      have hplace : ∀ (i off n : Nat), (match fs[i]? with | some (off, ft) => (match size E ft with | some n => some (off, n) | none => none) | none => none) = some (off, n) → (fields.map fun f => (f.offset, szOf P f.type))[i]? = some (off, n) := by
        intro i off n hi
        rw [← hfs] at hi
        simp only [List.getElem?_map, Array.getElem?_toList] at hi
        rw [Array.getElem?_map]
        cases hfi : fields[i]? with
        | none => simp [hfi] at hi
        | some fd =>
          simp only [hfi, Option.map_some] at hi ⊢
          cases hs : size E fd.type with
          | none => simp [hs] at hi
          | some m =>
            simp only [hs, Option.some.injEq, Prod.mk.injEq] at hi
            obtain ⟨rfl, rfl⟩ := hi
            have := (hE.size hs w).1
            unfold Vm.size at hs
            cases hti : E.ty fd.type with
            | none => simp [hti] at hs
            | some ti =>
              simp [hti] at hs
              obtain ⟨info, hinfo, hsz⟩ := hE.info hti
              simp [szOf, hinfo, hsz, hs]
      have mono : ∀ (p1 p2 : Nat → Option (Nat × Nat)), (∀ i q, p1 i = some q → p2 i = some q) → ∀ (ps : List (Nat × V)) (c z : List V), fillV p1 c ps = some z → fillV p2 c ps = some z := by
        intro p1 p2 hp ps
        induction ps with
        | nil => intro c z h; simpa [fillV] using h
        | cons q ps ih =>
          intro c z h
          obtain ⟨i, u⟩ := q
          simp only [fillV] at h ⊢
          cases hpi : p1 i with
          | none => simp [hpi] at h
          | some oq =>
            rw [hp i oq hpi]
            simp only [hpi] at h
            obtain ⟨o, m⟩ := oq
            simp only at h ⊢
            split at h
            · rename_i hc; rw [if_pos hc]; exact ih _ _ h
            · simp at h
      have hzz' := mono _ (fun i => (fields.map fun f => (f.offset, szOf P f.type))[i]?) (fun i q hq => hplace i q.1 q.2 hq) _ _ _ hzz
      obtain ⟨cr, hcr, hcL, hcf, _⟩ := fillV_ok vs _ _ z zz zr.cells hzz' ho hzL hzf hlen
      refine ⟨.agg cr, ?_, ?_⟩
      · simp only [Instr.build, Sem.run_bind, hzr, Result.andThen_ok, run_und hu, hpl]
        rw [hzip]
        simp only [hcr, Sem.run_pure]
      · simp only [Rep]; exact ⟨cr.toList, by simp, hcf, hcL⟩
    · rename_i n e z he hz
      cases he
      simp only [Kd.ok] at hk'
      obtain ⟨zr, hzr, hzL, hzf, _⟩ := zero_ok (w := w) (l := l) (B := B) hE hz
      cases hs : size E e with
      | none => simp [hs] at h
      | some m =>
        simp only [hs] at h
        obtain ⟨zz, hzz, rfl⟩ : ∃ zz, fillV (fun i => some (i * m, m)) z ((parts.toList.map (·.1)).zip (vs.map erase)) = some zz ∧ V.agg zz = v := by
          cases hf : fillV (fun i => some (i * m, m)) z ((parts.toList.map (·.1)).zip (vs.map erase)) with
          | none => rw [hf] at h; simp at h
          | some zz => rw [hf] at h; exact ⟨zz, rfl, by simpa using h⟩
        obtain ⟨cr, hcr, hcL, hcf, _⟩ := fillV_ok vs _ _ z zz zr.cells hzz ho hzL hzf hlen
        refine ⟨.agg cr, ?_, ?_⟩
        · simp only [Instr.build, Sem.run_bind, hzr, Result.andThen_ok, run_und hk', (hE.size hs w).1]
          rw [hzip]
          simp only [hcr, Sem.run_pure]
        · simp only [Rep]; exact ⟨cr.toList, by simp, hcf, hcL⟩


theorem Same.of {s : Sem Value} {v : V} (h : ∃ z, s.run P w = .ok z w ∧ Rep w l v B z nil0) : Same w l B ((do pure (Next.value (← s)) : Sem Next).run P w) v := by
  obtain ⟨z, hz, hR⟩ := h
  exact ⟨z, by simp [hz], hR⟩

theorem run_loadCellsFrom {b off : Nat} {c : Array Value} {ty fz} (hc : w.heap[b]? = some (.cells c ty fz)) : ∀ (n i : Nat) (acc : Array Value), off + i + n ≤ c.size →
    (loadCellsFrom ⟨b, off, none⟩ i n acc).run P w = .ok (acc ++ ((c.toList.drop (off + i)).take n).toArray) w
  | 0, i, acc, h => by simp [loadCellsFrom]
  | n + 1, i, acc, h => by
    have hcell : w.cell? ⟨b, off + i, none⟩ = some c[off + i] := by simp [World.cell?, hc]
    simp only [loadCellsFrom, Sem.run_bind, Addr.add_eq, run_load, hcell, Result.andThen_ok]
    rw [run_loadCellsFrom hc n (i + 1) _ (by omega)]
    congr 1
    have : (c.toList.drop (off + i)).take (n + 1) = c[off + i] :: (c.toList.drop (off + (i + 1))).take n := by
      rw [List.drop_eq_getElem_cons (by simp; omega)]
      simp [Nat.add_assoc]
    rw [this]
    apply Array.ext'
    simp

theorem run_loadCells {b off n : Nat} {c : Array Value} {ty fz} (hc : w.heap[b]? = some (.cells c ty fz)) (h : off + n ≤ c.size) :
    (loadCells ⟨b, off, none⟩ n).run P w = .ok ((c.toList.drop off).take n).toArray w := by
  simp only [loadCells]
  rw [run_loadCellsFrom hc n 0 #[] (by omega)]
  simp

/-- A load is a part of a row of cells. -/
theorem load_part (hE : E.ok P) {t : TypeId} {cs : List V} {o b off n : Nat} {c : Array Value} {ty fz} {u : V} {z : Value} (hc : w.heap[b]? = some (.cells c ty fz)) (h1 : off + n ≤ c.size) (hlen : ((c.toList.drop off).take n).length = cs.length)
    (hz : (Go.part t ((c.toList.drop off).take n).toArray o).run P w = .ok z w) (hp : Vm.part E t cs o = some u) : (loadVar t ⟨b, off + o, none⟩).run P w = .ok z w := by
  unfold Vm.part at hp
  cases hi : E.ty t with
  | none => simp [hi] at hp
  | some i =>
    obtain ⟨info, z', h1', h2, h3, h4, h5, h6, h7, h8, h9⟩ := hE.ty t i hi
    simp only [hi] at hp
    have hd : ∃ d, P.underlying t = some d ∧ (isA d = true → o + i.size ≤ cs.length) := by
      cases hk : i.kd <;> rw [hk] at h9 hp <;> simp only [Kd.ok] at h9
      case struct =>
        obtain ⟨f, hf, _⟩ := h9
        refine ⟨_, hf, fun _ => ?_⟩
        simp at hp; exact hp.1
      case array =>
        refine ⟨_, h9, fun _ => ?_⟩
        simp at hp; exact hp.1
      case other =>
        obtain ⟨d, hd, ha, hb⟩ := h9
        refine ⟨d, hd, fun h => ?_⟩
        cases d <;> simp [isA] at h
        · exact absurd rfl (hb _ _)
        · exact absurd rfl (ha _)
      all_goals exact ⟨_, h9, fun h => by simp [isA] at h⟩
    obtain ⟨d, hd, hlt⟩ := hd
    simp only [Go.part, Sem.run_bind, run_isAgg hd, Result.andThen_ok] at hz
    simp only [loadVar, Sem.run_bind, run_isAgg hd, Result.andThen_ok]
    have hn : n = cs.length := by
      rw [← hlen, List.length_take, List.length_drop, Array.length_toList]; omega
    cases ha : isA d with
    | true =>
      have hle := hlt ha
      simp only [ha, if_true, Sem.run_bind, run_sizeOf h1', Result.andThen_ok, Sem.run_pure] at hz ⊢
      rw [run_loadCells hc (by omega)]
      simp only [Result.andThen_ok]
      rw [← hz]
      congr 2
      apply Array.ext'
      simp [List.extract_eq_take_drop, List.drop_take, List.take_take]
      omega
    | false =>
      simp only [ha, Bool.false_eq_true, if_false] at hz ⊢
      have hce : ((c.toList.drop off).take n)[o]? = w.cell? ⟨b, off + o, none⟩ ∨ ((c.toList.drop off).take n)[o]? = none := by
        by_cases ho : o < n
        · left
          rw [List.getElem?_take_of_lt ho, List.getElem?_drop]
          simp [World.cell?, hc]
        · right; rw [List.getElem?_take_eq_none (by omega)]
      simp only [List.getElem?_toArray] at hz
      rcases hce with hce | hce
      · rw [hce] at hz
        rw [run_load]
        cases hcell : w.cell? ⟨b, off + o, none⟩ with
        | none => rw [hcell] at hz; simp at hz
        | some y => rw [hcell] at hz; simpa using hz
      · rw [hce] at hz; simp at hz

theorem load_vp (hE : E.ok P) {t : TypeId} {cs : List V} {v : V} {xr : Value} {r : Res} (h : (part E t cs 0).map erase = some v) (hx : Rep w l (.vp cs) B xr r) : ∃ z, (Instr.loadAt t xr).run P w = .ok z w ∧ Rep w l v B z nil0 := by
  simp only [Rep] at hx
  obtain ⟨_, b, off, c, ty, fz, rfl, hc, h1, h2, hf, hL⟩ := hx
  cases hp : part E t cs 0 with
  | none => simp [hp] at h
  | some u =>
    simp [hp] at h; subst h
    obtain ⟨z, r', hz, hR, _⟩ := part_ok (P := P) hE hp hL hf
    refine ⟨z, ?_, Rep.erase _ _ _ _ (hR.more (fun i b h => by simp at h))⟩
    have := load_part (P := P) (t := t) (n := cs.length) hE hc h1 (by rw [hL.length]) hz (E := E) (cs := cs) hp
    simpa [Instr.loadAt, Instr.sureAddr] using this

/-- Operations that are neither taken over, nor new. -/
theorem pure_ok (hE : E.ok P) {p : PO} {vs : List V} {v : V} (h : pureAct E p vs = some v) (htk : ∀ x, p.o.op = .move x → p.take = false) (ha : ∀ x, p.o.op ≠ .assign x) (hn : isNew p.o = false) (hb : ∀ t n ps, p.o.op ≠ .buildSlice t n ps)
    (hap : ∀ as ts, p.o.op ≠ .call ⟨.builtin .append, as, ts⟩) (ho : Opd w l B vs (p.o.op.operands.toList.map ρ)) : Same w l B ((execOp ρ p.o).run P w) v := by
  obtain ⟨⟨dst, op, ty, pos, after, guard⟩, id, g, take⟩ := p
  simp only at htk ha hn hb hap ho
  cases op <;> simp only [pureAct] at h
  case move x =>
    split at h <;> try (simp at h; done)
    have ht' := htk x rfl
    subst ht'
    simp at h; subst h
    simp [Op.operands, Opd] at ho
    obtain ⟨r, hx⟩ := ho
    exact ⟨ρ x, by simp [execOp], Rep.erase _ _ _ _ hx⟩
  case assign x => exact absurd rfl (ha x)
  case alloc => simp [isNew] at hn
  case box => simp [isNew] at hn
  case buildSlice => exact absurd rfl (hb _ _ _)
  case pick c a b =>
    split at h <;> try (simp at h; done)
    rename_i cv av bv
    simp at h; subst h
    simp [Op.operands, Opd] at ho
    obtain ⟨⟨r1, hc⟩, ⟨r2, hA⟩, r3, hB⟩ := ho
    simp only [Rep] at hc
    obtain ⟨hc, _⟩ := hc
    refine ⟨if cv then ρ a else ρ b, by simp [execOp, asBool, hc], ?_⟩
    cases cv
    · exact Rep.erase _ _ _ _ hB
    · exact Rep.erase _ _ _ _ hA
  case build t parts =>
    have hb' := build_ok (P := P) (w := w) (l := l) (B := B) (ρ := ρ) (t := t) (parts := parts) (vs := vs) (v := v) hE (by simpa [pureAct] using h) (by simpa [Op.operands, Function.comp_def] using ho)
    simpa [execOp] using Same.of hb'
  case load t x =>
    split at h <;> try (simp at h; done)
    simp [Op.operands, Opd] at ho
    obtain ⟨r, hx⟩ := ho
    simpa [execOp] using Same.of (load_vp hE h hx)
  case nilCheck x =>
    split at h <;> try (simp at h; done)
    · simp at h; subst h
      simp [Op.operands, Opd] at ho
      obtain ⟨r, hx⟩ := ho
      have hx' := hx
      simp only [Rep] at hx'
      obtain ⟨h0, b, hb, hxe⟩ := hx'
      exact ⟨ρ x, by simp [execOp, hxe], Rep.sub0 hx h0⟩
    · simp at h; subst h
      simp [Op.operands, Opd] at ho
      obtain ⟨r, hx⟩ := ho
      have hx' := hx
      simp only [Rep] at hx'
      obtain ⟨h0, b, off, c, ty', fz, hxe, _⟩ := hx'
      exact ⟨ρ x, by simp [execOp, hxe], Rep.sub0 hx h0⟩
  case binOp op t x y ty' =>
    split at h <;> try (simp at h; done)
    simp [Op.operands, Opd] at ho
    obtain ⟨⟨r1, hx⟩, r2, hy⟩ := ho
    have := binV_ok (P := P) (ox := x) (oy := y) hE h hx hy
    simpa [execOp] using Same.of this
  case unOp op t x =>
    split at h <;> try (simp at h; done)
    rename_i a
    simp [Op.operands, Opd] at ho
    obtain ⟨r1, hx⟩ := ho
    simp only [Rep] at hx
    obtain ⟨hx, _⟩ := hx
    rw [hE.ar] at h
    cases hu : un real op a with
    | none => simp [hu] at h
    | some z =>
      simp [hu] at h; subst h
      simpa [execOp] using Same.of ⟨z, by rw [hx]; exact run_un hu, Rep.of_scalar⟩
  case convert src dst' x =>
    split at h <;> try (simp at h; done)
    rename_i k n
    simp [Op.operands, Opd] at ho
    obtain ⟨r1, hx⟩ := ho
    simp only [Rep] at hx
    obtain ⟨hx, _⟩ := hx
    rw [hE.ar] at h
    cases hs : kd E src with
    | none => simp [hs] at h
    | some ks =>
      cases hd : kd E dst' with
      | none => simp [hs, hd] at h
      | some kd' =>
        have hd' := hE.kd hd
        have hs' := hE.kd hs
        have hsu : ∃ d, P.underlying src = some d := by
          cases ks <;> simp only [Kd.ok] at hs'
          case struct => obtain ⟨f, hf, _⟩ := hs'; exact ⟨_, hf⟩
          case other => obtain ⟨d, hd, _⟩ := hs'; exact ⟨_, hd⟩
          all_goals exact ⟨_, hs'⟩
        obtain ⟨d, hsu⟩ := hsu
        simp only [hs, hd] at h
        cases kd' <;> simp at h
        subst h
        simp only [Kd.ok] at hd'
        simpa [execOp] using Same.of (s := convert src dst' (ρ x)) ⟨_, by rw [hx]; simp [convert, run_und hsu, run_und hd', Conv.intToInt, real], Rep.of_scalar⟩
  case fieldAddr t x f =>
    split at h <;> try (simp at h; done)
    rename_i xv
    simp [Op.operands, Opd] at ho
    obtain ⟨r1, hx⟩ := ho
    cases hf : field E t f with
    | none => simp [hf] at h
    | some q =>
      obtain ⟨off, ft⟩ := q
      simp only [hf] at h
      cases hs : size E ft with
      | none => simp [hs] at h
      | some n =>
        have h' : faV xv off = some v := by
          rw [hs] at h
          cases n <;> cases xv <;> simp_all [faV]
        simpa [execOp] using Same.of (fieldAddr_ok hE hf hs h' hx)
  case indexAddr t x i =>
    split at h <;> try (simp at h; done)
    rename_i xv k n
    simp [Op.operands, Opd] at ho
    obtain ⟨⟨r1, hx⟩, r2, hi⟩ := ho
    simp only [Rep] at hi
    obtain ⟨hi, _⟩ := hi
    have := indexAddr_ok (P := P) (k := k) (i := n) hE h hx
    rw [← hi] at this
    simpa [execOp] using Same.of this
  case field t x f =>
    split at h <;> try (simp at h; done)
    rename_i cs
    simp [Op.operands, Opd] at ho
    obtain ⟨r1, hx⟩ := ho
    simp only [Rep] at hx
    obtain ⟨ys, hx, hfl, hL⟩ := hx
    cases hf : field E t f with
    | none => simp [hf] at h
    | some q =>
      obtain ⟨off, ft⟩ := q
      simp only [hf] at h
      cases hp : part E ft cs off with
      | none => simp [hp] at h
      | some u =>
        simp [hp] at h; subst h
        obtain ⟨fields, fd, hu, hfd, rfl, rfl⟩ := field_ok hE hf
        obtain ⟨z, r', hz, hR, _⟩ := part_ok hE hp hL hfl
        simpa [execOp] using Same.of (s := Instr.field t (ρ x) f) ⟨z, by simp [Instr.field, run_und hu, hfd, hx, asAgg, hz], Rep.erase _ _ _ _ hR⟩
  case index t x i =>
    split at h <;> try (simp at h; done)
    rename_i xv k n
    simp [Op.operands, Opd] at ho
    obtain ⟨⟨r1, hx⟩, r2, hi⟩ := ho
    simp only [Rep] at hi
    obtain ⟨hi, _⟩ := hi
    rw [idxV_ok hE] at h
    cases hk : kd E t with
    | none => simp [hk] at h
    | some kk =>
      have hk' := hE.kd hk
      rw [hk] at h
      split at h <;> try (simp at h; done)
      rotate_left
      · rename_i s he
        cases he
        simp only [Kd.ok] at hk'
        rw [hE.ar] at h
        simp only [real] at h
        simp only [Rep] at hx
        obtain ⟨hx, _⟩ := hx
        cases hb : (if 0 ≤ n then s[n.toNat]? else none) with
        | none => simp [hb] at h
        | some b =>
          simp only [hb, Option.some.injEq] at h
          subst h
          simpa [execOp] using Same.of (s := Instr.index t (ρ x) (ρ i)) ⟨_, by simp [Instr.index, hi, asIntOf, run_und hk', hx, hb], Rep.of_scalar⟩
      rename_i m e cs he
      cases he
      simp only [Kd.ok] at hk'
      cases hj : real.idx n with
      | none => simp [hj] at h
      | some j =>
        obtain ⟨hi0, rfl⟩ := idx_ok hj
        cases hs : size E e with
        | none => simp [hj, hs] at h
        | some kz =>
          simp only [hj, hs] at h
          split at h <;> try (simp at h; done)
          rename_i hlt
          simp only [Rep] at hx
          obtain ⟨ys, hx, hfl, hL⟩ := hx
          cases hp : part E e cs (n.toNat * kz) with
          | none => simp [hp] at h
          | some u =>
            simp [hp] at h; subst h
            obtain ⟨z, r', hz, hR, _⟩ := part_ok hE hp hL hfl
            have : n < (m : Int) := by omega
            simpa [execOp] using Same.of (s := Instr.index t (ρ x) (ρ i)) ⟨z, by simp [Instr.index, hi, asIntOf, run_und hk', hx, hi0, this, (hE.size hs w).1, hz], Rep.erase _ _ _ _ hR⟩
  case extract x i =>
    split at h <;> try (simp at h; done)
    rename_i us
    simp [Op.operands, Opd] at ho
    obtain ⟨r1, hx⟩ := ho
    simp only [Rep] at hx
    obtain ⟨ys, hx, hL⟩ := hx
    cases hu : us[i]? with
    | none => simp [hu] at h
    | some u =>
      simp [hu] at h; subst h
      obtain ⟨y, s1, s2, hy, hR, _⟩ := hL.at hu
      simpa [execOp] using Same.of (s := Instr.extract (ρ x) i) ⟨y, by simp [Instr.extract, hx, hy], Rep.erase _ _ _ _ hR⟩
  case slice t x lo hi mx =>
    have key : ∀ (xv : V) (lov hiv mxv : Option V), sliceV E t xv lov hiv mxv = some v → (∃ r, Rep w l xv B (ρ x) r) → OptRep w l B lov (lo.map ρ) → OptRep w l B hiv (hi.map ρ) → OptRep w l B mxv (mx.map ρ) →
        Same w l B ((execOp ρ ⟨dst, .slice t x lo hi mx, ty, pos, after, guard⟩).run P w) v := by
      intro xv lov hiv mxv hs ⟨r, hx⟩ h1 h2 h3
      simpa [execOp] using Same.of (slice_ok hE hs hx h1 h2 h3)
    cases lo <;> cases hi <;> cases mx <;> simp only [Option.isSome] at h <;> (try (simp at h; done)) <;> split at h <;> (try (simp at h; done)) <;> (try contradiction) <;> simp [Op.operands, Opd] at ho
    · exact key _ none none none h ho trivial trivial trivial
    · exact key _ none (some _) none h ho.1 trivial ho.2 trivial
    · exact key _ (some _) none none h ho.1 ho.2 trivial trivial
    · exact key _ (some _) (some _) none h ho.1 ho.2.1 ho.2.2 trivial
    · exact key _ (some _) (some _) (some _) h ho.1 ho.2.1 ho.2.2.1 ho.2.2.2
  case call c =>
    obtain ⟨callee, args, ts⟩ := c
    cases callee with
    | value f => simp at h
    | invoke r m => simp at h
    | builtin b =>
      simp only at h
      simp [Op.operands, Call.operands] at ho
      have hex : ∀ (s : Sem Value), (∀ consts, builtin b ts ty consts (args.map ρ) = (do pure (Next.value (← s)))) → (∃ z, s.run P w = .ok z w ∧ Rep w l v B z nil0) →
          Same w l B ((execOp ρ ⟨dst, .call ⟨.builtin b, args, ts⟩, ty, pos, after, guard⟩).run P w) v := by
        intro s hs hz
        have := Same.of hz
        simp only [execOp, resolve, Sem.run_bind, Sem.run_pure, Result.andThen_ok, invoke]
        rw [hs]; exact this
      have hargs : ∀ (xs : List Value), args.toList.map ρ = xs → args.map ρ = xs.toArray := by
        intro xs hx; rw [← hx]; apply Array.ext'; rw [Array.toList_map]
      unfold builtinV at h
      split at h <;> (try (simp at h; done))
      · rename_i t x ht
        have h1 : ∃ y, args.toList.map ρ = [y] ∧ ∃ r, Rep w l x B y r := by
          cases hal : args.toList.map ρ with
          | nil => rw [hal] at ho; simp [Opd] at ho
          | cons y ys => cases ys with
            | nil => rw [hal] at ho; simp [Opd] at ho; exact ⟨y, rfl, ho⟩
            | cons => rw [hal] at ho; simp [Opd] at ho
        obtain ⟨y, hy, r, hR⟩ := h1
        obtain ⟨hl1, z, rfl⟩ := len_ok (P := P) (ty := ty) hE h ht hR
        refine hex (Builtin.len_ ts ty (args.map ρ)) (fun _ => rfl) ⟨z, ?_, Rep.of_scalar⟩
        rw [hargs _ hy]; exact hl1
      · rename_i x rest
        cases hf : foldV (min2 E.ar) x rest with
        | none => simp [hf] at h
        | some z =>
          simp [hf] at h; subst h
          cases hal : args.toList.map ρ with
          | nil => rw [hal] at ho; simp [Opd] at ho
          | cons y ys =>
            rw [hal] at ho
            simp only [Opd] at ho
            obtain ⟨⟨r, hxr⟩, ho⟩ := ho
            simp only [Rep] at hxr
            obtain ⟨rfl, _⟩ := hxr
            rw [hE.ar] at hf
            refine hex (Builtin.min_ ts ty (args.map ρ)) (fun _ => rfl) ⟨z, ?_, Rep.of_scalar⟩
            rw [hargs _ hal]
            simpa [Builtin.min_] using foldV_ok (P := P) (fun a b v => run_min2) rest y ys z hf ho
      · rename_i x rest
        cases hf : foldV (max2 E.ar) x rest with
        | none => simp [hf] at h
        | some z =>
          simp [hf] at h; subst h
          cases hal : args.toList.map ρ with
          | nil => rw [hal] at ho; simp [Opd] at ho
          | cons y ys =>
            rw [hal] at ho
            simp only [Opd] at ho
            obtain ⟨⟨r, hxr⟩, ho⟩ := ho
            simp only [Rep] at hxr
            obtain ⟨rfl, _⟩ := hxr
            rw [hE.ar] at hf
            refine hex (Builtin.max_ ts ty (args.map ρ)) (fun _ => rfl) ⟨z, ?_, Rep.of_scalar⟩
            rw [hargs _ hal]
            simpa [Builtin.max_] using foldV_ok (P := P) (fun a b v => run_max2) rest y ys z hf ho
      · exact absurd rfl (hap _ _)
  all_goals simp at h
end
end Go.Vm
