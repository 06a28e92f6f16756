/- The abstract machine: a functional reading of the translated code over plain data, with variables in a small heap of its own. Definitions alone. -/
import GoSem.Machine.Return
namespace Go.Ab

/-- Plain data: one atomic value; a list (what a slice shows); the cells of a struct or an array. -/
inductive D where
  | v (x : Value)
  | list (xs : List D)
  | agg (cs : List D)
  deriving Inhabited

def D.cells : D → List D
  | .agg cs => cs
  | x => [x]
def D.isAgg : D → Bool
  | .agg _ => true
  | _ => false

/-- Where a slice variable lies: a slot of the frame, or a cell of a variable in memory. -/
inductive Place where
  | slot (t : Nat)
  | cell (o off : Nat)
  deriving DecidableEq, Inhabited

/-- What a temporary or a cell holds. -/
inductive AV where
  | undef
  | skipped
  | d (x : D)
  | own (xs : List D) (lent : Bool)
  | loc (p : Place)
  | elt (p : Place) (i off : Nat)
  | ptr (o off : Nat)
  | view (cs : List D)
  | fn (f : Nat) (caps : List (Nat × Nat))
  | agg (cs : List AV)
  | tup (vs : List AV)
  deriving Inhabited

abbrev Env := List (Nat × AV)
abbrev Heap := List (List AV)

def get : Env → Nat → AV
  | [], _ => .undef
  | (k, v) :: r, t => if k = t then v else get r t
def setE : Env → Nat → AV → Env
  | [], t, v => [(t, v)]
  | (k, u) :: r, t, v => if t < k then (t, v) :: (k, u) :: r else if t = k then (t, v) :: r else (k, u) :: setE r t v
def eraseE : Env → Nat → Env
  | [], _ => []
  | (k, u) :: r, t => if k = t then eraseE r t else (k, u) :: eraseE r t
def clearE (e : Env) : List Nat → Env
  | [] => e
  | t :: r => clearE (eraseE e t) r

def AV.placed : AV → Bool
  | .loc _ | .elt .. => true
  | _ => false
def AV.isOwn : AV → Bool
  | .own .. => true
  | _ => false
def killPlaced : Env → Env
  | [] => []
  | (k, v) :: r => if v.placed then eraseE (killPlaced r) k else (k, v) :: killPlaced r

def AV.sitsAt (t : Nat) : AV → Bool
  | .loc (.slot u) => u == t
  | .elt (.slot u) _ _ => u == t
  | _ => false
def killAt (t : Nat) : Env → Env
  | [] => []
  | (k, v) :: r => if v.sitsAt t then eraseE (killAt t r) k else (k, v) :: killAt t r

structure St where
  env : Env
  heap : Heap
  deriving Inhabited

/-- A slot is written; where an owned slice goes or comes, no temporary speaks of the slot any more. -/
def putE (e : Env) (t : Nat) (v : AV) : Env :=
  match v with
  | .undef => eraseE (if (get e t).isOwn then killAt t e else e) t
  | .own xs l => setE (killAt t e) t (.own xs l)
  | v => setE (if (get e t).isOwn then killAt t e else e) t v
def St.put (s : St) (dst : Option Nat) (v : AV) : St :=
  match dst with
  | some t => { s with env := putE s.env t v }
  | none => s
def St.del (s : St) : List Nat → St
  | [] => s
  | t :: r => St.del { s with env := putE s.env t .undef } r

/-- How a temporary takes an owned slice: as a plain list, or as what it is. -/
inductive Flag where
  | view | keep
  deriving DecidableEq, Inhabited

/-- What is told of the functions from outside; none of it is trusted. 'mode f id' for a region that draws its order: 0: calls are handed no variables; else the bits are the variables that calls may reach, loads read the others. -/
structure An where
  flag : Nat → Nat → Flag
  clear : Nat → Nat → List Nat
  mode : Nat → Nat → Nat
  order : Nat → Nat → List (List Nat)

/-- The program, the listed package variables, the functions that are let in. -/
structure Env0 where
  P : Program
  glob : Nat → Option (List D)
  an : An
  ok : Nat → Bool

def constLeaf : Value → AV
  | .slice none 0 0 => .own [] false
  | .slice .. | .agg _ | .tuple _ | .func .. | .map (some _) | .chan (some _) | .iface .. | .pointer (some _) => .undef
  | v => .d (.v v)
def constAV : Value → AV
  | .agg cs => .agg (cs.toList.map constLeaf)
  | v => constLeaf v

def AV.cells : AV → List AV
  | .agg cs => cs
  | .d (.agg cs) => cs.map .d
  | v => [v]

/-- A cell's content made plain, where it can be: an owned slice is from now on a list that nobody writes. -/
def freezeLeaf : AV → Option D
  | .d x => some x
  | .own xs _ => some (.list xs)
  | _ => none
def freezeAll : List AV → Option (List D)
  | [] => some []
  | c :: r => match freezeLeaf c, freezeAll r with
    | some x, some xs => some (x :: xs)
    | _, _ => none
def freeze : AV → Option D
  | .agg cs => (freezeAll cs).map .agg
  | v => freezeLeaf v
/-- A result as its temporary takes it. -/
def keepAs (fl : Flag) (v : AV) : AV :=
  match fl, v with
  | .view, .own xs _ => .d (.list xs)
  | .view, .agg cs => match freezeAll cs with | some ds => .d (.agg ds) | none => .agg cs
  | _, v => v
def allLent : List AV → Bool
  | [] => true
  | .own _ l :: r => l && allLent r
  | _ :: r => allLent r
def lend : AV → AV
  | .own xs _ => .own xs true
  | v => v

def cellOf (h : Heap) (o off : Nat) : AV := match h[o]? with | some cs => (cs[off]?).getD .undef | none => .undef
def setCellA (h : Heap) (o off : Nat) (v : AV) : Heap :=
  match h[o]? with
  | some cs => h.set o (cs.set off v)
  | none => h

def content (s : St) : Place → AV
  | .slot t => get s.env t
  | .cell o off => cellOf s.heap o off
def setPlace (s : St) (p : Place) (v : AV) : St :=
  match p with
  | .slot t => { s with env := putE s.env t v }
  | .cell o off => { env := killPlaced s.env, heap := setCellA s.heap o off v }
/-- The same content, lent: those who speak of the place go on. -/
def lendPlace (s : St) (p : Place) (v : AV) : St :=
  match p with
  | .slot t => { s with env := setE s.env t v }
  | .cell o off => { s with heap := setCellA s.heap o off v }

/-- An operand's value, with the package variables that are known. -/
def ev (E : Env0) (s : St) : Operand → AV
  | .tmp t => get s.env t
  | .const v => constAV v
  | .global g => match E.glob g with | some cs => .view cs | none => .undef
  | .func f => .fn f []

/-- An operand that is plain data. -/
def plain : AV → Option D
  | .d a => some a
  | _ => none
def plainC (E : Env0) (s : St) (x : Operand) : Option D :=
  match x with
  | .const v => freeze (constAV v)
  | _ => plain (ev E s x)
def plainsC (E : Env0) (s : St) : List Operand → Option (List D)
  | [] => some []
  | x :: r => match plainC E s x, plainsC E s r with
    | some a, some as => some (a :: as)
    | _, _ => none

/-- A value that may be moved on. -/
def movable : AV → Option AV
  | .undef | .skipped | .loc _ | .elt .. | .tup _ => none
  | v => some v

/-- The same, or the place of an element. -/
def moveOr : AV → Option AV
  | .elt p i off => some (.elt p i off)
  | v => movable v

/-- Reading a place. 'q': nothing may change. -/
def readPlace (fl : Flag) (q : Bool) (s : St) (p : Place) : Option (AV × St) :=
  match content s p with
  | .own xs l => match fl with
    | .keep => some (.loc p, s)
    | .view => if l then some (.d (.list xs), s) else if q then none else some (.d (.list xs), lendPlace s p (.own xs true))
  | .undef | .skipped | .loc _ | .agg _ => none
  | v => some (v, s)

def tySize (P : Program) (t : TypeId) : Option Nat := (P.info? t).map (·.size)
def tyBytes (P : Program) (t : TypeId) : Option Nat := (P.info? t).map (·.bytes)
def tyAgg (P : Program) (t : TypeId) : Option Bool :=
  match P.underlying t with
  | some (.struct _) | some (.array _ _) => some true
  | some _ => some false
  | none => none
def tyZero (P : Program) (t : TypeId) : Option Value := (P.info? t).bind (·.zero)
def tyElem (P : Program) (t : TypeId) : Option TypeId :=
  match P.underlying t with
  | some (.slice e) => some e
  | _ => none

/-- The owned cells of a part of a variable are lent. -/
def lendFrom (s : St) (o off : Nat) : Nat → St
  | 0 => s
  | n + 1 => lendFrom (match cellOf s.heap o off with | .own xs false => lendPlace s (.cell o off) (.own xs true) | _ => s) o (off + 1) n

def eltCells (s : St) (p : Place) (i off : Nat) : Option (List D) :=
  match content s p with
  | .own xs _ => (xs[i]?).map fun x => x.cells.drop off
  | _ => none

def loadOp (E : Env0) (fl : Flag) (q : Bool) (t : TypeId) (a : AV) (s : St) : Option (AV × St) :=
  match tyAgg E.P t, tySize E.P t with
  | some false, _ =>
    match a with
    | .ptr o off => readPlace fl q s (.cell o off)
    | .view (c :: _) => some (.d c, s)
    | .elt p i off => match eltCells s p i off with
      | some (c :: _) => some (.d c, s)
      | _ => none
    | _ => none
  | some true, some n =>
    match a with
    | .ptr o off =>
      match s.heap[o]? with
      | some cs =>
        if off + n ≤ cs.length then
          match freezeAll ((cs.drop off).take n) with
          | some ds =>
            if allLent ((cs.drop off).take n) then some (.d (.agg ds), s)
            else if q then none else some (.d (.agg ds), lendFrom s o off n)
          | none => none
        else none
      | none => none
    | .view cs => if n ≤ cs.length then some (.d (.agg (cs.take n)), s) else none
    | .elt p i off => match eltCells s p i off with
      | some cs => if n ≤ cs.length then some (.d (.agg (cs.take n)), s) else none
      | none => none
    | _ => none
  | _, _ => none

def putBack (x : D) (off : Nat) (ds : List D) : D :=
  match x with
  | .agg cs => .agg (cs.take off ++ ds ++ cs.drop (off + ds.length))
  | _ => ds.headD x

/-- A store of a value whose cells are 'vs'. -/
def storeCellsA (a : AV) (vs : List AV) (s : St) : Option St :=
  match a with
  | .ptr o off =>
    match s.heap[o]? with
    | some cs =>
      if off + vs.length ≤ cs.length then
        some { env := if ((cs.drop off).take vs.length ++ vs).any AV.isOwn then killPlaced s.env else s.env
               heap := s.heap.set o (cs.take off ++ vs ++ cs.drop (off + vs.length)) }
      else none
    | none => none
  | .elt p i off =>
    match content s p, freezeAll vs with
    | .own xs false, some ds => match xs[i]? with
      | some x => if off + ds.length ≤ x.cells.length ∧ 0 < ds.length then some (lendPlace s p (.own (xs.set i (putBack x off ds)) false)) else none
      | none => none
    | _, _ => none
  | _ => none

/-- An operand's temporary, if it is one. -/
def tmpOf : Operand → List Nat
  | .tmp t => [t]
  | _ => []

/-- What one cell can hold. -/
def leafOk : AV → Bool
  | .d (.agg _) | .agg _ | .tup _ | .undef | .skipped | .loc _ | .elt .. => false
  | _ => true

def storeOp (E : Env0) (t : TypeId) (a x : Operand) (s : St) : Option St :=
  match movable (ev E s x), tyAgg E.P t, tySize E.P t with
  | some v, some _, some n => if v.cells.length = n ∧ v.cells.all leafOk then storeCellsA (ev E s a) v.cells (s.del (tmpOf x)) else none
  | _, _, _ => none

/-- Integers, Bools, strings: the operators. -/
def binV (op : BinOp) (x y : Value) : Option Value :=
  match op, x, y with
  | .shl, .int k a, .int _ b => if b < 0 then none else some (.int k (k.wrap (a * 2 ^ (min b.toNat k.bits))))
  | .shr, .int k a, .int _ b => if b < 0 then none else some (.int k (a.fdiv (2 ^ (min b.toNat k.bits))))
  | .add, .int k a, .int k' b => if k = k' then some (.int k (k.wrap (a + b))) else none
  | .sub, .int k a, .int k' b => if k = k' then some (.int k (k.wrap (a - b))) else none
  | .mul, .int k a, .int k' b => if k = k' then some (.int k (k.wrap (a * b))) else none
  | .quo, .int k a, .int k' b => if k = k' ∧ b ≠ 0 then some (.int k (k.wrap (a.tdiv b))) else none
  | .rem, .int k a, .int k' b => if k = k' ∧ b ≠ 0 then some (.int k (a.tmod b)) else none
  | .and, .int k a, .int k' b => if k = k' then some (.int k (k.wrap ((BitVec.ofInt k.bits a) &&& (BitVec.ofInt k.bits b)).toNat)) else none
  | .or, .int k a, .int k' b => if k = k' then some (.int k (k.wrap ((BitVec.ofInt k.bits a) ||| (BitVec.ofInt k.bits b)).toNat)) else none
  | .xor, .int k a, .int k' b => if k = k' then some (.int k (k.wrap ((BitVec.ofInt k.bits a) ^^^ (BitVec.ofInt k.bits b)).toNat)) else none
  | .andNot, .int k a, .int k' b => if k = k' then some (.int k (k.wrap ((BitVec.ofInt k.bits a) &&& ~~~(BitVec.ofInt k.bits b)).toNat)) else none
  | .eql, .int k a, .int k' b => if k = k' then some (.bool (decide (a = b))) else none
  | .neq, .int k a, .int k' b => if k = k' then some (.bool (!decide (a = b))) else none
  | .lss, .int k a, .int k' b => if k = k' then some (.bool (decide (a < b))) else none
  | .leq, .int k a, .int k' b => if k = k' then some (.bool (decide (a ≤ b))) else none
  | .gtr, .int k a, .int k' b => if k = k' then some (.bool (decide (b < a))) else none
  | .geq, .int k a, .int k' b => if k = k' then some (.bool (decide (b ≤ a))) else none
  | .add, .string ⟨⟨a⟩⟩, .string ⟨⟨b⟩⟩ => if a.length + b.length ≤ 9223372036854775807 then some (.string ⟨⟨a ++ b⟩⟩) else none
  | .eql, .string ⟨⟨a⟩⟩, .string ⟨⟨b⟩⟩ => some (.bool (decide (a = b)))
  | .neq, .string ⟨⟨a⟩⟩, .string ⟨⟨b⟩⟩ => some (.bool (!decide (a = b)))
  | .lss, .string ⟨⟨a⟩⟩, .string ⟨⟨b⟩⟩ => some (.bool (Op.bytesLess a b))
  | .leq, .string ⟨⟨a⟩⟩, .string ⟨⟨b⟩⟩ => some (.bool (Op.bytesLess a b || decide (a = b)))
  | .gtr, .string ⟨⟨a⟩⟩, .string ⟨⟨b⟩⟩ => some (.bool (!(Op.bytesLess a b || decide (a = b))))
  | .geq, .string ⟨⟨a⟩⟩, .string ⟨⟨b⟩⟩ => some (.bool (!Op.bytesLess a b))
  | _, _, _ => none
def binT (P : Program) (op : BinOp) (t : TypeId) (x y : Value) : Option Value :=
  match x, y with
  | .bool a, .bool b => match op, P.underlying t with
    | .eql, some .bool => some (.bool (a == b))
    | .neq, some .bool => some (.bool (!(a == b)))
    | _, _ => none
  | x, y => binV op x y
def unV (op : UnOp) (x : Value) : Option Value :=
  match op, x with
  | .not, .bool b => some (.bool (!b))
  | .neg, .int k n => some (.int k (k.wrap (0 - n)))
  | _, _ => none

def idxOf : AV → Option Int
  | .d (.v (.int _ n)) => some n
  | _ => none

/-- Parts laid into cells. -/
def fillA (place : Nat → Option (Nat × Nat)) (cells : List AV) : List (Nat × AV) → Option (List AV)
  | [] => some cells
  | (i, v) :: r => match place i with
    | some (off, size) => if v.cells.length = size ∧ off + size ≤ cells.length then fillA place (cells.take off ++ v.cells ++ cells.drop (off + size)) r else none
    | none => none
def partsOf (E : Env0) (s : St) : List (Nat × Operand) → Option (List (Nat × AV))
  | [] => some []
  | (i, x) :: r => match movable (ev E s x), partsOf E (s.del (tmpOf x)) r with
    | some v, some vs => some ((i, v) :: vs)
    | _, _ => none

def allD : List AV → Option (List D)
  | [] => some []
  | .d x :: r => (allD r).map (x :: ·)
  | _ :: _ => none
def packAgg (cs : List AV) : AV :=
  match allD cs with
  | some ds => .d (.agg ds)
  | none => .agg cs

def fieldPlace (P : Program) (t : TypeId) (i : Nat) : Option (Nat × Nat) :=
  match P.underlying t with
  | some (.struct fs) => match fs[i]? with
    | some f => (tySize P f.type).map fun n => (f.offset, n)
    | none => none
  | some (.array _ e) => (tySize P e).map fun n => (i * n, n)
  | _ => none
def placesOk (P : Program) (t : TypeId) : Bool :=
  match P.underlying t with
  | some (.struct fs) => fs.all fun f => (tySize P f.type).isSome
  | some (.array _ e) => (tySize P e).isSome
  | _ => false
def structField (P : Program) (t : TypeId) (i : Nat) : Option (Nat × TypeId) :=
  match P.underlying t with
  | some (.struct fs) => (fs[i]?).map fun f => (f.offset, f.type)
  | _ => none

def partOf (P : Program) (t : TypeId) (cs : List D) (off : Nat) : Option D :=
  match tyAgg P t, tySize P t with
  | some true, some n => if off + n ≤ cs.length then some (.agg ((cs.drop off).take n)) else none
  | some false, _ => cs[off]?
  | _, _ => none

def maxElems : Nat := 1073741824

/-- Elements laid one by one: each of its type's size. -/
def elemOk (g : Bool) (n : Nat) (x : D) : Bool := x.cells.length == n && (g == x.isAgg) && decide (0 < n) && x.cells.all (fun c => !c.isAgg)
def elemsOk (P : Program) (e : TypeId) (xs : List D) : Bool :=
  match tyAgg P e, tySize P e with
  | some g, some n => xs.all (elemOk g n)
  | _, _ => false

def zeroOk (P : Program) (e : TypeId) : Bool :=
  match tyZero P e, tySize P e with
  | some z, some n => z.cells.size == n
  | _, _ => false

def smallOk (P : Program) (e : TypeId) : Bool :=
  match tySize P e with
  | some n => decide (n ≤ 256)
  | none => false

def orderedFrom : Nat → List (Nat × Operand) → Bool
  | _, [] => true
  | k, (i, _) :: r => i == k && orderedFrom (k + 1) r

def sliceBoundsA (len : Nat) (lo hi : Option AV) : Option (Nat × Nat) :=
  let h : Option Nat := match hi with
    | none => some len
    | some a => match idxOf a with | some n => if 0 ≤ n ∧ n ≤ len then some n.toNat else none | none => none
  match h with
  | none => none
  | some h => match lo with
    | none => some (0, h)
    | some a => match idxOf a with | some n => if 0 ≤ n ∧ n ≤ h then some (n.toNat, h) else none | none => none

def sliceOp (E : Env0) (t : TypeId) (x : Operand) (lo hi mx : Option Operand) (s : St) : Option AV :=
  match plainC E s x with
  | some (.v (.string ⟨⟨l⟩⟩)) =>
    match mx, sliceBoundsA l.length (lo.map (ev E s)) (hi.map (ev E s)), E.P.underlying t with
    | none, some (a, b), some .string => some (.d (.v (.string ⟨⟨(l.take b).drop a⟩⟩)))
    | _, _, _ => none
  | some (.list xs) =>
    match tyElem E.P t, sliceBoundsA xs.length (lo.map (ev E s)) (hi.map (ev E s)) with
    | some e, some (a, b) =>
      if elemsOk E.P e xs then
        match mx with
        | none => some (.d (.list ((xs.take b).drop a)))
        | some _ => none
      else none
    | _, _ => none
  | _ => none

def lenA (E : Env0) (t : TypeId) (a : AV) (s : St) : Option Nat :=
  match E.P.underlying t, a with
  | some .string, .d (.v (.string ⟨⟨l⟩⟩)) => some l.length
  | some (.slice _), .d (.list xs) => some xs.length
  | some (.slice _), .loc p => match content s p with | .own xs _ => some xs.length | _ => none
  | _, _ => none

/-- The first operand of an append: owned itself, or an owned content that is moved out of its place. -/
def appendOp (E : Env0) (q : Bool) (t : TypeId) (x y : Operand) (s : St) : Option (AV × St) :=
  match plainC E s y, tyElem E.P t with
  | some (.list ys), some e =>
    match tyBytes E.P e with
    | some b =>
      if 0 < b ∧ b ≤ 65536 ∧ zeroOk E.P e ∧ elemsOk E.P e ys then
        match ev E s x with
        | .own xs l => if xs.length + ys.length ≤ maxElems ∧ elemsOk E.P e xs then some (.own (xs ++ ys) l, s) else none
        | .loc p => match content s p with
          | .own xs l => if q = false ∧ xs.length + ys.length ≤ maxElems ∧ elemsOk E.P e xs then some (.own (xs ++ ys) l, setPlace s p .undef) else none
          | _ => none
        | _ => none
      else none
    | none => none
  | _, _ => none

def indexAddrOp (E : Env0) (t : TypeId) (a : AV) (n : Int) (s : St) : Option AV :=
  match E.P.underlying t, a with
  | some (.slice e), .loc p => match content s p, tySize E.P e with
    | .own xs _, some sz => if 0 ≤ n then match xs[n.toNat]? with
      | some y => if y.cells.length = sz then some (.elt p n.toNat 0) else none
      | none => none
      else none
    | _, _ => none
  | some (.slice e), .d (.list xs) => match tySize E.P e with
    | some sz => if 0 ≤ n then match xs[n.toNat]? with
      | some y => if y.cells.length = sz then some (.view y.cells) else none
      | none => none
      else none
    | none => none
  | some (.array m e), .ptr o b => match tySize E.P e with
    | some sz => if 0 ≤ n ∧ n < m ∧ 1 < m ∧ 0 < sz then some (.ptr o (b + n.toNat * sz)) else none
    | none => none
  | some (.array m e), .view cs => match tySize E.P e with
    | some sz => if 0 ≤ n ∧ n < m ∧ 1 < m ∧ 0 < sz then some (.view (cs.drop (n.toNat * sz))) else none
    | none => none
  | _, _ => none

def indexOp (E : Env0) (t : TypeId) (x : D) (n : Int) : Option D :=
  match E.P.underlying t, x with
  | some .string, .v (.string ⟨⟨l⟩⟩) => if 0 ≤ n then match l[n.toNat]? with
      | some b => some (.v (.int .u8 b.toNat))
      | none => none
    else none
  | some (.array m e), .agg cs => match tySize E.P e with
    | some sz => if 0 ≤ n ∧ n < m then partOf E.P e cs (n.toNat * sz) else none
    | none => none
  | _, _ => none

def capsOf (E : Env0) (s : St) : List Operand → Option (List (Nat × Nat))
  | [] => some []
  | x :: r => match ev E s x, capsOf E s r with
    | .ptr o a, some ps => some ((o, a) :: ps)
    | _, _ => none

def builtinOp (E : Env0) (q : Bool) (b : Builtin) (args : List Operand) (ts : List TypeId) (s : St) : Option (AV × St) :=
  match b, args, ts with
  | .len, [x], [t] => (lenA E t (ev E s x) s).map fun (n : Nat) => (AV.d (.v (.int .i64 (n : Int))), s)
  | .max, [x, y], _ => match plainC E s x, plainC E s y with
    | some (.v (.int k a)), some (.v (.int _ b)) => some (.d (.v (.int k (if b > a then b else a))), s)
    | _, _ => none
  | .min, [x, y], _ => match plainC E s x, plainC E s y with
    | some (.v (.int k a)), some (.v (.int _ b)) => some (.d (.v (.int k (if b < a then b else a))), s)
    | _, _ => none
  | .append, [x, y], [t, u] => if t = u then appendOp E q t x y s else none
  | _, _, _ => none

/-- The operations that need no other function. -/
def stepOp (E : Env0) (fl : Flag) (q : Bool) (op : Op) (s : St) : Option (AV × St) :=
  match op with
  | .move (.tmp t) => readPlace fl q s (.slot t)
  | .move x | .assign x => (moveOr (ev E s x)).map fun v => (v, s)
  | .pick c a b => match ev E s c with
    | .d (.v (.bool t)) => (plainC E s (if t then a else b)).map fun x => (.d x, s)
    | _ => none
  | .alloc e => (tyZero E.P e).map fun z => (.ptr s.heap.length 0, { s with heap := s.heap ++ [(constAV z).cells] })
  | .box e x => match movable (ev E s x), tySize E.P e with
    | some v, some n => if v.cells.length = n then some (.ptr s.heap.length 0, { s with heap := s.heap ++ [v.cells] }) else none
    | _, _ => none
  | .build t parts => match tyZero E.P t, partsOf E s parts.toList with
    | some (.agg z), some ps => if placesOk E.P t then (fillA (fieldPlace E.P t) (z.toList.map constLeaf) ps).map fun cs => (packAgg cs, s) else none
    | _, _ => none
  | .buildSlice t n parts => match tyElem E.P t, plainsC E s (parts.toList.map (·.2)) with
    | some e, some xs => if orderedFrom 0 parts.toList ∧ xs.length = n ∧ n ≤ 65536 ∧ elemsOk E.P e xs ∧ zeroOk E.P e ∧ smallOk E.P e then some (.own xs false, s) else none
    | _, _ => none
  | .load t a => loadOp E fl q t (ev E s a) s
  | .nilCheck x => match ev E s x with
    | .ptr o off => some (.ptr o off, s)
    | .view cs => some (.view cs, s)
    | .elt p i off => if (content s p).isOwn then some (.elt p i off, s) else none
    | .fn f cs => some (.fn f cs, s)
    | _ => none
  | .binOp op t x y _ => match plainC E s x, plainC E s y with
    | some (.v a), some (.v b) => (binT E.P op t a b).map fun r => (.d (.v r), s)
    | _, _ => none
  | .unOp op _ x => match plainC E s x with
    | some (.v a) => (unV op a).map fun r => (.d (.v r), s)
    | _ => none
  | .convert src dst x => match E.P.underlying src, E.P.underlying dst, plainC E s x with
    | some (.int _), some (.int k), some (.v (.int _ n)) => some (.d (.v (.int k (k.wrap n))), s)
    | some .string, some .string, some (.v (.string b)) => some (.d (.v (.string b)), s)
    | _, _, _ => none
  | .makeSlice t l c => match tyElem E.P t, plainC E s l, plainC E s c with
    | some e, some (.v (.int .i64 n)), some (.v (.int .i64 m)) =>
      match (tyZero E.P e).bind fun z => freeze (constAV z), tyBytes E.P e with
      | some x, some b => if n = m ∧ 0 ≤ n ∧ n ≤ 65536 ∧ b ≤ 65536 ∧ elemsOk E.P e [x] then some (.own (List.replicate n.toNat x) false, s) else none
      | _, _ => none
    | _, _, _ => none
  | .slice t x lo hi mx => (sliceOp E t x lo hi mx s).map fun v => (v, s)
  | .fieldAddr t x i => match structField E.P t i with
    | some (off, u) => match tySize E.P u with
      | some (_ + 1) => match ev E s x with
        | .ptr o a => some (.ptr o (a + off), s)
        | .view cs => some (.view (cs.drop off), s)
        | .elt p k a => if (content s p).isOwn then some (.elt p k (a + off), s) else none
        | _ => none
      | _ => none
    | none => none
  | .field t x i => match plainC E s x, structField E.P t i with
    | some (.agg cs), some (off, u) => (partOf E.P u cs off).map fun y => (.d y, s)
    | _, _ => none
  | .indexAddr t x i => match idxOf (ev E s i) with
    | some n => (indexAddrOp E t (ev E s x) n s).map fun v => (v, s)
    | none => none
  | .index t x i => match idxOf (ev E s i), plainC E s x with
    | some n, some y => (indexOp E t y n).map fun z => (.d z, s)
    | _, _ => none
  | .extract (.tmp t) i => match get s.env t with
    | .tup vs => match vs[i]? with
      | some (.d x) => some (.d x, s)
      | some (.ptr o a) => some (.ptr o a, s)
      | _ => none
    | _ => none
  | .makeFunc (.func f) first caps => if first.size = 0 then (capsOf E s caps.toList).map fun ps => (.fn f ps, s) else none
  | .call { callee := .builtin b, args, argTypes } => builtinOp E q b args.toList argTypes.toList s
  | _ => none

/-! Calls: a callee gets the variables that its arguments lead to, under numbers of their own, and plain data. -/

def ptrsOf : AV → List Nat
  | .ptr o _ => [o]
  | .fn _ cs => cs.map (·.1)
  | _ => []
def addNew (seen : List Nat) : List Nat → List Nat
  | [] => seen
  | o :: r => addNew (if seen.contains o then seen else seen ++ [o]) r
/-- The variables that are reached, in the order in which they are met. -/
def reach (h : Heap) : Nat → List Nat → Option (List Nat)
  | 0, _ => none
  | n + 1, seen =>
    if (addNew seen (seen.flatMap fun o => ((h[o]?).getD []).flatMap ptrsOf)).length = seen.length then some seen
    else reach h n (addNew seen (seen.flatMap fun o => ((h[o]?).getD []).flatMap ptrsOf))
def cellsAt (h : Heap) : List Nat → Option Heap
  | [] => some []
  | o :: r => match h[o]?, cellsAt h r with
    | some cs, some hs => some (cs :: hs)
    | _, _ => none

def renAV (ρ : Nat → Nat) : AV → AV
  | .ptr o a => .ptr (ρ o) a
  | .fn f cs => .fn f (cs.map fun (o, a) => (ρ o, a))
  | v => v

/-- Arguments as they are handed over. -/
def argOf (E : Env0) (s : St) (x : Operand) : Option AV :=
  match ev E s x with
  | .ptr o a => some (.ptr o a)
  | .fn f cs => some (.fn f cs)
  | .view cs => some (.view cs)
  | _ => (plainC E s x).map .d
def argsOf (E : Env0) (s : St) : List Operand → Option (List AV)
  | [] => some []
  | x :: r => match argOf E s x, argsOf E s r with
    | some v, some vs => some (v :: vs)
    | _, _ => none

def outOf : AV → Option AV
  | .ptr o a => some (.ptr o a)
  | .fn f cs => some (.fn f cs)
  | v => (freeze v).map .d

def resultOf (P : Program) (s : St) : ResultVar → Option AV
  | .tmp t => outOf (get s.env t)
  | .cell a t => match get s.env a with
    | .ptr o off => match tyAgg P t, tySize P t, s.heap[o]? with
      | some true, some n, some cs => if off + n ≤ cs.length then (freezeAll ((cs.drop off).take n)).map fun ds => .d (.agg ds) else none
      | some false, _, some cs => match cs[off]? with | some v => outOf v | none => none
      | _, _, _ => none
    | _ => none
def resultsOf (P : Program) (s : St) : List ResultVar → Option (List AV)
  | [] => some []
  | x :: r => match resultOf P s x, resultsOf P s r with
    | some v, some vs => some (v :: vs)
    | _, _ => none

inductive Ex where
  | normal
  | exit (id : Nat)
  | ret
  deriving DecidableEq, Inhabited

def bindArgs : Nat → List AV → Env
  | _, [] => []
  | k, v :: r => (k, v) :: bindArgs (k + 1) r

def isTmpRes : ResultVar → Bool
  | .tmp _ => true
  | .cell .. => false
def freshRes (s : St) (k : Nat) : ResultVar → Bool
  | .tmp _ => true
  | .cell a _ => match get s.env a with | .ptr o _ => decide (k ≤ o) | _ => false

def packRes : List AV → AV
  | [v] => v
  | vs => .tup vs

/-- A callee's results and what becomes of the variables that it was handed: its own are dropped where nothing leads to them. -/
def leave (P : Program) (fn : Func) (k : Nat) (s : St) : Option (AV × Heap) :=
  match resultsOf P s fn.results.toList with
  | none => none
  | some vs =>
    if ((vs.flatMap ptrsOf) ++ ((s.heap.take k).flatMap fun cs => cs.flatMap ptrsOf)).all (fun o => decide (o < k)) then
      if fn.results.toList.all (freshRes s k) && decide (k ≤ s.heap.length) then some (packRes vs, s.heap.take k) else none
    else if fn.results.toList.all isTmpRes && ((vs.flatMap ptrsOf) ++ (s.heap.flatMap fun cs => cs.flatMap ptrsOf)).all (fun o => decide (o < s.heap.length)) then some (packRes vs, s.heap) else none

/-- How a region is carried out: does it draw its order; the split between what calls reach and what loads read. -/
structure Rule where
  draws : Bool
  mode : Nat

def guardOf (ops : Array Oper) (s : St) (o : Oper) : Option Bool :=
  match o.guard with
  | none => some true
  | some (j, want) => match ((ops[j]?).bind (·.dst)).map (get s.env) with
    | some (.d (.v (.bool b))) => some (b == want)
    | some .skipped => some false
    | _ => none

def heapAddr : AV → Option Nat
  | .ptr o _ => some o
  | .loc (.cell o _) => some o
  | .elt (.cell o _) _ _ => some o
  | _ => none

/-- Variables that calls in a region do not reach. -/
def above (m o : Nat) : Bool := !(m.testBit o)

/-- In a region that draws under a split, what is loaded is plain memory or lies above it. -/
def readsOk (E : Env0) (r : Rule) (s : St) (op : Op) : Bool :=
  !r.draws || r.mode == 0 || (match op with
    | .load _ x => match ev E s x with
      | .ptr o _ => above r.mode o
      | .view _ => true
      | _ => false
    | _ => true)

/-- What changes memory, or calls. -/
def stirs : Op → Bool
  | .store .. | .alloc _ | .box .. | .buildSlice .. | .makeSlice .. => true
  | .call { callee := .builtin .append, .. } => true
  | .call { callee := .value _, .. } => true
  | _ => false
/-- Is there something in the region that changes memory and is neither ahead of the operation nor behind it. -/
def needsLook (ops : Array Oper) (o : Oper) : Bool :=
  (List.range ops.size).any fun j => match ops[j]? with
    | some oj => stirs oj.op && !(oj.after.any fun e => Region.binds .any e && ((ops[e.on]?).bind (·.dst)) == o.dst) && !(o.after.any fun e => Region.binds .any e && e.on == j)
    | none => false
def lookRule (r : Rule) (ops : Array Oper) (o : Oper) : Rule := { draws := r.draws && needsLook ops o, mode := r.mode }

/-- Is there a load in the region that need not be ahead of the operation. -/
def guardNeeded (ops : Array Oper) (o : Oper) : Bool :=
  (List.range ops.size).any fun k => match ops[k]? with
    | some ok => (match ok.op with | .load .. => true | _ => false) && !(o.after.any fun e => Region.binds .any e && e.on == k)
    | none => false
def storeRule (r : Rule) (ops : Array Oper) (o : Oper) : Rule := { draws := r.draws && guardNeeded ops o, mode := r.mode }

/-- In such a region a store does not reach what lies above. -/
def storesOk (E : Env0) (r : Rule) (s : St) (a : Operand) : Bool :=
  !r.draws || r.mode == 0 || (match ev E s a with | .ptr o _ => !above r.mode o | _ => true)

/-! Two states, compared where the comparing can be carried out. -/
def sameV : Value → Value → Bool
  | .int k a, .int l b => k == l && a == b
  | .bool a, .bool b => a == b
  | .string ⟨⟨a⟩⟩, .string ⟨⟨b⟩⟩ => a == b
  | .pointer none, .pointer none => true
  | _, _ => false
mutual
def sameD : D → D → Bool
  | .v x, .v y => sameV x y
  | .list xs, .list ys => sameDs xs ys
  | .agg xs, .agg ys => sameDs xs ys
  | _, _ => false
def sameDs : List D → List D → Bool
  | [], [] => true
  | x :: r, y :: r' => sameD x y && sameDs r r'
  | _, _ => false
end
mutual
def sameA : AV → AV → Bool
  | .undef, .undef => true
  | .skipped, .skipped => true
  | .d x, .d y => sameD x y
  | .own xs l, .own ys m => sameDs xs ys && l == m
  | .loc p, .loc q => decide (p = q)
  | .elt p i o, .elt q j u => decide (p = q) && i == j && o == u
  | .ptr o a, .ptr p b => o == p && a == b
  | .view xs, .view ys => sameDs xs ys
  | .fn f cs, .fn g ds => f == g && cs == ds
  | .agg cs, .agg ds => sameAs cs ds
  | .tup cs, .tup ds => sameAs cs ds
  | _, _ => false
def sameAs : List AV → List AV → Bool
  | [], [] => true
  | x :: r, y :: r' => sameA x y && sameAs r r'
  | _, _ => false
end
def sameEnv : Env → Env → Bool
  | [], [] => true
  | (k, x) :: r, (l, y) :: r' => k == l && sameA x y && sameEnv r r'
  | _, _ => false
def sameHeap : Heap → Heap → Bool
  | [], [] => true
  | x :: r, y :: r' => sameAs x y && sameHeap r r'
  | _, _ => false
def sameSt (s t : St) : Bool := sameEnv s.env t.env && sameHeap s.heap t.heap

theorem sameV_eq : ∀ {x y : Value}, sameV x y = true → x = y := by
  intro x y h
  unfold sameV at h
  split at h
  · simp only [Bool.and_eq_true, beq_iff_eq] at h; obtain ⟨rfl, rfl⟩ := h; rfl
  · simp only [beq_iff_eq] at h; subst h; rfl
  · simp only [beq_iff_eq] at h; subst h; rfl
  · rfl
  · cases h
mutual
theorem sameD_eq : ∀ {x y : D}, sameD x y = true → x = y
  | .v x, .v y, h => congrArg D.v (sameV_eq (by simpa [sameD] using h))
  | .list xs, .list ys, h => congrArg D.list (sameDs_eq (by simpa [sameD] using h))
  | .agg xs, .agg ys, h => congrArg D.agg (sameDs_eq (by simpa [sameD] using h))
  | .v _, .list _, h => by simp [sameD] at h
  | .v _, .agg _, h => by simp [sameD] at h
  | .list _, .v _, h => by simp [sameD] at h
  | .list _, .agg _, h => by simp [sameD] at h
  | .agg _, .v _, h => by simp [sameD] at h
  | .agg _, .list _, h => by simp [sameD] at h
theorem sameDs_eq : ∀ {x y : List D}, sameDs x y = true → x = y
  | [], [], _ => rfl
  | x :: r, y :: r', h => by
    simp only [sameDs, Bool.and_eq_true] at h
    rw [sameD_eq h.1, sameDs_eq h.2]
  | [], _ :: _, h => by simp [sameDs] at h
  | _ :: _, [], h => by simp [sameDs] at h
end
mutual
theorem sameA_eq : ∀ {x y : AV}, sameA x y = true → x = y
  | x, y, h => by
    cases x <;> cases y <;> simp only [sameA, Bool.and_eq_true, beq_iff_eq, decide_eq_true_eq, Bool.false_eq_true] at h
    · rfl
    · rfl
    · rw [sameD_eq h]
    · rw [sameDs_eq h.1, h.2]
    · rw [h]
    · rw [h.1.1, h.1.2, h.2]
    · rw [h.1, h.2]
    · rw [sameDs_eq h]
    · rw [h.1, h.2]
    · rw [sameAs_eq h]
    · rw [sameAs_eq h]
theorem sameAs_eq : ∀ {x y : List AV}, sameAs x y = true → x = y
  | [], [], _ => rfl
  | x :: r, y :: r', h => by
    simp only [sameAs, Bool.and_eq_true] at h
    rw [sameA_eq h.1, sameAs_eq h.2]
  | [], _ :: _, h => by simp [sameAs] at h
  | _ :: _, [], h => by simp [sameAs] at h
end
theorem sameEnv_eq : ∀ {x y : Env}, sameEnv x y = true → x = y
  | [], [], _ => rfl
  | (k, x) :: r, (l, y) :: r', h => by
    simp only [sameEnv, Bool.and_eq_true, beq_iff_eq] at h
    rw [h.1.1, sameA_eq h.1.2, sameEnv_eq h.2]
  | [], _ :: _, h => by simp [sameEnv] at h
  | _ :: _, [], h => by simp [sameEnv] at h
theorem sameHeap_eq : ∀ {x y : Heap}, sameHeap x y = true → x = y
  | [], [], _ => rfl
  | x :: r, y :: r', h => by
    simp only [sameHeap, Bool.and_eq_true] at h
    rw [sameAs_eq h.1, sameHeap_eq h.2]
  | [], _ :: _, h => by simp [sameHeap] at h
  | _ :: _, [], h => by simp [sameHeap] at h
theorem sameSt_eq {s t : St} (h : sameSt s t = true) : s = t := by
  obtain ⟨e, p⟩ := s
  obtain ⟨e', p'⟩ := t
  simp only [sameSt, Bool.and_eq_true] at h
  rw [sameEnv_eq h.1, sameHeap_eq h.2]
noncomputable instance (s t : St) : Decidable (s = t) := match h : sameSt s t with
  | true => isTrue (sameSt_eq h)
  | false => Classical.propDecidable _
/-- What several roads come to, if it is one thing. -/
noncomputable def agree : List (Option St) → Option St
  | [] => none
  | [x] => x
  | x :: r => match x, agree r with
    | some s, some t => if s = t then some s else none
    | _, _ => none

/-- The operations in the order in which they are carried out. -/
def ordered (ops : Array Oper) : List Nat → List Oper
  | [] => []
  | i :: r => match ops[i]? with
    | some o => o :: ordered ops r
    | none => ordered ops r

/-- The temporaries that an operation uses up. -/
def usedUp (op : Op) : List Nat :=
  match op with
  | .move (.tmp _) => []
  | .assign x | .box _ x | .move x => tmpOf x
  | .build _ ps => ps.toList.flatMap fun p => tmpOf p.2
  | .call { callee := .builtin .append, args, .. } => match args.toList with | x :: _ => tmpOf x | [] => []
  | _ => []

def backTo (objs : List Nat) (base j : Nat) : Nat := match objs[j]? with | some o => o | none => base + (j - objs.length)
def writeBack (h : Heap) : List Nat → Heap → Heap
  | o :: os, cs :: r => writeBack (h.set o cs) os r
  | _, _ => h
/-- A place in one of these variables. -/
def hits (objs : List Nat) (v : AV) : Bool := v.placed && (match heapAddr v with | some o => objs.contains o | none => false)
def killObjs (objs : List Nat) : Env → Env
  | [] => []
  | (k, v) :: r => if hits objs v then eraseE (killObjs objs r) k else (k, v) :: killObjs objs r

/-- The caller's state behind a call. -/
def backIn (s : St) (objs : List Nat) (h' : Heap) : St :=
  { env := killObjs objs s.env
    heap := writeBack s.heap objs (h'.map fun cs => cs.map (renAV (backTo objs s.heap.length))) ++ (h'.drop objs.length).map fun cs => cs.map (renAV (backTo objs s.heap.length)) }
def renAll (ρ : Nat → Nat) : AV → AV
  | .tup us => .tup (us.map (renAV ρ))
  | v => renAV ρ v

/-- An append to what its first operand's place holds: it writes that place. -/
def opWrites (ops : Array Oper) (op : Op) : Bool :=
  match op with
  | .call { callee := .builtin .append, args, .. } => match args.toList with
    | .tmp t :: _ => ops.any fun o => o.dst == some t && (match o.op with | .move (.tmp _) | .load .. => true | _ => false)
    | _ => false
  | _ => false

/-! Variables that nothing leads to any more, dropped behind a loop's round or a block. -/
def ptrsDeep : AV → List Nat
  | .agg cs => cs.flatMap ptrsOf
  | .tup cs => cs.flatMap ptrsOf
  | .loc (.cell o _) => [o]
  | .elt (.cell o _) _ _ => [o]
  | v => ptrsOf v
def dropE (m : Nat) : Env → Env
  | [] => []
  | (k, v) :: r => if (ptrsDeep v).all (fun o => decide (o < m)) then (k, v) :: dropE m r else eraseE (dropE m r) k
def trimOk (m : Nat) (h : Heap) : Bool := (h.take m).all fun cs => cs.all fun c => (ptrsOf c).all fun o => decide (o < m)
def trim (m : Nat) (s : St) : St := if trimOk m s.heap then { env := dropE m s.env, heap := s.heap.take m } else s

/-- What makes something new of plain data: a variable, a literal, a copy. -/
def frontOp (fl : Flag) : Op → Bool
  | .alloc _ => true
  | .buildSlice .. => decide (fl = .view)
  | .call { callee := .builtin .append, args, .. } => decide (fl = .view) && (match args.toList with | [.const _, _] => true | _ => false)
  | _ => false
/-- Such an operation that nothing guards, and its destination. -/
def frontDst (an : An) (f : Nat) (o : Oper) : Option Nat :=
  match o.guard, o.dst with
  | none, some t => if frontOp (an.flag f t) o.op then some t else none
  | _, _ => none
/-- Where a region draws its order, these destinations are unused ahead of it. -/
def freshB (an : An) (f : Nat) (ops : Array Oper) (s : St) : Bool :=
  ops.toList.all fun o => match frontDst an f o with
    | some t => match get s.env t with | .undef => true | _ => false
    | none => true

/-- Operations one after the other. -/
def foldOps (step : Oper → St → Option St) : List Oper → St → Option St
  | [], s => some s
  | o :: rest, s => match step o s with
    | some s1 => foldOps step rest s1
    | none => none

mutual
noncomputable def exec (E : Env0) (f : FuncId) : Nat → Code → St → Option (Ex × St)
  | 0, _, _ => none
  | n + 1, c, s =>
    match c with
    | .skip => some (.normal, s)
    | .label _ => some (.normal, s)
    | .region id ops draw =>
      match (if draw then if freshB E.an f ops s = false then none else agree ((E.an.order f id).map fun l => foldOps (fun o s => runOp E f { draws := true, mode := E.an.mode f id } ops n o s) (ordered ops l) s)
        else foldOps (fun o s => runOp E f { draws := false, mode := E.an.mode f id } ops n o s) ops.toList s) with
      | some s1 => some (.normal, { s1 with env := clearE s1.env (E.an.clear f id) })
      | none => none
    | .seq a b => match exec E f n a s with
      | some (.normal, s1) => exec E f n b s1
      | r => r
    | .cond x a b => match ev E s x with
      | .d (.v (.bool t)) => exec E f n (if t then a else b) s
      | _ => none
    | .block id b => match exec E f n b s with
      | some (.exit id', s1) => if id' = id then some (.normal, trim s.heap.length s1) else some (.exit id', s1)
      | some (.normal, s1) => some (.normal, trim s.heap.length s1)
      | r => r
    | .loop b => match exec E f n b s with
      | some (.normal, s1) => exec E f n (.loop b) (trim s.heap.length s1)
      | r => r
    | .exit id => some (.exit id, s)
    | .ret => some (.ret, s)
    | _ => none
termination_by structural n => n
/-- One operation, its guard asked first. -/
noncomputable def runOp (E : Env0) (f : FuncId) (r : Rule) (ops : Array Oper) : Nat → Oper → St → Option St
  | 0, _, _ => none
  | n + 1, o, s =>
    match guardOf ops s o with
    | none => none
    | some false => some (s.put o.dst .skipped)
    | some true =>
      match o.op with
      | .store t a x => if o.dst.isNone && storesOk E (storeRule r ops o) s a then storeOp E t a x s else none
      | .call { callee := .value g, args, .. } =>
        match ev E s g, argsOf E s args.toList with
        | .fn h caps, some vs => callA E r n h (vs ++ caps.map fun (o, a) => .ptr o a) o.dst s
        | _, _ => none
      | op =>
        if readsOk E (lookRule r ops o) s op then
          match stepOp E (E.an.flag f (o.dst.getD 0)) (r.draws && !opWrites ops op) op s with
          | some (v, s1) => some ((s1.del (usedUp op)).put o.dst (keepAs (E.an.flag f (o.dst.getD 0)) v))
          | none => none
        else none
termination_by structural n => n
noncomputable def callA (E : Env0) (r : Rule) : Nat → FuncId → List AV → Option Nat → St → Option St
  | 0, _, _, _, _ => none
  | n + 1, h, vs, dst, s =>
    match reach s.heap (s.heap.length + 1) (addNew [] (vs.flatMap ptrsOf)) with
    | none => none
    | some objs =>
      if !r.draws || objs.all (fun o => !above r.mode o) then
        match cellsAt s.heap objs with
        | some hs =>
          match call E n h (vs.map (renAV (objs.idxOf ·))) (hs.map fun cs => cs.map (renAV (objs.idxOf ·))) with
          | some (v, h') =>
            if r.draws && decide (objs.length < h'.length) then none
            else some (St.put (backIn s objs h') dst (renAll (backTo objs s.heap.length) v))
          | none => none
        | none => none
      else none
termination_by structural n => n
noncomputable def call (E : Env0) : Nat → FuncId → List AV → Heap → Option (AV × Heap)
  | 0, _, _, _ => none
  | n + 1, h, vs, hp =>
    if E.ok h then
      match E.P.funcs[h]? with
      | some fn => match fn.body with
        | some c =>
          if vs.length ≤ fn.ntmps then
            match exec E h n c { env := bindArgs 0 vs, heap := hp } with
            | some (.normal, s) => leave E.P fn hp.length s
            | some (.ret, s) => leave E.P fn hp.length s
            | _ => none
          else none
        | none => none
      | none => none
    else none
termination_by structural n => n
end

noncomputable def runOps (E : Env0) (f : FuncId) (r : Rule) (ops : Array Oper) (n : Nat) (l : List Oper) (s : St) : Option St := foldOps (fun o s => runOp E f r ops n o s) l s
theorem runOps_nil {E : Env0} {f : FuncId} {r : Rule} {ops : Array Oper} {n : Nat} {s : St} : runOps E f r ops n [] s = some s := rfl
theorem runOps_cons {E : Env0} {f : FuncId} {r : Rule} {ops : Array Oper} {n : Nat} {o : Oper} {l : List Oper} {s : St} : runOps E f r ops n (o :: l) s = match runOp E f r ops n o s with | some s1 => runOps E f r ops n l s1 | none => none := rfl
theorem exec_region (E : Env0) (f : FuncId) (n id : Nat) (ops : Array Oper) (draw : Bool) (s : St) : exec E f (n + 1) (.region id ops draw) s =
    match (if draw then if freshB E.an f ops s = false then none else agree ((E.an.order f id).map fun l => runOps E f { draws := true, mode := E.an.mode f id } ops n (ordered ops l) s) else runOps E f { draws := false, mode := E.an.mode f id } ops n ops.toList s) with
    | some s1 => some (.normal, { s1 with env := clearE s1.env (E.an.clear f id) })
    | none => none := rfl

end Go.Ab
