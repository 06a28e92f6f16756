/- The typed machine: the abstract machine's steps over typed data, in the style of continuations, so that the kernel can compute what a function does with unknown arguments. Definitions alone. -/
import Derived.Test.YtfemjbmfpnpjfaaDoorAbsMono
namespace Go.Ab

/-- Atomic data, typed: a list's elements are of a Lean type. -/
inductive Leaf (TC : Type) (Ty : TC → Type) where
  | i (k : IntKind) (n : Int)
  | b (x : Bool)
  | s (l : List UInt8)
  | l (c : TC) (xs : List (Ty c))
  | o (v : Value)

/-- How Lean's types stand for the program's. -/
structure Sig where
  TC : Type
  [dec : DecidableEq TC]
  Ty : TC → Type
  enc : (c : TC) → Ty c → D
  cells : (c : TC) → Ty c → List (Leaf TC Ty)
  ofCells : (c : TC) → List (Leaf TC Ty) → Option (Ty c)
  agg : TC → Bool
  size : TC → Nat
  /-- the element of a slice type -/
  elem : TypeId → Option TC
  /-- the slices among a type's cells -/
  lists : TypeId → List (Option TC)
attribute [instance] Sig.dec

variable (S : Sig)
abbrev Lf := Leaf S.TC S.Ty
/-- Plain data: an atom, or the cells of a struct. -/
inductive PD where
  | lf (x : Leaf S.TC S.Ty)
  | ag (cs : List (Leaf S.TC S.Ty))
/-- What a temporary or a cell holds, typed. -/
inductive TL where
  | undef
  | skipped
  | d (x : PD S)
  | own (c : S.TC) (xs : List (S.Ty c)) (lent : Bool)
  | loc (p : Place)
  | elt (p : Place) (i off : Nat)
  | ptr (o off : Nat)
  | view (cs : List (Leaf S.TC S.Ty))
  | fn (f : Nat) (caps : List (Nat × Nat))
inductive TV where
  | fl (x : TL S)
  | agg (cs : List (TL S))
  | tup (vs : List (TL S))
abbrev TEnv := List (Nat × TV S)
abbrev THeap := List (List (TL S))
structure TSt where
  env : TEnv S
  heap : THeap S

variable {S}
def leafD : Leaf S.TC S.Ty → D
  | .i k n => .v (.int k n)
  | .b x => .v (.bool x)
  | .s l => .v (.string ⟨⟨l⟩⟩)
  | .l c xs => .list (xs.map (S.enc c))
  | .o v => .v v
def PD.toD : PD S → D
  | .lf x => leafD x
  | .ag cs => .agg (cs.map leafD)
def TL.toA : TL S → AV
  | .undef => .undef
  | .skipped => .skipped
  | .d x => .d x.toD
  | .own c xs l => .own (xs.map (S.enc c)) l
  | .loc p => .loc p
  | .elt p i off => .elt p i off
  | .ptr o off => .ptr o off
  | .view cs => .view (cs.map leafD)
  | .fn f caps => .fn f caps
def TV.toA : TV S → AV
  | .fl x => x.toA
  | .agg cs => .agg (cs.map TL.toA)
  | .tup vs => .tup (vs.map TL.toA)
def envA (e : TEnv S) : Env := e.map fun (k, v) => (k, v.toA)
def heapA (h : THeap S) : Heap := h.map fun cs => cs.map TL.toA
def TSt.toS (s : TSt S) : St := { env := envA s.env, heap := heapA s.heap }

/-- Packing a struct's or an atom's cells. -/
def packT (g : Bool) (cs : List (Leaf S.TC S.Ty)) : PD S :=
  if g then .ag cs else match cs with | x :: _ => .lf x | [] => .ag []

structure Sig.Ok (S : Sig) (P : Program) : Prop where
  enc_eq : ∀ c x, S.enc c x = (packT (S := S) (S.agg c) (S.cells c x)).toD
  of_eq : ∀ c cs x, S.ofCells c cs = some x → (S.cells c x).map (leafD (S := S)) = cs.map leafD
  inj : ∀ c x y, S.enc c x = S.enc c y → x = y
  len : ∀ c x, (S.cells c x).length = S.size c
  pos : ∀ c, 0 < S.size c
  one : ∀ c, S.agg c = false → S.size c = 1
  elem : ∀ t c, S.elem t = some c → ∃ e, tyElem P t = some e ∧ tyAgg P e = some (S.agg c) ∧ tySize P e = some (S.size c)

def getT : TEnv S → Nat → TV S
  | [], _ => .fl .undef
  | (k, v) :: r, t => if k = t then v else getT r t
def setT : TEnv S → Nat → TV S → TEnv S
  | [], t, v => [(t, v)]
  | (k, u) :: r, t, v => if t < k then (t, v) :: (k, u) :: r else if t = k then (t, v) :: r else (k, u) :: setT r t v
def eraseT : TEnv S → Nat → TEnv S
  | [], _ => []
  | (k, u) :: r, t => if k = t then eraseT r t else (k, u) :: eraseT r t
def clearT (e : TEnv S) : List Nat → TEnv S
  | [] => e
  | t :: r => clearT (eraseT e t) r
def replT : TEnv S → Nat → TV S → TEnv S
  | [], _, _ => []
  | (k, u) :: r, t, v => if k = t then (k, v) :: r else (k, u) :: replT r t v
def TV.placed : TV S → Bool
  | .fl (.loc _) | .fl (.elt ..) => true
  | _ => false
def TV.isOwn : TV S → Bool
  | .fl (.own ..) => true
  | _ => false
def TL.isOwn : TL S → Bool
  | .own .. => true
  | _ => false
def killT : TEnv S → TEnv S
  | [] => []
  | (k, v) :: r => if v.placed then eraseT (killT r) k else (k, v) :: killT r
def TV.sitsAt (t : Nat) : TV S → Bool
  | .fl (.loc (.slot u)) => u == t
  | .fl (.elt (.slot u) _ _) => u == t
  | _ => false
def killAtT (t : Nat) : TEnv S → TEnv S
  | [] => []
  | (k, v) :: r => if v.sitsAt t then eraseT (killAtT t r) k else (k, v) :: killAtT t r
def putT (e : TEnv S) (t : Nat) (v : TV S) : TEnv S :=
  match v with
  | .fl .undef => eraseT (if (getT e t).isOwn then killAtT t e else e) t
  | .fl (.own c xs l) => setT (killAtT t e) t (.fl (.own c xs l))
  | v => setT (if (getT e t).isOwn then killAtT t e else e) t v
def TSt.put (s : TSt S) (dst : Option Nat) (v : TV S) : TSt S :=
  match dst with
  | some t => { s with env := putT s.env t v }
  | none => s
def TSt.del (s : TSt S) : List Nat → TSt S
  | [] => s
  | t :: r => TSt.del { s with env := putT s.env t (.fl .undef) } r

/-- A constant atom; 'c' tells of which elements an empty slice is. -/
def constT1 (c : Option S.TC) : Value → Option (TL S)
  | .slice none 0 0 => match c with | some c => some (.own c [] false) | none => none
  | .slice .. | .agg _ | .tuple _ | .func .. | .map (some _) | .chan (some _) | .iface .. | .pointer (some _) => none
  | .int k n => some (.d (.lf (.i k n)))
  | .bool x => some (.d (.lf (.b x)))
  | .string ⟨⟨l⟩⟩ => some (.d (.lf (.s l)))
  | v => some (.d (.lf (.o v)))
def constTs : List (Option S.TC) → List Value → Option (List (TL S))
  | _, [] => some []
  | cs, v :: r => match constT1 (cs.headD none) v, constTs cs.tail r with
    | some x, some xs => some (x :: xs)
    | _, _ => none
def constTV (cs : List (Option S.TC)) : Value → TV S
  | .agg vs => match constTs cs vs.toList with | some xs => .agg xs | none => .fl .undef
  | v => match constT1 (cs.headD none) v with | some x => .fl x | none => .fl .undef
def constCells (cs : List (Option S.TC)) : Value → Option (List (TL S))
  | .agg vs => constTs cs vs.toList
  | v => match constT1 (cs.headD none) v with | some x => some [x] | none => none

def TV.cells : TV S → List (TL S)
  | .agg cs => cs
  | .fl (.d (.ag cs)) => cs.map fun x => .d (.lf x)
  | .fl x => [x]
  | .tup _ => []

def freezeT : TL S → Option (Leaf S.TC S.Ty)
  | .d (.lf x) => some x
  | .own c xs _ => some (.l c xs)
  | _ => none
def freezeTs : List (TL S) → Option (List (Leaf S.TC S.Ty))
  | [] => some []
  | c :: r => match freezeT c, freezeTs r with
    | some x, some xs => some (x :: xs)
    | _, _ => none
/-- A value made plain. -/
def freezeP : TV S → Option (PD S)
  | .agg cs => match freezeTs cs with | some ds => some (.ag ds) | none => none
  | .fl (.d x) => some x
  | .fl (.own c xs _) => some (.lf (.l c xs))
  | _ => none
def TL.noAg : TL S → Bool
  | .d (.ag _) => false
  | _ => true
def keepT (fl : Flag) (v : TV S) : Option (TV S) :=
  match fl, v with
  | .view, .fl (.own c xs _) => some (.fl (.d (.lf (.l c xs))))
  | .view, .agg cs => match freezeTs cs with | some ds => some (.fl (.d (.ag ds))) | none => if cs.all TL.noAg then some (.agg cs) else none
  | _, v => some v
def allLentT : List (TL S) → Bool
  | [] => true
  | .own _ _ l :: r => l && allLentT r
  | _ :: r => allLentT r

def cellT (h : THeap S) (o off : Nat) : TL S := match h[o]? with | some cs => (cs[off]?).getD .undef | none => .undef
def setCellT (h : THeap S) (o off : Nat) (v : TL S) : THeap S :=
  match h[o]? with
  | some cs => h.set o (cs.set off v)
  | none => h
def contentT (s : TSt S) : Place → TV S
  | .slot t => getT s.env t
  | .cell o off => .fl (cellT s.heap o off)
def setPlaceT (s : TSt S) (p : Place) (v : TL S) : TSt S :=
  match p with
  | .slot t => { s with env := putT s.env t (.fl v) }
  | .cell o off => { env := killT s.env, heap := setCellT s.heap o off v }
def lendPlaceT (s : TSt S) (p : Place) (v : TL S) : TSt S :=
  match p with
  | .slot t => { s with env := setT s.env t (.fl v) }
  | .cell o off => { s with heap := setCellT s.heap o off v }

/-- What the typed machine is told beside. 'res': the results' and the handed variables' kinds. -/
inductive LK (TC : Type) where
  | i (k : IntKind) | b | s | l (c : TC)
inductive OT (S : Sig) where
  | lf (k : LK S.TC)
  | own (c : S.TC) (lent : Bool)
  | ag (c : S.TC)
  | ptr (o off : Nat)
  | fn (f : Nat) (caps : List (Nat × Nat))
structure OSpec (S : Sig) where
  res : List (OT S)
  heap : List (List (OT S))

structure TEn where
  E : Env0
  S : Sig
  /-- results of a function; variables that it makes and hands out -/
  res : FuncId → List (OT S)
  news : FuncId → List (List (OT S))
  cut : FuncId → Nat → Bool

variable {T : TEn}
def evT (T : TEn) (s : TSt T.S) (t : TypeId) : Operand → TV T.S
  | .tmp t => getT s.env t
  | .const v => constTV (T.S.lists t) v
  | .global _ => .fl .undef
  | .func f => .fl (.fn f [])
def plainT : TV S → Option (PD S)
  | .fl (.d x) => some x
  | _ => none
def plainCT (T : TEn) (s : TSt T.S) (t : TypeId) (x : Operand) : Option (PD T.S) :=
  match x with
  | .const v => freezeP (constTV (T.S.lists t) v)
  | _ => plainT (evT T s t x)
def plainsCT (T : TEn) (s : TSt T.S) (t : TypeId) : List Operand → Option (List (PD T.S))
  | [] => some []
  | x :: r => match plainCT T s t x, plainsCT T s t r with
    | some a, some as => some (a :: as)
    | _, _ => none
def movableT : TV S → Option (TV S)
  | .fl .undef | .fl .skipped | .fl (.loc _) | .fl (.elt ..) | .tup _ => none
  | v => some v

def moveOrT : TV S → Option (TV S)
  | .fl (.elt p i off) => some (.fl (.elt p i off))
  | v => movableT v

def readPlaceT (fl : Flag) (q : Bool) (s : TSt S) (p : Place) : Option (TV S × TSt S) :=
  match contentT s p with
  | .fl (.own c xs l) => match fl with
    | .keep => some (.fl (.loc p), s)
    | .view => if l then some (.fl (.d (.lf (.l c xs))), s) else if q then none else some (.fl (.d (.lf (.l c xs))), lendPlaceT s p (.own c xs true))
  | .fl .undef | .fl .skipped | .fl (.loc _) | .agg _ => none
  | v => some (v, s)

def lendFromT (s : TSt S) (o off : Nat) : Nat → TSt S
  | 0 => s
  | n + 1 => lendFromT (match cellT s.heap o off with | .own c xs false => lendPlaceT s (.cell o off) (.own c xs true) | _ => s) o (off + 1) n

/-! The parts that unknown data decide, in the style of continuations. -/
def nth {α β : Type} (xs : List α) (n : Int) (k : α → Option β) : Option β :=
  if 0 ≤ n then match xs[n.toNat]? with | some x => k x | none => none else none
def nthN {α β : Type} (xs : List α) (n : Nat) (k : α → Option β) : Option β :=
  match xs[n]? with | some x => k x | none => none
def capOk {β : Type} (n : Nat) (k : Option β) : Option β := if n ≤ maxElems then k else none
def hiK {β : Type} (len : Nat) (n : Int) (k : Nat → Option β) : Option β := if 0 ≤ n ∧ n ≤ (len : Int) then k n.toNat else none
def chk {β : Type} (p : Prop) [Decidable p] (k : Option β) : Option β := if p then k else none

variable {β : Type}
def loadT (T : TEn) (fl : Flag) (q : Bool) (t : TypeId) (a : TV T.S) (s : TSt T.S) (k : TV T.S → TSt T.S → Option β) : Option β :=
  match tyAgg T.E.P t, tySize T.E.P t with
  | some false, _ =>
    match a with
    | .fl (.ptr o off) => match readPlaceT fl q s (.cell o off) with | some (v, s1) => k v s1 | none => none
    | .fl (.view (c :: _)) => k (.fl (.d (.lf c))) s
    | .fl (.elt p i off) => match contentT s p with
      | .fl (.own c xs _) => nthN xs i fun x => match (T.S.cells c x).drop off with
        | y :: _ => k (.fl (.d (.lf y))) s
        | [] => none
      | _ => none
    | _ => none
  | some true, some n =>
    match a with
    | .fl (.ptr o off) =>
      match s.heap[o]? with
      | some cs =>
        if off + n ≤ cs.length then
          match freezeTs ((cs.drop off).take n) with
          | some ds =>
            if allLentT ((cs.drop off).take n) then k (.fl (.d (.ag ds))) s
            else if q then none else k (.fl (.d (.ag ds))) (lendFromT s o off n)
          | none => none
        else none
      | none => none
    | .fl (.view cs) => if n ≤ cs.length then k (.fl (.d (.ag (cs.take n)))) s else none
    | .fl (.elt p i off) => match contentT s p with
      | .fl (.own c xs _) => nthN xs i fun x => if n ≤ ((T.S.cells c x).drop off).length then k (.fl (.d (.ag (((T.S.cells c x).drop off).take n)))) s else none
      | _ => none
    | _ => none
  | _, _ => none

def storeCellsT (a : TV T.S) (vs : List (TL T.S)) (s : TSt T.S) (k : TSt T.S → Option β) : Option β :=
  match a with
  | .fl (.ptr o off) =>
    match s.heap[o]? with
    | some cs =>
      if off + vs.length ≤ cs.length then
        k { env := if ((cs.drop off).take vs.length ++ vs).any TL.isOwn then killT s.env else s.env
            heap := s.heap.set o (cs.take off ++ vs ++ cs.drop (off + vs.length)) }
      else none
    | none => none
  | .fl (.elt p i off) =>
    match contentT s p, freezeTs vs with
    | .fl (.own c xs false), some ds => nthN xs i fun x =>
      if off + ds.length ≤ (T.S.cells c x).length ∧ 0 < ds.length then
        match T.S.ofCells c ((T.S.cells c x).take off ++ ds ++ (T.S.cells c x).drop (off + ds.length)) with
        | some y => k (lendPlaceT s p (.own c (xs.set i y) false))
        | none => none
      else none
    | _, _ => none
  | _ => none

def leafOkT : TL S → Bool
  | .d (.ag _) | .undef | .skipped | .loc _ | .elt .. => false
  | _ => true
def storeT (T : TEn) (t : TypeId) (a x : Operand) (s : TSt T.S) (k : TSt T.S → Option β) : Option β :=
  match movableT (evT T s t x), tyAgg T.E.P t, tySize T.E.P t with
  | some v, some _, some n => if v.cells.length = n ∧ v.cells.all leafOkT then storeCellsT (evT T s t a) v.cells (s.del (tmpOf x)) k else none
  | _, _, _ => none

/-! Operators. -/
def andI (k : IntKind) (a b : Int) : Int := k.wrap ((BitVec.ofInt k.bits a) &&& (BitVec.ofInt k.bits b)).toNat
def orI (k : IntKind) (a b : Int) : Int := k.wrap ((BitVec.ofInt k.bits a) ||| (BitVec.ofInt k.bits b)).toNat
def xorI (k : IntKind) (a b : Int) : Int := k.wrap ((BitVec.ofInt k.bits a) ^^^ (BitVec.ofInt k.bits b)).toNat
def andNotI (k : IntKind) (a b : Int) : Int := k.wrap ((BitVec.ofInt k.bits a) &&& ~~~(BitVec.ofInt k.bits b)).toNat
def shlI (k : IntKind) (a b : Int) : Int := k.wrap (a * 2 ^ (min b.toNat k.bits))
def shrI (k : IntKind) (a b : Int) : Int := a.fdiv (2 ^ (min b.toNat k.bits))
def addI (k : IntKind) (a b : Int) : Int := k.wrap (a + b)
def subI (k : IntKind) (a b : Int) : Int := k.wrap (a - b)
def mulI (k : IntKind) (a b : Int) : Int := k.wrap (a * b)
def quoI (k : IntKind) (a b : Int) : Int := k.wrap (a.tdiv b)
def remI (_ : IntKind) (a b : Int) : Int := a.tmod b
def negI (k : IntKind) (a : Int) : Int := k.wrap (0 - a)
def eqB (a b : Int) : Bool := decide (a = b)
def neB (a b : Int) : Bool := !decide (a = b)
def ltB (a b : Int) : Bool := decide (a < b)
def leB (a b : Int) : Bool := decide (a ≤ b)
def eqS (a b : List UInt8) : Bool := decide (a = b)
def ltS (a b : List UInt8) : Bool := Op.bytesLess a b
def leS (a b : List UInt8) : Bool := Op.bytesLess a b || decide (a = b)

abbrev LfK (S : Sig) (β : Type) := Leaf S.TC S.Ty → Option β
def binT' (P : Program) (op : BinOp) (t : TypeId) (x y : Leaf S.TC S.Ty) (k : LfK S β) : Option β :=
  match x, y with
  | .i κ a, .i κ' b => match op with
    | .shl => chk (0 ≤ b) (k (.i κ (shlI κ a b)))
    | .shr => chk (0 ≤ b) (k (.i κ (shrI κ a b)))
    | .add => if κ = κ' then k (.i κ (addI κ a b)) else none
    | .sub => if κ = κ' then k (.i κ (subI κ a b)) else none
    | .mul => if κ = κ' then k (.i κ (mulI κ a b)) else none
    | .quo => if κ = κ' then chk (b ≠ 0) (k (.i κ (quoI κ a b))) else none
    | .rem => if κ = κ' then chk (b ≠ 0) (k (.i κ (remI κ a b))) else none
    | .and => if κ = κ' then k (.i κ (andI κ a b)) else none
    | .or => if κ = κ' then k (.i κ (orI κ a b)) else none
    | .xor => if κ = κ' then k (.i κ (xorI κ a b)) else none
    | .andNot => if κ = κ' then k (.i κ (andNotI κ a b)) else none
    | .eql => if κ = κ' then k (.b (eqB a b)) else none
    | .neq => if κ = κ' then k (.b (neB a b)) else none
    | .lss => if κ = κ' then k (.b (ltB a b)) else none
    | .leq => if κ = κ' then k (.b (leB a b)) else none
    | .gtr => if κ = κ' then k (.b (ltB b a)) else none
    | .geq => if κ = κ' then k (.b (leB b a)) else none
  | .s a, .s b => match op with
    | .add => chk (a.length + b.length ≤ 9223372036854775807) (k (.s (a ++ b)))
    | .eql => k (.b (eqS a b))
    | .neq => k (.b (!eqS a b))
    | .lss => k (.b (ltS a b))
    | .leq => k (.b (leS a b))
    | .gtr => k (.b (!leS a b))
    | .geq => k (.b (!ltS a b))
    | _ => none
  | .b a, .b b => match op, P.underlying t with
    | .eql, some .bool => k (.b (a == b))
    | .neq, some .bool => k (.b (!(a == b)))
    | _, _ => none
  | _, _ => none
def unT (op : UnOp) (x : Leaf S.TC S.Ty) : Option (Leaf S.TC S.Ty) :=
  match op, x with
  | .not, .b x => some (.b (!x))
  | .neg, .i κ n => some (.i κ (negI κ n))
  | _, _ => none
def idxT : TV S → Option Int
  | .fl (.d (.lf (.i _ n))) => some n
  | _ => none

/-! Literals. -/
def fillT (place : Nat → Option (Nat × Nat)) (cells : List (TL S)) : List (Nat × TV S) → Option (List (TL S))
  | [] => some cells
  | (i, v) :: r => match place i with
    | some (off, size) => if v.cells.length = size ∧ off + size ≤ cells.length then fillT place (cells.take off ++ v.cells ++ cells.drop (off + size)) r else none
    | none => none
def fieldTy (P : Program) (t : TypeId) (i : Nat) : TypeId :=
  match P.underlying t with
  | some (.struct fs) => match fs[i]? with | some f => f.type | none => 0
  | some (.array _ e) => e
  | _ => 0
def partsT (T : TEn) (t : TypeId) (s : TSt T.S) : List (Nat × Operand) → Option (List (Nat × TV T.S))
  | [] => some []
  | (i, x) :: r => match movableT (evT T s (fieldTy T.E.P t i) x), partsT T t (s.del (tmpOf x)) r with
    | some v, some vs => some ((i, v) :: vs)
    | _, _ => none
def allLf : List (TL S) → Option (List (Leaf S.TC S.Ty))
  | [] => some []
  | .d (.lf x) :: r => match allLf r with | some xs => some (x :: xs) | none => none
  | _ :: _ => none
def packAggT (cs : List (TL S)) : Option (TV S) :=
  match allLf cs with
  | some ds => some (.fl (.d (.ag ds)))
  | none => if cs.all TL.noAg then some (.agg cs) else none
/-- A list's elements from plain data. -/
def ofPD (c : S.TC) : PD S → Option (S.Ty c)
  | .lf x => if S.agg c then none else S.ofCells c [x]
  | .ag cs => if S.agg c then S.ofCells c cs else none
def ofPDs (c : S.TC) : List (PD S) → Option (List (S.Ty c))
  | [] => some []
  | x :: r => match ofPD c x, ofPDs c r with
    | some y, some ys => some (y :: ys)
    | _, _ => none

def asList (c : S.TC) : Leaf S.TC S.Ty → Option (List (S.Ty c))
  | .l c' xs => if h : c' = c then some (h ▸ xs) else none
  | _ => none

def lenT (T : TEn) (t : TypeId) (a : TV T.S) (s : TSt T.S) : Option Nat :=
  match T.E.P.underlying t, a with
  | some .string, .fl (.d (.lf (.s l))) => some l.length
  | some (.slice _), .fl (.d (.lf (.l _ xs))) => some xs.length
  | some (.slice _), .fl (.loc p) => match contentT s p with | .fl (.own _ xs _) => some xs.length | _ => none
  | _, _ => none

def boundsT (len : Nat) (lo hi : Option (TV S)) (k : Nat → Nat → Option β) : Option β :=
  match hi with
  | none => match lo with
    | none => k 0 len
    | some a => match idxT a with | some n => hiK len n fun l => k l len | none => none
  | some b => match idxT b with
    | none => none
    | some m => hiK len m fun h => match lo with
      | none => k 0 h
      | some a => match idxT a with | some n => hiK h n fun l => k l h | none => none
def sliceT (T : TEn) (t : TypeId) (x : Operand) (lo hi mx : Option Operand) (s : TSt T.S) (k : TV T.S → Option β) : Option β :=
  match mx, plainCT T s t x with
  | none, some (.lf (.s l)) => match T.E.P.underlying t with
    | some .string => boundsT l.length (lo.map (evT T s 0)) (hi.map (evT T s 0)) fun a b => k (.fl (.d (.lf (.s ((l.take b).drop a)))))
    | _ => none
  | none, some (.lf (.l c xs)) => if T.S.elem t = some c then boundsT xs.length (lo.map (evT T s 0)) (hi.map (evT T s 0)) fun a b => k (.fl (.d (.lf (.l c ((xs.take b).drop a))))) else none
  | _, _ => none

/-- The conditions of an append that the types decide. -/
def growOk (P : Program) (t : TypeId) : Bool :=
  match tyElem P t with
  | some e => match tyBytes P e with
    | some b => decide (0 < b ∧ b ≤ 65536) && zeroOk P e
    | none => false
  | none => false
def appendT (T : TEn) (q : Bool) (t : TypeId) (x y : Operand) (s : TSt T.S) (k : TV T.S → TSt T.S → Option β) : Option β :=
  match T.S.elem t, plainCT T s t y with
  | some c, some (.lf yl) => match asList c yl with
    | some ys => if growOk T.E.P t then
        match evT T s t x with
        | .fl (.own c' xs l) => match asList c (.l c' xs) with
          | some xs => capOk (xs.length + ys.length) (k (.fl (.own c (xs ++ ys) l)) s)
          | none => none
        | .fl (.loc p) => match contentT s p with
          | .fl (.own c' xs l) => if q then none else match asList c (.l c' xs) with
            | some xs => capOk (xs.length + ys.length) (k (.fl (.own c (xs ++ ys) l)) (setPlaceT s p .undef))
            | none => none
          | _ => none
        | _ => none
      else none
    | none => none
  | _, _ => none

def indexAddrT (T : TEn) (t : TypeId) (a : TV T.S) (n : Int) (s : TSt T.S) (k : TV T.S → Option β) : Option β :=
  match T.S.elem t, T.E.P.underlying t, a with
  | some c, some (.slice _), .fl (.loc p) => match contentT s p with
    | .fl (.own c' xs _) => if c' = c then nth xs n fun _ => k (.fl (.elt p n.toNat 0)) else none
    | _ => none
  | some c, some (.slice _), .fl (.d (.lf (.l c' xs))) => if c' = c then nth xs n fun x => k (.fl (.view (T.S.cells c' x))) else none
  | _, _, _ => none

def partT (P : Program) (t : TypeId) (cs : List (Leaf S.TC S.Ty)) (off : Nat) : Option (PD S) :=
  match tyAgg P t, tySize P t with
  | some true, some n => if off + n ≤ cs.length then some (.ag ((cs.drop off).take n)) else none
  | some false, _ => match cs[off]? with | some x => some (.lf x) | none => none
  | _, _ => none

def capsT (T : TEn) (s : TSt T.S) : List Operand → Option (List (Nat × Nat))
  | [] => some []
  | x :: r => match evT T s 0 x, capsT T s r with
    | .fl (.ptr o a), some ps => some ((o, a) :: ps)
    | _, _ => none

/-- The operations that no unknown data decide. -/
def plainOp (T : TEn) (fl : Flag) (q : Bool) (ty : TypeId) (op : Op) (s : TSt T.S) : Option (TV T.S × TSt T.S) :=
  match op with
  | .move (.tmp t) => readPlaceT fl q s (.slot t)
  | .move x | .assign x => match moveOrT (evT T s ty x) with | some v => some (v, s) | none => none
  | .alloc e => match tyZero T.E.P e with
    | some z => match constCells (T.S.lists e) z with
      | some cs => some (.fl (.ptr s.heap.length 0), { s with heap := s.heap ++ [cs] })
      | none => none
    | none => none
  | .box e x => match movableT (evT T s e x), tySize T.E.P e with
    | some v, some n => if v.cells.length = n then some (.fl (.ptr s.heap.length 0), { s with heap := s.heap ++ [v.cells] }) else none
    | _, _ => none
  | .build t parts => match tyZero T.E.P t, partsT T t s parts.toList with
    | some (.agg z), some ps => if placesOk T.E.P t then match constTs (T.S.lists t) z.toList with
      | some cs0 => match fillT (fieldPlace T.E.P t) cs0 ps with
        | some cs => match packAggT cs with | some v => some (v, s) | none => none
        | none => none
      | none => none
      else none
    | _, _ => none
  | .buildSlice t n parts => match T.S.elem t, tyElem T.E.P t with
    | some c, some e => match plainsCT T s e (parts.toList.map (·.2)) with
      | some ps => match ofPDs c ps with
        | some xs => if orderedFrom 0 parts.toList ∧ xs.length = n ∧ n ≤ 65536 ∧ zeroOk T.E.P e ∧ smallOk T.E.P e then some (.fl (.own c xs false), s) else none
        | none => none
      | none => none
    | _, _ => none
  | .nilCheck x => match evT T s ty x with
    | .fl (.ptr o off) => some (.fl (.ptr o off), s)
    | .fl (.view cs) => some (.fl (.view cs), s)
    | .fl (.elt p i off) => if (contentT s p).isOwn then some (.fl (.elt p i off), s) else none
    | .fl (.fn f cs) => some (.fl (.fn f cs), s)
    | _ => none
  | .unOp op t x => match plainCT T s t x with
    | some (.lf a) => match unT op a with | some r => some (.fl (.d (.lf r)), s) | none => none
    | _ => none
  | .convert src dst x => match T.E.P.underlying src, T.E.P.underlying dst, plainCT T s src x with
    | some (.int _), some (.int κ), some (.lf (.i _ n)) => some (.fl (.d (.lf (.i κ (κ.wrap n)))), s)
    | some .string, some .string, some (.lf (.s b)) => some (.fl (.d (.lf (.s b))), s)
    | _, _, _ => none
  | .fieldAddr t x i => match structField T.E.P t i with
    | some (off, u) => match tySize T.E.P u with
      | some (_ + 1) => match evT T s 0 x with
        | .fl (.ptr o a) => some (.fl (.ptr o (a + off)), s)
        | .fl (.view cs) => some (.fl (.view (cs.drop off)), s)
        | .fl (.elt p j a) => if (contentT s p).isOwn then some (.fl (.elt p j (a + off)), s) else none
        | _ => none
      | _ => none
    | none => none
  | .field t x i => match plainCT T s t x, structField T.E.P t i with
    | some (.ag cs), some (off, u) => match partT T.E.P u cs off with | some y => some (.fl (.d y), s) | none => none
    | _, _ => none
  | .extract (.tmp t) i => match getT s.env t with
    | .tup vs => match vs[i]? with
      | some (.d x) => some (.fl (.d x), s)
      | some (.ptr o a) => some (.fl (.ptr o a), s)
      | _ => none
    | _ => none
  | .makeFunc (.func f) first caps => if first.size = 0 then match capsT T s caps.toList with | some ps => some (.fl (.fn f ps), s) | none => none else none
  | .call { callee := .builtin .len, args, argTypes } => match args.toList, argTypes.toList with
    | [x], [t] => match lenT T t (evT T s t x) s with | some n => some (.fl (.d (.lf (.i .i64 (n : Int)))), s) | none => none
    | _, _ => none
  | .call { callee := .builtin .max, args, .. } => match args.toList with
    | [x, y] => match plainCT T s 0 x, plainCT T s 0 y with
      | some (.lf (.i κ a)), some (.lf (.i _ b)) => some (.fl (.d (.lf (.i κ (if b > a then b else a)))), s)
      | _, _ => none
    | _ => none
  | .call { callee := .builtin .min, args, .. } => match args.toList with
    | [x, y] => match plainCT T s 0 x, plainCT T s 0 y with
      | some (.lf (.i κ a)), some (.lf (.i _ b)) => some (.fl (.d (.lf (.i κ (if b < a then b else a)))), s)
      | _, _ => none
    | _ => none
  | _ => none

def stepT (T : TEn) (fl : Flag) (q : Bool) (ty : TypeId) (op : Op) (s : TSt T.S) (k : TV T.S → TSt T.S → Option β) : Option β :=
  match op with
  | .load t a => loadT T fl q t (evT T s 0 a) s k
  | .pick c a b => match evT T s 0 c with
    | .fl (.d (.lf (.b t))) => match t with
      | true => match plainCT T s ty a with | some x => k (.fl (.d x)) s | none => none
      | false => match plainCT T s ty b with | some x => k (.fl (.d x)) s | none => none
    | _ => none
  | .binOp op t x y t' => match plainCT T s t x, plainCT T s t' y with
    | some (.lf a), some (.lf b) => binT' T.E.P op t a b fun r => k (.fl (.d (.lf r))) s
    | _, _ => none
  | .slice t x lo hi mx => sliceT T t x lo hi mx s fun v => k v s
  | .indexAddr t x i => match idxT (evT T s 0 i) with
    | some n => indexAddrT T t (evT T s t x) n s fun v => k v s
    | none => none
  | .index t x i => match T.E.P.underlying t, idxT (evT T s 0 i), plainCT T s t x with
    | some .string, some n, some (.lf (.s l)) => nth l n fun b => k (.fl (.d (.lf (.i .u8 b.toNat)))) s
    | _, _, _ => none
  | .makeSlice t l c => match T.S.elem t, tyElem T.E.P t, plainCT T s 0 l, plainCT T s 0 c with
    | some cd, some e, some (.lf (.i .i64 n)), some (.lf (.i .i64 m)) =>
      match (tyZero T.E.P e).bind fun z => freezeP (constTV (T.S.lists e) z), tyBytes T.E.P e with
      | some z, some b => match ofPD cd z with
        | some x => if b ≤ 65536 then chk (n = m ∧ 0 ≤ n ∧ n ≤ 65536) (k (.fl (.own cd (List.replicate n.toNat x) false)) s) else none
        | none => none
      | _, _ => none
    | _, _, _, _ => none
  | .call { callee := .builtin .append, args, argTypes } => match args.toList, argTypes.toList with
    | [x, y], [t, u] => if t = u then appendT T q t x y s k else none
    | _, _ => none
  | op => match plainOp T fl q ty op s with
    | some (v, s1) => k v s1
    | none => none

/-! Calls. -/
def LK.Ty (S : Sig) : LK S.TC → Type
  | .i _ => Int
  | .b => Bool
  | .s => List UInt8
  | .l c => List (S.Ty c)
def OT.Ty : OT S → Type
  | .lf k => k.Ty S
  | .own c _ => List (S.Ty c)
  | .ag c => S.Ty c
  | .ptr .. | .fn .. => Unit
def Prods : List (OT S) → Type
  | [] => Unit
  | [a] => a.Ty
  | a :: b :: r => a.Ty × Prods (b :: r)
def LK.mk : (k : LK S.TC) → k.Ty S → Leaf S.TC S.Ty
  | LK.i κ, n => .i κ n
  | LK.b, x => .b x
  | LK.s, z => .s z
  | LK.l c, xs => .l c xs
def OT.mk : (a : OT S) → a.Ty → TL S
  | .lf k, x => .d (.lf (k.mk x))
  | .own c l, xs => .own c xs l
  | .ag c, x => .d (packT (S.agg c) (S.cells c x))
  | .ptr o off, _ => .ptr o off
  | .fn f caps, _ => .fn f caps
def vals : (l : List (OT S)) → Prods l → List (TL S)
  | [], _ => []
  | [a], x => [a.mk x]
  | a :: b :: r, x => a.mk x.1 :: vals (b :: r) x.2
def LK.of : (k : LK S.TC) → Leaf S.TC S.Ty → Option (k.Ty S)
  | .i κ, .i κ' n => if κ' = κ then some n else none
  | .b, .b x => some x
  | .s, .s z => some z
  | .l c, x => asList c x
  | _, _ => none
def OT.of : (a : OT S) → TL S → Option a.Ty
  | .lf k, .d (.lf x) => k.of x
  | .own c l, .own c' xs l' => if l' = l then asList c (.l c' xs) else none
  | .ag c, .d x => ofPD c x
  | .ptr o off, .ptr o' off' => if o' = o ∧ off' = off then some () else none
  | .fn f cs, .fn f' cs' => if f' = f ∧ cs' = cs then some () else none
  | _, _ => none
def ofVals : (l : List (OT S)) → List (TL S) → Option (Prods l)
  | [], [] => some ()
  | [a], [v] => a.of v
  | a :: b :: r, v :: vs => match a.of v, ofVals (b :: r) vs with
    | some x, some xs => some (x, xs)
    | _, _ => none
  | _, _ => none
def OSpec.all (o : OSpec S) : List (OT S) := o.res ++ o.heap.flatten
abbrev OSpec.Out (o : OSpec S) : Type := Prods o.all
def splitLens : List Nat → List (TL S) → THeap S
  | [], _ => []
  | n :: r, vs => vs.take n :: splitLens r (vs.drop n)
def resOf (o : OSpec S) (x : o.Out) : List (TL S) := (vals o.all x).take o.res.length
def heapOf (o : OSpec S) (x : o.Out) : THeap S := splitLens (o.heap.map List.length) ((vals o.all x).drop o.res.length)

def kindOf : TL S → OT S
  | .d (.lf (.i κ _)) => .lf (.i κ)
  | .d (.lf (.b _)) => .lf .b
  | .d (.lf (.s _)) => .lf .s
  | .d (.lf (.l c _)) => .lf (.l c)
  | .own c _ l => .own c l
  | .ptr o off => .ptr o off
  | .fn f cs => .fn f cs
  | _ => .ptr 0 0
def packResT : List (TL S) → TV S
  | [v] => .fl v
  | vs => .tup vs

/-- What a call comes to on the abstract machine, read as typed data. -/
def CSem (T : TEn) (f : FuncId) (vs : List (TL T.S)) (hs : THeap T.S) (o : OSpec T.S) (x : o.Out) : Prop :=
  ∃ m, call T.E m f (vs.map TL.toA) (heapA hs) = some (packRes ((resOf o x).map TL.toA), heapA (heapOf o x))
open Classical in
noncomputable def callC (T : TEn) (f : FuncId) (vs : List (TL T.S)) (hs : THeap T.S) (o : OSpec T.S) : Option o.Out :=
  if h : ∃ x, CSem T f vs hs o x then some h.choose else none

def ptrsT : TL S → List Nat
  | .ptr o _ => [o]
  | .fn _ cs => cs.map (·.1)
  | _ => []
def ptrsDeepT : TV S → List Nat
  | .agg cs => cs.flatMap ptrsT
  | .tup cs => cs.flatMap ptrsT
  | .fl (.loc (.cell o _)) => [o]
  | .fl (.elt (.cell o _) _ _) => [o]
  | .fl v => ptrsT v
def dropT (m : Nat) : TEnv S → TEnv S
  | [] => []
  | (k, v) :: r => if (ptrsDeepT v).all (fun o => decide (o < m)) then (k, v) :: dropT m r else eraseT (dropT m r) k
def trimOkT (m : Nat) (h : THeap S) : Bool := (h.take m).all fun cs => cs.all fun c => (ptrsT c).all fun o => decide (o < m)
def trimT (m : Nat) (s : TSt S) : TSt S := if trimOkT m s.heap then { env := dropT m s.env, heap := s.heap.take m } else s

/-! Going on behind a piece of code. -/
inductive Fr where
  | seq (b : Code)
  | block (id m : Nat)
  | loop (b : Code) (m : Nat)
noncomputable def unw (E : Env0) (f : FuncId) (n : Nat) : List Fr → Ex → St → Option (Ex × St)
  | [], ex, s => some (ex, s)
  | .seq b :: K, .normal, s => match exec E f n b s with | some (ex, s1) => unw E f n K ex s1 | none => none
  | .seq _ :: K, ex, s => unw E f n K ex s
  | .block id m :: K, .exit id', s => if id' = id then unw E f n K .normal (trim m s) else unw E f n K (.exit id') s
  | .block _ m :: K, .normal, s => unw E f n K .normal (trim m s)
  | .block _ _ :: K, .ret, s => unw E f n K .ret s
  | .loop b m :: K, .normal, s => match exec E f n (.loop b) (trim m s) with | some (ex, s1) => unw E f n K ex s1 | none => none
  | .loop _ _ :: K, ex, s => unw E f n K ex s
/-- A function's way out. -/
def fin (P : Program) (fn : Func) (k : Nat) : Ex → St → Option (AV × Heap)
  | .normal, s | .ret, s => leave P fn k s
  | _, _ => none
structure Fx where
  f : FuncId
  fn : Func
  /-- how many variables were handed in -/
  k : Nat
def Goes (E : Env0) (F : Fx) (c : Code) (K : List Fr) (s : St) (q : AV × Heap) : Prop :=
  ∃ n ex s1 ex' s2, exec E F.f n c s = some (ex, s1) ∧ unw E F.f n K ex s1 = some (ex', s2) ∧ fin E.P F.fn F.k ex' s2 = some q
def BSem (T : TEn) (F : Fx) (o : OSpec T.S) (c : Code) (K : List Fr) (s : TSt T.S) (x : o.Out) : Prop :=
  Goes T.E F c K s.toS (packRes ((resOf o x).map TL.toA), heapA (heapOf o x))
open Classical in
noncomputable def goC (T : TEn) (F : Fx) (o : OSpec T.S) (c : Code) (K : List Fr) (s : TSt T.S) : Option o.Out :=
  if h : ∃ x, BSem T F o c K s x then some h.choose else none

def cellsAtT (h : THeap S) : List Nat → Option (THeap S)
  | [] => some []
  | o :: r => match h[o]?, cellsAtT h r with
    | some cs, some hs => some (cs :: hs)
    | _, _ => none
def renT (ρ : Nat → Nat) : TL S → TL S
  | .ptr o a => .ptr (ρ o) a
  | .fn f cs => .fn f (cs.map fun (o, a) => (ρ o, a))
  | v => v
def argT (T : TEn) (s : TSt T.S) (t : TypeId) (x : Operand) : Option (TL T.S) :=
  match evT T s t x with
  | .fl (.ptr o a) => some (.ptr o a)
  | .fl (.fn f cs) => some (.fn f cs)
  | .fl (.view cs) => some (.view cs)
  | _ => match plainCT T s t x with | some x => some (.d x) | none => none
def argsT (T : TEn) (s : TSt T.S) : List TypeId → List Operand → Option (List (TL T.S))
  | _, [] => some []
  | ts, x :: r => match argT T s (ts.headD 0) x, argsT T s ts.tail r with
    | some v, some vs => some (v :: vs)
    | _, _ => none
def outT : TV S → Option (TL S)
  | .fl (.ptr o a) => some (.ptr o a)
  | .fl (.fn f cs) => some (.fn f cs)
  | v => match freezeP v with | some x => some (.d x) | none => none
def resultT (P : Program) (s : TSt S) : ResultVar → Option (TL S)
  | .tmp t => outT (getT s.env t)
  | .cell a t => match getT s.env a with
    | .fl (.ptr o off) => match tyAgg P t, tySize P t, s.heap[o]? with
      | some true, some n, some cs => if off + n ≤ cs.length then match freezeTs ((cs.drop off).take n) with | some ds => some (.d (.ag ds)) | none => none else none
      | some false, _, some cs => match cs[off]? with | some v => outT (.fl v) | none => none
      | _, _, _ => none
    | _ => none
def resultsT (P : Program) (s : TSt S) : List ResultVar → Option (List (TL S))
  | [] => some []
  | x :: r => match resultT P s x, resultsT P s r with
    | some v, some vs => some (v :: vs)
    | _, _ => none
def freshT (s : TSt S) (k : Nat) : ResultVar → Bool
  | .tmp _ => true
  | .cell a _ => match getT s.env a with | .fl (.ptr o _) => decide (k ≤ o) | _ => false
def leaveT (P : Program) (F : Fx) (o : OSpec S) (s : TSt S) : Option o.Out :=
  match resultsT P s F.fn.results.toList with
  | none => none
  | some vs =>
    if ((vs.flatMap ptrsT) ++ ((s.heap.take F.k).flatMap fun cs => cs.flatMap ptrsT)).all (fun o => decide (o < F.k)) then
      if (F.fn.results.toList.all (freshT s F.k) && decide (F.k ≤ s.heap.length)) = true ∧ vs.length = o.res.length ∧ (s.heap.take F.k).map List.length = o.heap.map List.length then ofVals o.all (vs ++ (s.heap.take F.k).flatten) else none
    else if (F.fn.results.toList.all isTmpRes && ((vs.flatMap ptrsT) ++ (s.heap.flatMap fun cs => cs.flatMap ptrsT)).all (fun o => decide (o < s.heap.length))) = true ∧ vs.length = o.res.length ∧ s.heap.map List.length = o.heap.map List.length then ofVals o.all (vs ++ s.heap.flatten) else none

def heapAddrT : TV S → Option Nat
  | .fl (.ptr o _) => some o
  | .fl (.loc (.cell o _)) => some o
  | .fl (.elt (.cell o _) _ _) => some o
  | _ => none
def hitsT (objs : List Nat) (v : TV S) : Bool := v.placed && (match heapAddrT v with | some o => objs.contains o | none => false)
def killObjsT (objs : List Nat) : TEnv S → TEnv S
  | [] => []
  | (k, v) :: r => if hitsT objs v then eraseT (killObjsT objs r) k else (k, v) :: killObjsT objs r
def writeBackT (h : THeap S) : List Nat → THeap S → THeap S
  | o :: os, cs :: r => writeBackT (h.set o cs) os r
  | _, _ => h
def backInT (s : TSt S) (objs : List Nat) (h' : THeap S) : TSt S :=
  { env := killObjsT objs s.env
    heap := writeBackT s.heap objs (h'.map fun cs => cs.map (renT (backTo objs s.heap.length))) ++ (h'.drop objs.length).map fun cs => cs.map (renT (backTo objs s.heap.length)) }
def renAllT (ρ : Nat → Nat) : TV S → TV S
  | .tup us => .tup (us.map (renT ρ))
  | .fl v => .fl (renT ρ v)
  | v => v
def specOf (T : TEn) (h : FuncId) (hs : THeap T.S) : OSpec T.S := { res := T.res h, heap := hs.map (fun cs => cs.map kindOf) ++ T.news h }
noncomputable def callT (T : TEn) (r : Rule) (h : FuncId) (vs : List (TL T.S)) (dst : Option Nat) (s : TSt T.S) (k : TSt T.S → Option β) : Option β :=
  match reach (heapA s.heap) (s.heap.length + 1) (addNew [] (vs.flatMap ptrsT)) with
  | none => none
  | some objs =>
    if !r.draws || objs.all (fun o => !above r.mode o) then
      match cellsAtT s.heap objs with
      | some hs =>
        match callC T h (vs.map (renT (objs.idxOf ·))) (hs.map fun cs => cs.map (renT (objs.idxOf ·))) (specOf T h (hs.map fun cs => cs.map (renT (objs.idxOf ·)))) with
        | some x =>
          if r.draws && decide (objs.length < (specOf T h (hs.map fun cs => cs.map (renT (objs.idxOf ·)))).heap.length) then none
          else k (TSt.put (backInT s objs (heapOf _ x)) dst (renAllT (backTo objs s.heap.length) (packResT (resOf _ x))))
        | none => none
      | none => none
    else none

noncomputable def doOpT (T : TEn) (F : Fx) (r : Rule) (ops : Array Oper) (o : Oper) (s : TSt T.S) (k : TSt T.S → Option β) : Option β :=
  match o.op with
  | .store t a x => if o.dst.isNone && storesOk T.E (storeRule r ops o) s.toS a then storeT T t a x s k else none
  | .call { callee := .value g, args, argTypes } =>
    match evT T s 0 g, argsT T s argTypes.toList args.toList with
    | .fl (.fn h caps), some vs => callT T r h (vs ++ caps.map fun (o, a) => .ptr o a) o.dst s k
    | _, _ => none
  | op =>
    if readsOk T.E (lookRule r ops o) s.toS op then
      stepT T (T.E.an.flag F.f (o.dst.getD 0)) (r.draws && !opWrites ops op) o.type op s fun v s1 => match keepT (T.E.an.flag F.f (o.dst.getD 0)) v with
        | some w => k ((s1.del (usedUp op)).put o.dst w)
        | none => none
    else none
/-- One operation; where unknown data decide its guard, the temporary is known behind it. -/
noncomputable def opT (T : TEn) (F : Fx) (r : Rule) (ops : Array Oper) (o : Oper) (s : TSt T.S) (k : TSt T.S → Option β) : Option β :=
  match o.guard with
  | none => doOpT T F r ops o s k
  | some (j, want) => match (ops[j]?).bind (·.dst) with
    | none => none
    | some t => match getT s.env t with
      | .fl (.d (.lf (.b b))) => match b with
        | true => if want then doOpT T F r ops o { s with env := replT s.env t (.fl (.d (.lf (.b true)))) } k else k (TSt.put { s with env := replT s.env t (.fl (.d (.lf (.b true)))) } o.dst (.fl .skipped))
        | false => if want then k (TSt.put { s with env := replT s.env t (.fl (.d (.lf (.b false)))) } o.dst (.fl .skipped)) else doOpT T F r ops o { s with env := replT s.env t (.fl (.d (.lf (.b false)))) } k
      | .fl .skipped => k (s.put o.dst (.fl .skipped))
      | _ => none
noncomputable def opsT (T : TEn) (F : Fx) (r : Rule) (ops : Array Oper) : List Oper → TSt T.S → (TSt T.S → Option β) → Option β
  | [], s, k => k s
  | o :: rest, s, k => opT T F r ops o s fun s1 => opsT T F r ops rest s1 k

/-- The first region of a piece of code. -/
def headId : Code → Option Nat
  | .region id _ _ => some id
  | .seq a _ => headId a
  | _ => none
def cutAt (T : TEn) (f : FuncId) (c : Code) : Bool := match headId c with | some id => T.cut f id | none => false

def replO (s : TSt S) (x : Operand) (v : TV S) : TSt S := match x with | .tmp t => { s with env := replT s.env t v } | _ => s
mutual
noncomputable def te (T : TEn) (F : Fx) (o : OSpec T.S) : Nat → Code → List Fr → TSt T.S → Option o.Out
  | 0, c, K, s => goC T F o c K s
  | n + 1, c, K, s => match c with
    | .skip => teK T F o n .normal K s
    | .label _ => teK T F o n .normal K s
    | .region id ops draw => match draw with
      | true => match T.E.an.order F.f id with
        | [l] => if freshB T.E.an F.f ops s.toS = false then none else opsT T F { draws := true, mode := T.E.an.mode F.f id } ops (ordered ops l) s fun s1 => teK T F o n .normal K { s1 with env := clearT s1.env (T.E.an.clear F.f id) }
        | _ => none
      | false => opsT T F { draws := false, mode := T.E.an.mode F.f id } ops ops.toList s fun s1 => teK T F o n .normal K { s1 with env := clearT s1.env (T.E.an.clear F.f id) }
    | .seq a b => te T F o n a (.seq b :: K) s
    | .cond x a b => match evT T s 0 x with
      | .fl (.d (.lf (.b t))) => match t with
        | true => te T F o n a K (replO s x (.fl (.d (.lf (.b true)))))
        | false => te T F o n b K (replO s x (.fl (.d (.lf (.b false)))))
      | _ => none
    | .block id b => te T F o n b (.block id s.heap.length :: K) s
    | .loop b => goC T F o (.loop b) K s
    | .exit id => teK T F o n (.exit id) K s
    | .ret => leaveT T.E.P F o s
    | _ => none
termination_by structural n => n
noncomputable def teK (T : TEn) (F : Fx) (o : OSpec T.S) : Nat → Ex → List Fr → TSt T.S → Option o.Out
  | 0, _, _, _ => none
  | n + 1, ex, K, s => match ex, K with
    | .ret, _ => leaveT T.E.P F o s
    | .normal, [] => leaveT T.E.P F o s
    | .normal, .seq b :: K => if cutAt T F.f b then goC T F o b K s else te T F o n b K s
    | .normal, .block _ m :: K => teK T F o n .normal K (trimT m s)
    | .normal, .loop b m :: K => goC T F o (.loop b) K (trimT m s)
    | .exit id, .seq _ :: K => teK T F o n (.exit id) K s
    | .exit id, .block id' m :: K => if id = id' then teK T F o n .normal K (trimT m s) else teK T F o n (.exit id) K s
    | .exit id, .loop _ _ :: K => teK T F o n (.exit id) K s
    | .exit _, [] => none
termination_by structural n => n
end
end Go.Ab
