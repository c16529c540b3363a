/- Part 1 of 6 of the proof: bodegalaw24.TreeNodes returns true for every input, with the package variable bodega/btree.none as the program lays it. -/
import Derived.Orders
import Derived.Tactics
import Derived.Scope
import Derived.Laws.Entries
import Derived.KernelRfl
import Derived.Laws.Cells
import Derived.Laws.CopyRow
import Derived.Laws.World
import Derived.Laws.StructEq
import Derived.ChangeKeysEq
import Derived.IntWalk
set_option linter.all false
set_option maxRecDepth 100000
set_option maxHeartbeats 4000000
section
namespace Go.Sh

/-- The name of a local block: the slot that made it, and when. -/
structure Key where
  s : Nat
  g : Nat
deriving DecidableEq

/-- Plain values: they hold no reference into local memory. -/
inductive PV where
  | int (k : IntKind) (n : Int)
  | bool (b : Bool)
  | nilp
  | any
  | rows (l : List (List PV))
  | clo (f : Nat) (caps : List (List PV))

/-- The contents of a cell. -/
inductive AV where
  | p (v : PV)
  | nilS
  | ref (k : Key) (r n : Nat)
  | cref (k : Key) (c n e : Nat)
  | ptr (k : Key) (r c : Nat)
  | pb (cells : List PV) (c : Nat)
  | fn (f : Nat) (caps : List Key)

/-- The contents of a slot. -/
inductive TV where
  | c (a : AV)
  | agg (l : List AV)
  | tup (l : List TV)
  | any

abbrev TV.int (k : IntKind) (n : Int) : TV := .c (.p (.int k n))
abbrev TV.bool (b : Bool) : TV := .c (.p (.bool b))
abbrev AV.int (k : IntKind) (n : Int) : AV := .p (.int k n)
abbrev AV.bool (b : Bool) : AV := .p (.bool b)

/-- A local block: a variable, or the rows of a slice. -/
inductive Blk where
  | box (mu : Bool) (l : List AV)
  | arr (mu : Bool) (w : Nat) (l : List (List PV))

inductive TK where
  | int (k : IntKind)
  | bool
  | struct (fs : List (Nat × TypeId × Nat))
  | array (n : Nat) (e : TypeId)
  | slice (e : TypeId)
  | ptr (e : TypeId)
  | other

def TK.isBool : TK → Bool
  | .bool => true
  | _ => false

def TK.isPtr : TK → Bool
  | .ptr _ => true
  | _ => false

def TK.isInt : TK → Bool
  | .int _ => true
  | _ => false

/-- What is known of a type. 'eqv': two values of it are equal if their cells are. -/
structure TI where
  ok : Bool
  size : Nat
  bytes : Nat
  agg : Bool
  eqv : Bool
  kind : TK
  zero : List AV

def zcell : Value → Option AV
  | .int k n => some (.p (.int k n))
  | .bool b => some (.p (.bool b))
  | .slice none 0 0 => some .nilS
  | .pointer none => some (.p .nilp)
  | .agg _ => none
  | .tuple _ => none
  | _ => some (.p .any)

def zcells : List Value → Option (List AV)
  | [] => some []
  | v :: r => (zcell v).bind fun a => (zcells r).map (a :: ·)

def sizeT (P : Program) (t : TypeId) : Nat := ((P.info? t).map (·.size)).getD 0

/-- Fields that lie one behind the other, from a place on. -/
def lined (P : Program) : Nat → List Field → Option Nat
  | n, [] => some n
  | n, f :: r => if f.offset = n then lined P (n + sizeT P f.type) r else none

/-- Types whose values are compared cell by cell. -/
def eqvT (P : Program) : Nat → TypeId → Bool
  | 0, _ => false
  | d + 1, t =>
    match P.underlying t with
    | some (.int _) => sizeT P t == 1
    | some (.struct fs) => !P.stoodInHeld t && lined P 0 fs.toList == some (sizeT P t) && fs.toList.all fun f => f.name != "_" && eqvT P d f.type
    | some (.array n e) => n * sizeT P e == sizeT P t && eqvT P d e
    | _ => false

def isAggD : TypeDesc → Bool
  | .struct _ => true
  | .array _ _ => true
  | _ => false

def ti (P : Program) (t : TypeId) : TI :=
  match P.info? t, P.underlying t with
  | some i, some d =>
    { ok := true, size := i.size, bytes := i.bytes,
      agg := isAggD d,
      eqv := eqvT P 6 t,
      kind := (match d with
        | .int k => .int k
        | .bool => .bool
        | .struct fs => if fs.toList.all (fun f => (P.info? f.type).isSome) then .struct (fs.toList.map fun f => (f.offset, f.type, sizeT P f.type)) else .other
        | .array n e => .array n e
        | .slice e => .slice e
        | .pointer e => .ptr e
        | _ => .other),
      zero := (match i.zero.bind fun v => zcells v.cells.toList with | some l => l | none => List.replicate (i.size + 1) .nilS) }
  | _, _ => { ok := false, size := 1, bytes := 0, agg := false, eqv := false, kind := .other, zero := [] }

/-- Package-level variables; and, of slices that came in, how much room there is behind them, where that is known. -/
structure Glob where
  glob : Nat → Option (List PV)
  caps : Key → Option Nat := fun _ => none

instance : CoeFun Glob (fun _ => Nat → Option (List PV)) := ⟨Glob.glob⟩

structure St where
  env : Nat → TV
  heap : Key → Option Blk
  gen : Nat

def upd (e : Nat → TV) (i : Nat) (v : TV) : Nat → TV := fun j => if j = i then v else e j
def updH (h : Key → Option Blk) (k : Key) (b : Option Blk) : Key → Option Blk := fun j => if j = k then b else h j
def put (e : Nat → TV) : Option Nat → TV → Nat → TV
  | some i, v => upd e i v
  | none, _ => e
def putH (h : Key → Option Blk) : List (Key × Option Blk) → Key → Option Blk
  | [] => h
  | (k, b) :: r => putH (updH h k b) r

/-- What an operation does: the value, the blocks that it turns, the blocks that it looked at. -/
structure Dl where
  v : TV
  wr : List (Key × Option Blk)
  rd : List Key

def St.app (S : St) (dst : Option Nat) (d : Dl) : St := { S with env := put S.env dst d.v, heap := putH S.heap d.wr }

def constT : Value → TV
  | .int k n => .c (.p (.int k n))
  | .bool b => .c (.p (.bool b))
  | .slice none 0 0 => .c .nilS
  | .pointer none => .c (.p .nilp)
  | .agg cs => match zcells cs.toList with | some l => .agg l | none => .any
  | .tuple cs => match cs.toList with | [] => .tup [] | _ => .any
  | _ => .any

def ev (G : Glob) (e : Nat → TV) : Operand → TV
  | .tmp t => e t
  | .const v => constT v
  | .global g => match G g with | some cells => .c (.pb cells 0) | none => .any
  | .func f => .c (.p (.clo f []))

/-- The cells of a value. -/
def cellsOf : TV → Option (List AV)
  | .c a => some [a]
  | .agg l => some l
  | _ => none

def pureL : List AV → Option (List PV)
  | [] => some []
  | .p v :: r => (pureL r).map (v :: ·)
  | .nilS :: r => (pureL r).map (.rows [] :: ·)
  | _ :: _ => none

def val (v : TV) : Option Dl := some ⟨v, [], []⟩


def partOf (I : TI) (l : List AV) (c : Nat) : Option TV :=
  if I.ok then
    if I.agg then (if c + I.size ≤ l.length then some (.agg ((l.drop c).take I.size)) else none)
    else (l[c]?).map .c
  else none

def loadV (I : TI) (h : Key → Option Blk) : TV → Option Dl
  | .c (.ptr k r c) =>
    match h k with
    | some (.box _ l) => if r = 0 then (partOf I l c).map fun v => ⟨v, [], [k]⟩ else none
    | some (.arr _ _ l) => (l[r]?).bind fun row => (partOf I (row.map .p) c).map fun v => ⟨v, [], [k]⟩
    | none => none
  | .c (.pb cells c) => (partOf I (cells.map .p) c).map fun v => ⟨v, [], []⟩
  | _ => none

def setAt {α : Type} (l : List α) (c : Nat) (x : List α) : List α := l.take c ++ (x ++ l.drop (c + x.length))

def storeV (I : TI) (h : Key → Option Blk) (x : TV) : TV → Option Dl
  | .c (.ptr k r c) =>
    match h k, cellsOf x with
    | some (.box true l), some cs =>
      if I.ok = true ∧ r = 0 ∧ cs.length = I.size ∧ c + cs.length ≤ l.length then some ⟨.tup [], [(k, some (.box true (setAt l c cs)))], [k]⟩ else none
    | some (.arr true w l), some cs =>
      match l[r]?, pureL cs with
      | some row, some ps =>
        if I.ok = true ∧ ps.length = I.size ∧ c + ps.length ≤ row.length then some ⟨.tup [], [(k, some (.arr true w (l.set r (setAt row c ps))))], [k]⟩ else none
      | _, _ => none
    | _, _ => none
  | _ => none

def allocV (I : TI) (s g : Nat) : Option Dl :=
  let k : Key := ⟨s, g⟩
  if I.ok = true ∧ I.zero.length = I.size then some ⟨.c (.ptr k 0 0), [(k, some (.box true I.zero))], []⟩ else none

def boxV (I : TI) (s g : Nat) (x : TV) : Option Dl :=
  let k : Key := ⟨s, g⟩
  match cellsOf x with
  | some cs => if cs.length = I.size then some ⟨.c (.ptr k 0 0), [(k, some (.box true cs))], []⟩ else none
  | none => none

def fieldAddrV (I : TI) (f : Nat) : TV → Option Dl
  | .c (.ptr k r c) => match I.kind with | .struct fs => (fs[f]?).bind fun p => if p.2.2 = 0 then none else val (.c (.ptr k r (c + p.1))) | _ => none
  | .c (.pb cells c) => match I.kind with | .struct fs => (fs[f]?).bind fun p => if p.2.2 = 0 then none else val (.c (.pb cells (c + p.1))) | _ => none
  | _ => none

def asInt : TV → Option Int
  | .c (.p (.int _ n)) => some n
  | _ => none

def indexAddrV (P : Program) (I : TI) (h : Key → Option Blk) (x i : TV) : Option Dl :=
  match I.kind, x, asInt i with
  | .array n e, .c (.ptr k r c), some i => if 0 ≤ i ∧ i < n ∧ (ti P e).ok = true then val (.c (.ptr k r (c + i.toNat * (ti P e).size))) else none
  | .array n e, .c (.pb cells c), some i => if 0 ≤ i ∧ i < n ∧ (ti P e).ok = true then val (.c (.pb cells (c + i.toNat * (ti P e).size))) else none
  | .slice e, .c (.p (.rows l)), some i =>
    if 0 ≤ i ∧ i < l.length ∧ (ti P e).ok = true then
      (l[i.toNat]?).bind fun row => if row.length = (ti P e).size then val (.c (.pb row 0)) else none
    else none
  | .slice e, .c (.ref k r n), some i => match h k with
    | some (.arr _ w _) => if 0 ≤ i ∧ i < n ∧ (ti P e).ok = true ∧ w = (ti P e).size then some ⟨.c (.ptr k (r + i.toNat) 0), [], [k]⟩ else none
    | _ => none
  | .slice e, .c (.cref k c n w), some i => match h k with
    | some (.box _ _) => if 0 ≤ i ∧ i < n ∧ w = (ti P e).size ∧ (ti P e).ok = true then some ⟨.c (.ptr k 0 (c + i.toNat * w)), [], [k]⟩ else none
    | _ => none
  | _, _, _ => none

def fieldV (P : Program) (I : TI) (f : Nat) : TV → Option Dl
  | .agg l => match I.kind with | .struct fs => (fs[f]?).bind fun p => (partOf (ti P p.2.1) l p.1).bind val | _ => none
  | _ => none

def indexV (P : Program) (I : TI) (x i : TV) : Option Dl :=
  match I.kind, x, asInt i with
  | .array n e, .agg l, some i => if 0 ≤ i ∧ i < n then (partOf (ti P e) l (i.toNat * (ti P e).size)).bind val else none
  | _, _, _ => none

/-- A byte of a constant string. -/
def strAt (s : ByteArray) (n : Int) : Int := ((s[n.toNat]?).getD 0).toNat

def indexO (P : Program) (t : TypeId) (o : Operand) (x i : TV) : Option Dl :=
  match o with
  | .const (.string s) => match P.underlying t with
    | some .string => match asInt i with
      | some n => if 0 ≤ n ∧ n < s.size then val (.c (.p (.int .u8 (strAt s n)))) else none
      | none => none
    | _ => none
  | _ => indexV P (ti P t) x i


def eqCell : AV → AV → Option Bool
  | .p (.int k a), .p (.int k' b) => if k = k' then some (a == b) else none
  | _, _ => none

def eqCells : List AV → List AV → Option Bool
  | [], [] => some true
  | a :: l, b :: r => (eqCell a b).bind fun x => (eqCells l r).map fun y => x && y
  | _, _ => none

def shlV (k : IntKind) (x y : Int) : Int := k.wrap (x * 2 ^ min y.toNat k.bits)
def shrV (k : IntKind) (x y : Int) : Int := x.fdiv (2 ^ min y.toNat k.bits)

def intOp (op : BinOp) (k : IntKind) (a b : Int) : Option PV :=
  match op with
  | .add => some (.int k (k.wrap (a + b)))
  | .sub => some (.int k (k.wrap (a - b)))
  | .mul => some (.int k (k.wrap (a * b)))
  | .quo => if b = 0 then none else some (.int k (k.wrap (a.tdiv b)))
  | .rem => if b = 0 then none else some (.int k (a.tmod b))
  | .and | .or | .xor | .andNot => some (.int k (Go.bits op k a b))
  | .eql => some (.bool (a == b))
  | .neq => some (.bool (a != b))
  | .lss => some (.bool (decide (a < b)))
  | .leq => some (.bool (decide (a ≤ b)))
  | .gtr => some (.bool (decide (a > b)))
  | .geq => some (.bool (decide (a ≥ b)))
  | _ => none


def binV (I : TI) (op : BinOp) (x y : TV) : Option TV :=
  match op, x, y with
  | .shl, .c (.p (.int k a)), .c (.p (.int _ b)) => if b < 0 then none else some (.c (.p (.int k (shlV k a b))))
  | .shr, .c (.p (.int k a)), .c (.p (.int _ b)) => if b < 0 then none else some (.c (.p (.int k (shrV k a b))))
  | op, .c (.p (.int k a)), .c (.p (.int k' b)) => if k = k' then (intOp op k a b).map fun v => .c (.p v) else none
  | .eql, .c (.p (.bool a)), .c (.p (.bool b)) => if I.kind.isBool then some (.c (.p (.bool (a == b)))) else none
  | .neq, .c (.p (.bool a)), .c (.p (.bool b)) => if I.kind.isBool then some (.c (.p (.bool (!(a == b))))) else none
  | .eql, .c (.p .nilp), .c (.p .nilp) => if I.kind.isPtr then some (.c (.p (.bool true))) else none
  | .neq, .c (.p .nilp), .c (.p .nilp) => if I.kind.isPtr then some (.c (.p (.bool false))) else none
  | .eql, .c (.ptr _ _ _), .c (.p .nilp) => if I.kind.isPtr then some (.c (.p (.bool false))) else none
  | .neq, .c (.ptr _ _ _), .c (.p .nilp) => if I.kind.isPtr then some (.c (.p (.bool true))) else none
  | .eql, .agg l, .agg r => if I.eqv ∧ I.agg ∧ l.length = I.size then (eqCells l r).map fun b => .c (.p (.bool b)) else none
  | .neq, .agg l, .agg r => if I.eqv ∧ I.agg ∧ l.length = I.size then (eqCells l r).map fun b => .c (.p (.bool (!b))) else none
  | _, _, _ => none

def unV (op : UnOp) (x : TV) : Option TV :=
  match op, x with
  | .neg, .c (.p (.int k n)) => some (.c (.p (.int k (k.wrap (0 - n)))))
  | .xor, .c (.p (.int k n)) => some (.c (.p (.int k (Go.bits .xor k (if k.signed then -1 else k.max) n))))
  | .not, .c (.p (.bool b)) => some (.c (.p (.bool (!b))))
  | _, _ => none

def convV (C D : TI) (x : TV) : Option TV :=
  match D.kind, x with
  | .int k, .c (.p (.int _ n)) => if C.ok then some (.c (.p (.int k (k.wrap n)))) else none
  | _, _ => none

def pickV (c a b : TV) : Option TV :=
  match c with
  | .c (.p (.bool t)) => some (if t then a else b)
  | _ => none

def extractV (x : TV) (i : Nat) : Option TV :=
  match x with
  | .tup l => l[i]?
  | _ => none


def buildL (off : Nat → Option (Nat × Nat)) : List AV → List (Nat × TV) → Option (List AV)
  | l, [] => some l
  | l, (i, v) :: r =>
    match off i, cellsOf v with
    | some (o, n), some cs => if cs.length = n ∧ o + cs.length ≤ l.length then buildL off (setAt l o cs) r else none
    | _, _ => none

def buildV (P : Program) (I : TI) (parts : List (Nat × TV)) : Option Dl :=
  if I.zero.length = I.size then match I.kind with
  | .struct fs => (buildL (fun i => (fs[i]?).map fun p => (p.1, p.2.2)) I.zero parts).bind fun l => val (.agg l)
  | .array _ e => if (ti P e).ok then (buildL (fun i => some (i * (ti P e).size, (ti P e).size)) I.zero parts).bind fun l => val (.agg l) else none
  | _ => none
  else none

def buildRows (w : Nat) : List (List PV) → List (Nat × TV) → Option (List (List PV))
  | l, [] => some l
  | l, (i, v) :: r =>
    match (cellsOf v).bind pureL with
    | some ps => if ps.length = w ∧ i < l.length then buildRows w (l.set i ps) r else none
    | none => none

def buildSliceV (P : Program) (I : TI) (s g : Nat) (n : Nat) (parts : List (Nat × TV)) : Option Dl :=
  match I.kind with
  | .slice e =>
    match pureL (ti P e).zero with
    | some z =>
      if z.length = (ti P e).size ∧ n * (ti P e).size ≤ 65536 ∧ (ti P e).ok = true then
        (buildRows (ti P e).size (List.replicate n z) parts).map fun l => ⟨.c (.ref ⟨s, g⟩ 0 n), [(⟨s, g⟩, some (.arr true (ti P e).size l))], []⟩
      else none
    | none => none
  | _ => none


def allW (w : Nat) (l : List (List PV)) : Bool := l.all fun r => r.length == w

def lenV (I : TI) (x : TV) : Option Int :=
  match I.kind, x with
  | .slice _, .c (.p (.rows l)) => some l.length
  | .slice _, .c .nilS => some 0
  | .slice _, .c (.ref _ _ n) => some n
  | .slice _, .c (.cref _ _ n _) => some n
  | .array n _, .agg _ => some n
  | _, _ => none

def chunk (w : Nat) : Nat → List PV → List (List PV)
  | 0, _ => []
  | n + 1, l => l.take w :: chunk w n (l.drop w)

/-- The rows that a slice shows. -/
def rowsOf (h : Key → Option Blk) : TV → Option (List (List PV) × List Key)
  | .c (.p (.rows l)) => some (l, [])
  | .c .nilS => some ([], [])
  | .c (.ref k r n) => match h k with
    | some (.arr _ _ l) => if r + n ≤ l.length then some ((l.drop r).take n, [k]) else none
    | _ => none
  | .c (.cref k c n w) => match h k with
    | some (.box _ l) => if c + n * w ≤ l.length then (pureL ((l.drop c).take (n * w))).map fun ps => (chunk w n ps, [k]) else none
    | _ => none
  | _ => none

def optI (o : Option TV) (d : Int) : Option Int := match o with | none => some d | some x => asInt x

def sliceV (P : Program) (I : TI) (h : Key → Option Blk) (x : TV) (lo hi : Option TV) : Option Dl :=
  match I.kind, x with
  | .slice e, .c (.p (.rows l)) =>
    (optI lo 0).bind fun a => (optI hi l.length).bind fun b =>
      if 0 ≤ a ∧ a ≤ b ∧ b ≤ l.length ∧ (ti P e).ok = true ∧ allW (ti P e).size l then val (.c (.p (.rows ((l.take b.toNat).drop a.toNat)))) else none
  | .slice e, .c .nilS =>
    (optI lo 0).bind fun a => (optI hi 0).bind fun b => if a = 0 ∧ b = 0 ∧ (ti P e).ok = true then val (.c .nilS) else none
  | .slice e, .c (.ref k r n) => match h k with
    | some (.arr _ w l) => (optI lo 0).bind fun a => (optI hi n).bind fun b =>
      if 0 ≤ a ∧ a ≤ b ∧ r + b ≤ l.length ∧ (ti P e).ok = true ∧ w = (ti P e).size then some ⟨.c (.ref k (r + a.toNat) (b - a).toNat), [], [k]⟩ else none
    | _ => none
  | .array n e, .c (.ptr k 0 c) =>
    (optI lo 0).bind fun a => (optI hi n).bind fun b =>
      if 0 ≤ a ∧ a ≤ b ∧ b ≤ n ∧ (ti P e).ok = true then val (.c (.cref k (c + a.toNat * (ti P e).size) (b - a).toNat (ti P e).size)) else none
  | _, _ => none

/-- A slice with a bound for its room: only that it can be made. -/
def slice3V (P : Program) (I : TI) (h : Key → Option Blk) (x : TV) (lo : Option TV) (hi mx : TV) : Option Dl :=
  match I.kind, x with
  | .slice e, .c (.ref k r n) => match h k with
    | some (.arr _ _ l) => (optI lo 0).bind fun a => (asInt hi).bind fun b => (asInt mx).bind fun c =>
      if 0 ≤ a ∧ a ≤ b ∧ b ≤ c ∧ n ≤ l.length ∧ r + c ≤ l.length ∧ (ti P e).ok = true then some ⟨.c (.p .any), [], [k]⟩ else none
    | _ => none
  | _, _ => none

/-- Slices that the machine bears. -/
def maxRows : Nat := 1099511627776

def appendNil (W bytes s g : Nat) (src : List (List PV)) (ks : List Key) : Option Dl :=
  if src.length * bytes ≤ maxRows ∧ src.length ≤ maxRows then
    some ⟨.c (.ref ⟨s, g⟩ 0 src.length), [(⟨s, g⟩, some (.arr true W src))], ks⟩
  else none

def appendRef (W bytes s g : Nat) (k : Key) (r n w : Nat) (l src : List (List PV)) (ks : List Key) : Option Dl :=
  if w = W ∧ r + n ≤ l.length then
    if (r + n < l.length ∨ 0 < r) ∧ r + n + src.length ≤ l.length then some ⟨.c (.ref k r (n + src.length)), [(k, some (.arr true w (setAt l (r + n) src)))], k :: ks⟩
    else if (n + src.length) * bytes ≤ maxRows ∧ n + src.length ≤ maxRows then
      some ⟨.c (.ref ⟨s, g⟩ 0 (n + src.length)), [(k, none), (⟨s, g⟩, some (.arr true w ((l.drop r).take n ++ src)))], k :: ks⟩
    else none
  else none

def appendTo (h : Key → Option Blk) (W bytes s g : Nat) (src : List (List PV)) (ks : List Key) : TV → Option Dl
  | .c .nilS => appendNil W bytes s g src ks
  | .c (.ref k r n) => match h k with
    | some (.arr true w l) => appendRef W bytes s g k r n w l src ks
    | _ => none
  | _ => none

def appendV (P : Program) (I : TI) (h : Key → Option Blk) (s g : Nat) (x y : TV) : Option Dl :=
  match I.kind with
  | .slice e => (rowsOf h y).bind fun src =>
      if (ti P e).ok = true ∧ (ti P e).zero.length = (ti P e).size ∧ allW (ti P e).size src.1 then appendTo h (ti P e).size (ti P e).bytes s g src.1 src.2 x else none
  | _ => none

def copyTo (h : Key → Option Blk) (W : Nat) (src : List (List PV)) (ks : List Key) : TV → Option Dl
  | .c .nilS => some ⟨.c (.p (.int .i64 0)), [], ks⟩
  | .c (.ref k r n) => match h k with
    | some (.arr true w l) => if w = W ∧ r + n ≤ l.length then
        some ⟨.c (.p (.int .i64 (min src.length n : Nat))), [(k, some (.arr true w (setAt l r (src.take n))))], k :: ks⟩ else none
    | _ => none
  | .c (.cref k c n w) => match h k with
    | some (.box true l) => if w = W ∧ c + n * w ≤ l.length then
        some ⟨.c (.p (.int .i64 (min src.length n : Nat))), [(k, some (.box true (setAt l c ((src.take n).flatten.map .p))))], k :: ks⟩ else none
    | _ => none
  | _ => none

def copyV (P : Program) (I : TI) (h : Key → Option Blk) (x y : TV) : Option Dl :=
  match I.kind with
  | .slice e => (rowsOf h y).bind fun src => if (ti P e).ok = true ∧ allW (ti P e).size src.1 then copyTo h (ti P e).size src.1 src.2 x else none
  | _ => none

def clearV (P : Program) (I : TI) (h : Key → Option Blk) (x : TV) : Option Dl :=
  match I.kind with
  | .slice e => match pureL (ti P e).zero with
    | some z => if (ti P e).ok = true ∧ z.length = (ti P e).size then
        match x with
        | .c .nilS => some ⟨.tup [], [], []⟩
        | .c (.ref k r n) => match h k with
          | some (.arr true w l) => if w = (ti P e).size ∧ r + n ≤ l.length then some ⟨.tup [], [(k, some (.arr true w (setAt l r (List.replicate n z))))], [k]⟩ else none
          | _ => none
        | _ => none
      else none
    | none => none
  | _ => none

def makeSliceV (P : Program) (I : TI) (s g : Nat) (n c : TV) : Option Dl :=
  match I.kind, asInt n, asInt c, (match I.kind with | .slice e => pureL (ti P e).zero | _ => none) with
  | .slice e, some n, some c, some z =>
    if 0 ≤ n ∧ n ≤ c ∧ c * (ti P e).bytes ≤ maxRows ∧ c ≤ maxRows ∧ z.length = (ti P e).size ∧ (ti P e).ok = true then
      some ⟨.c (.ref ⟨s, g⟩ 0 n.toNat), [(⟨s, g⟩, some (.arr true (ti P e).size (List.replicate n.toNat z)))], []⟩
    else none
  | _, _, _, _ => none

def max2V : TV → TV → Option TV
  | .c (.p (.int k a)), .c (.p (.int _ b)) => some (.c (.p (.int k (if b > a then b else a))))
  | _, _ => none
def min2V : TV → TV → Option TV
  | .c (.p (.int k a)), .c (.p (.int _ b)) => some (.c (.p (.int k (if b < a then b else a))))
  | _, _ => none

def keyOf1 : TV → Option Key
  | .c (.ptr k 0 0) => some k
  | _ => none
def keysOf : List TV → Option (List Key)
  | [] => some []
  | t :: r => (keyOf1 t).bind fun k => (keysOf r).map (k :: ·)

def builtinV (P : Program) (h : Key → Option Blk) (s g : Nat) (b : Builtin) (ts : List TypeId) (xs : List TV) : Option Dl :=
  match b, ts, xs with
  | .len, t :: _, [x] => (lenV (ti P t) x).bind fun n => val (.c (.p (.int .i64 n)))
  | .append, [t, u], [x, y] => if (ti P u).ok = true ∧ (ti P u).kind.isInt = false then appendV P (ti P t) h s g x y else none
  | .copy, [t, _], [x, y] => copyV P (ti P t) h x y
  | .clear, [t], [x] => clearV P (ti P t) h x
  | .max, _, [x, y] => (max2V x y).bind val
  | .min, _, [x, y] => (min2V x y).bind val
  | _, _, _ => none

def nilCheckV : TV → Option Dl
  | .c (.ptr k r c) => val (.c (.ptr k r c))
  | .c (.pb l c) => val (.c (.pb l c))
  | _ => none

/-- The key of what an operation makes. -/
def sb (dst : Option Nat) (idx : Nat) : Nat := match dst with | some d => 1024 * d | none => 1024 * (100000 + idx)

/-- An operation that is no call of a Go function. -/
def stepF (P : Program) (G : Glob) (o : Oper) (idx g : Nat) (S : St) : Option Dl :=
  match o.op with
  | .move x | .assign x => val (ev G S.env x)
  | .pick c a b => (pickV (ev G S.env c) (ev G S.env a) (ev G S.env b)).bind val
  | .alloc t => allocV (ti P t) (sb o.dst idx) g
  | .box t x => boxV (ti P t) (sb o.dst idx) g (ev G S.env x)
  | .build t ps => buildV P (ti P t) (ps.toList.map fun p => (p.1, ev G S.env p.2))
  | .buildSlice t n ps => buildSliceV P (ti P t) (sb o.dst idx) g n (ps.toList.map fun p => (p.1, ev G S.env p.2))
  | .load t a => loadV (ti P t) S.heap (ev G S.env a)
  | .store t a x => storeV (ti P t) S.heap (ev G S.env x) (ev G S.env a)
  | .nilCheck x => nilCheckV (ev G S.env x)
  | .binOp op t x y _ => (binV (ti P t) op (ev G S.env x) (ev G S.env y)).bind val
  | .unOp op _ x => (unV op (ev G S.env x)).bind val
  | .convert u t x => (convV (ti P u) (ti P t) (ev G S.env x)).bind val
  | .makeSlice t n c => makeSliceV P (ti P t) (sb o.dst idx) g (ev G S.env n) (ev G S.env c)
  | .slice t x lo hi none => sliceV P (ti P t) S.heap (ev G S.env x) (lo.map (ev G S.env)) (hi.map (ev G S.env))
  | .slice t x lo (some hi) (some mx) => slice3V P (ti P t) S.heap (ev G S.env x) (lo.map (ev G S.env)) (ev G S.env hi) (ev G S.env mx)
  | .fieldAddr t x f => fieldAddrV (ti P t) f (ev G S.env x)
  | .field t x f => fieldV P (ti P t) f (ev G S.env x)
  | .indexAddr t x i => indexAddrV P (ti P t) S.heap (ev G S.env x) (ev G S.env i)
  | .index t x i => indexO P t x (ev G S.env x) (ev G S.env i)
  | .extract x i => (extractV (ev G S.env x) i).bind val
  | .makeFunc (.func f) first caps => if first.toList.length = 0 then (keysOf (caps.toList.map (ev G S.env))).bind fun ks => val (.c (.fn f ks)) else none
  | .call { callee := .builtin b, args := xs, argTypes := ts } => builtinV P S.heap (sb o.dst idx) g b ts.toList (xs.toList.map (ev G S.env))
  | _ => none

end Go.Sh
end
section
namespace Go.Sh

/-- A cell at a call's border: a plain value, or a slice that changes hands. -/
inductive BC where
  | p (v : PV)
  | own (w : Nat) (l : List (List PV))
  | ownc (w : Nat) (l : List (List PV)) (c : Nat)

/-- A value at a call's border. 'io': the address of a variable that the callee may turn. 'ro': the address of cells that stay. 'els': a slice whose elements the callee may turn. -/
inductive BV where
  | cell (b : BC)
  | agg (l : List BC)
  | tup (l : List BV)
  | io (l : List BC)
  | ro (l : List PV)
  | els (w : Nat) (l : List (List PV))

abbrev BV.p (v : PV) : BV := .cell (.p v)
abbrev BV.int (k : IntKind) (n : Int) : BV := .cell (.p (.int k n))
abbrev BV.bool (b : Bool) : BV := .cell (.p (.bool b))

/-- May a value lie in memory that was lent? -/
def PV.far : PV → Bool
  | .int _ _ => false
  | .bool _ => false
  | .nilp => false
  | .any => false
  | .rows [] => false
  | _ => true
def farRow : List PV → Bool
  | [] => false
  | v :: r => v.far || farRow r
def farRows : List (List PV) → Bool
  | [] => false
  | v :: r => farRow v || farRows r
def BC.far : BC → Bool
  | .p v => v.far
  | .own _ l => farRows l
  | .ownc _ l _ => farRows l
def farL : List BC → Bool
  | [] => false
  | b :: r => b.far || farL r
mutual
def BV.far : BV → Bool
  | .cell b => b.far
  | .agg l => farL l
  | .tup l => farT l
  | .io l => farL l
  | .ro _ => true
  | .els _ l => farRows l
def farT : List BV → Bool
  | [] => false
  | b :: r => b.far || farT r
end

/-- What a call takes along. -/
structure Took where
  lent : List Key
  own : List Key
  boxes : List (Key × Option Nat)

def Took.add (a b : Took) : Took := ⟨a.lent ++ b.lent, a.own ++ b.own, a.boxes ++ b.boxes⟩
def noneTook : Took := ⟨[], [], []⟩

def capsOf (h : Key → Option Blk) : List Key → Option (List (List PV))
  | [] => some []
  | k :: r => match h k with
    | some (.box _ l) => (pureL l).bind fun ps => (capsOf h r).map (ps :: ·)
    | _ => none

/-- A cell of a value that is handed over. -/
def giveC (h : Key → Option Blk) : AV → Option (BC × Took)
  | .p v => some (.p v, noneTook)
  | .nilS => some (.p (.rows []), noneTook)
  | .ref k r n => (rowsOf h (.c (.ref k r n))).map fun x => (.p (.rows x.1), ⟨x.2, [], []⟩)
  | .cref k c n w => (rowsOf h (.c (.cref k c n w))).map fun x => (.p (.rows x.1), ⟨x.2, [], []⟩)
  | .fn f ks => (capsOf h ks).map fun cs => (.p (.clo f cs), ⟨ks, [], []⟩)
  | _ => none

/-- A cell of a variable whose address is handed over. -/
def giveIo (h : Key → Option Blk) : AV → Option (BC × Took)
  | .p v => some (.p v, noneTook)
  | .nilS => some (.ownc 0 [] 0, noneTook)
  | .ref k r n => match h k with
    | some (.arr true w l) => if r + n ≤ l.length then some (.own w ((l.drop r).take n), ⟨[], [k], []⟩) else none
    | some (.arr false _ l) => if r + n ≤ l.length then some (.p (.rows ((l.drop r).take n)), ⟨[k], [], []⟩) else none
    | _ => none
  | _ => none

def giveL (f : AV → Option (BC × Took)) : List AV → Option (List BC × Took)
  | [] => some ([], noneTook)
  | a :: r => (f a).bind fun x => (giveL f r).map fun y => (x.1 :: y.1, x.2.add y.2)

def giveT (h : Key → Option Blk) : TV → Option (BV × Took)
  | .c (.ptr k 0 0) => match h k with
    | some (.box true l) => (giveL (giveIo h) l).map fun x => (.io x.1, ⟨x.2.lent, k :: x.2.own, (k, none) :: x.2.boxes⟩)
    | _ => none
  | .c (.pb cells 0) => some (.ro cells, noneTook)
  | .c a => (giveC h a).map fun x => (.cell x.1, x.2)
  | .agg l => (giveL (giveC h) l).map fun x => (.agg x.1, x.2)
  | _ => none

/-- A cell of a value of which the callee is told nothing about its slices. -/
def giveW : AV → Option (BC × Took)
  | .p v => some (.p v, noneTook)
  | .nilS => some (.p (.rows []), noneTook)
  | .ref _ _ _ => some (.p .any, noneTook)
  | .cref _ _ _ _ => some (.p .any, noneTook)
  | _ => none

/-- How an argument is handed over: 0 lent (an address: for the callee to turn), 1 given away, 2 lent with its elements to be turned. -/
def giveM (h : Key → Option Blk) : Nat → TV → Option (BV × Took)
  | 0, x => giveT h x
  | 1, .c a => (giveIo h a).map fun x => (.cell x.1, x.2)
  | 1, .agg l => (giveL (giveIo h) l).map fun x => (.agg x.1, x.2)
  | 2, .c (.ref k 0 n) => match h k with
    | some (.arr true w l) => if n ≤ l.length then some (.els w (l.take n), ⟨[], [k], [(k, some n)]⟩) else none
    | _ => none
  | 3, .c a => (giveW a).map fun x => (.cell x.1, x.2)
  | 3, .agg l => (giveL giveW l).map fun x => (.agg x.1, x.2)
  | _, _ => none

def giveTs (h : Key → Option Blk) : List Nat → List TV → Option (List BV × Took)
  | _, [] => some ([], noneTook)
  | [], a :: r => (giveT h a).bind fun x => (giveTs h [] r).map fun y => (x.1 :: y.1, x.2.add y.2)
  | d :: md, a :: r => (giveM h d a).bind fun x => (giveTs h md r).map fun y => (x.1 :: y.1, x.2.add y.2)

/-- What comes back: the value, the new blocks, the next free number. -/
def getC (g : Nat) (s : Nat) : BC → AV × List (Key × Option Blk) × Nat
  | .p v => (.p v, [], s)
  | .own w l => (.ref ⟨s, g⟩ 0 l.length, [(⟨s, g⟩, some (.arr true w l))], s + 1)
  | .ownc w l c => (.ref ⟨s, g⟩ 0 l.length, [(⟨s, g⟩, some (.arr true w (l ++ List.replicate (c - l.length) (List.replicate w .any))))], s + 1)

def getL (g : Nat) : Nat → List BC → List AV × List (Key × Option Blk) × Nat
  | s, [] => ([], [], s)
  | s, b :: r =>
    let x := getC g s b
    let y := getL g x.2.2 r
    (x.1 :: y.1, x.2.1 ++ y.2.1, y.2.2)

mutual
def getT (g : Nat) (s : Nat) : BV → TV × List (Key × Option Blk) × Nat
  | .cell b => let x := getC g s b; (.c x.1, x.2.1, x.2.2)
  | .agg l => let x := getL g s l; (.agg x.1, x.2.1, x.2.2)
  | .tup l => let x := getTs g s l; (.tup x.1, x.2.1, x.2.2)
  | .io l => let x := getL g s l; (.c (.ptr ⟨x.2.2, g⟩ 0 0), x.2.1 ++ [(⟨x.2.2, g⟩, some (.box true x.1))], x.2.2 + 1)
  | .els w l => (.c (.ref ⟨s, g⟩ 0 l.length), [(⟨s, g⟩, some (.arr true w l))], s + 1)
  | .ro cells => (.c (.pb cells 0), [], s)
def getTs (g : Nat) (s : Nat) : List BV → List TV × List (Key × Option Blk) × Nat
  | [] => ([], [], s)
  | b :: r =>
    let x := getT g s b
    let y := getTs g x.2.2 r
    (x.1 :: y.1, x.2.1 ++ y.2.1, y.2.2)
end

def getIos (h0 : Key → Option Blk) (g : Nat) : Nat → List (Key × Option Nat) → List BV → Option (List (Key × Option Blk))
  | _, [], [] => some []
  | s, (k, none) :: ks, .io l :: ls =>
    let x := getL g s l
    (getIos h0 g x.2.2 ks ls).map fun y => x.2.1 ++ (k, some (.box true x.1)) :: y
  | s, (k, some n) :: ks, .els w l :: ls => match h0 k with
    | some (.arr true w0 _) => if w0 = w ∧ l.length = n then (getIos h0 g s ks ls).map fun y => (k, some (.arr true w l)) :: y else none
    | _ => none
  | _, _, _ => none

def freeze (h : Key → Option Blk) : List Key → List (Key × Option Blk)
  | [] => []
  | k :: r => (match h k with
    | some (.box true l) => [(k, some (.box false l))]
    | some (.arr true w l) => [(k, some (.arr false w l))]
    | _ => []) ++ freeze h r

/-- Everything that a call changes, given what was taken and what comes back. 'frz': what was lent stays as it is from now on. -/
def backD (h : Key → Option Blk) (s g : Nat) (t : Took) (frz : Bool) (r : BV) (ios : List BV) : Option Dl :=
  if (t.own.Nodup ∧ (∀ k ∈ t.lent, k ∉ t.own)) ∧ (frz = false → (r.far || farT ios) = false) then
    let x := getT g s r
    (getIos h g x.2.2 t.boxes ios).map fun y =>
      ⟨x.1, (if frz then freeze h t.lent else []) ++ ((t.own.map fun k => (k, none)) ++ (x.2.1 ++ y)), t.lent ++ t.own⟩
  else none

/-- The function that is called, with the arguments. -/
def calleeOf (G : Glob) (e : Nat → TV) (c : Call) : Option (Nat × List TV) :=
  match c.callee with
  | .value f => match ev G e f with
    | .c (.p (.clo f caps)) => some (f, c.args.toList.map (ev G e) ++ caps.map fun l => .c (.pb l 0))
    | .c (.fn f ks) => some (f, c.args.toList.map (ev G e) ++ ks.map fun k => .c (.ptr k 0 0))
    | _ => none
  | _ => none

end Go.Sh
end
section
namespace Go.Sh

inductive PRep (V : Nat → Prop) (w : World) : Value → PV → Prop where
  | int (k : IntKind) (n : Int) : PRep V w (.int k n) (.int k n)
  | bool (b : Bool) : PRep V w (.bool b) (.bool b)
  | nilp : PRep V w (.pointer none) .nilp
  | any (v : Value) (h : v.oneCell' = true) : PRep V w v .any
  | nil (a : Option Addr) (cap : Nat) : PRep V w (.slice a 0 cap) (.rows [])
  | rows (b o : Nat) (l : List (List PV)) (cap W : Nat) (f : Nat → Nat → Value) (hV : V b) (hc : l.length ≤ cap)
      (hw : ∀ (i : Nat) (row : List PV), l[i]? = some row → row.length = W)
      (hcell : ∀ i j, i < l.length → j < W → w.cell? ⟨b, o + i * W + j, none⟩ = some (f i j))
      (hrep : ∀ (i j : Nat) (row : List PV) (c : PV), l[i]? = some row → row[j]? = some c → PRep V w (f i j) c) : PRep V w (.slice (some ⟨b, o, none⟩) l.length cap) (.rows l)
  | clo (f : Nat) (caps : List (List PV)) (b o : Nat → Nat) (g : Nat → Nat → Value) (cs : Array Value)
      (hs : cs.size = caps.length) (hcs : ∀ i, i < caps.length → cs[i]? = some (.pointer (some ⟨b i, o i, none⟩))) (hV : ∀ i, i < caps.length → V (b i))
      (hcell : ∀ (i j : Nat) (cells : List PV), caps[i]? = some cells → j < cells.length → w.cell? ⟨b i, o i + j, none⟩ = some (g i j))
      (hrep : ∀ (i j : Nat) (cells : List PV) (c : PV), caps[i]? = some cells → cells[j]? = some c → PRep V w (g i j) c) : PRep V w (.func (.func f) #[] cs) (.clo f caps)

/-- A row of cells, from a place on, reads as plain values. -/
def CellsRep (V : Nat → Prop) (w : World) (arr : Array Value) (o : Nat) (l : List PV) : Prop :=
  ∀ j c, l[j]? = some c → ∃ v, arr[o + j]? = some v ∧ PRep V w v c

def RowsRep (V : Nat → Prop) (w : World) (arr : Array Value) (o W : Nat) (l : List (List PV)) : Prop :=
  ∀ i row, l[i]? = some row → row.length = W ∧ CellsRep V w arr (o + i * W) row

inductive BCRep (V : Nat → Prop) (w : World) : Value → BC → List Nat → Prop where
  | p {v x} (h : PRep V w v x) : BCRep V w v (.p x) []
  | nil (a : Option Addr) (W : Nat) : BCRep V w (.slice a 0 0) (.own W []) []
  | own (b o cap W : Nat) (l : List (List PV)) (arr : Array Value) (elem : TypeId) (hb : w.heap[b]? = some (.cells arr elem (0, 0)))
      (hsz : o + cap * W ≤ arr.size) (h1 : ∀ v ∈ arr.toList, v.oneCell' = true) (hc : l.length ≤ cap) (hr : RowsRep V w arr o W l) : BCRep V w (.slice (some ⟨b, o, none⟩) l.length cap) (.own W l) [b]
  | nilc (a : Option Addr) (W : Nat) : BCRep V w (.slice a 0 0) (.ownc W [] 0) []
  | ownc (b o cap W : Nat) (l : List (List PV)) (arr : Array Value) (elem : TypeId) (hb : w.heap[b]? = some (.cells arr elem (0, 0)))
      (hsz : o + cap * W ≤ arr.size) (h1 : ∀ v ∈ arr.toList, v.oneCell' = true) (hc : l.length ≤ cap) (hr : RowsRep V w arr o W l) : BCRep V w (.slice (some ⟨b, o, none⟩) l.length cap) (.ownc W l cap) [b]

inductive BLRep (V : Nat → Prop) (w : World) : List Value → List BC → List Nat → Prop where
  | nil : BLRep V w [] [] []
  | cons {v b L vs bs M} (h : BCRep V w v b L) (t : BLRep V w vs bs M) : BLRep V w (v :: vs) (b :: bs) (L ++ M)

mutual
inductive BRep (V : Nat → Prop) (w : World) : Value → BV → List Nat → Prop where
  | cell {v b L} (h : BCRep V w v b L) : BRep V w v (.cell b) L
  | agg {vs : Array Value} {bs L} (h : BLRep V w vs.toList bs L) : BRep V w (.agg vs) (.agg bs) L
  | tup {vs : Array Value} {bs L} (h : BsRep V w vs.toList bs L) : BRep V w (.tuple vs) (.tup bs) L
  | io (b : Nat) (arr : Array Value) (elem : TypeId) {bs L} (hb : w.heap[b]? = some (.cells arr elem (0, 0))) (h : BLRep V w arr.toList bs L) :
      BRep V w (.pointer (some ⟨b, 0, none⟩)) (.io bs) (b :: L)
  | ro (b o : Nat) (cells : List PV) (f : Nat → Value) (hV : V b) (hcell : ∀ j, j < cells.length → w.cell? ⟨b, o + j, none⟩ = some (f j))
      (hrep : ∀ j c, cells[j]? = some c → PRep V w (f j) c) : BRep V w (.pointer (some ⟨b, o, none⟩)) (.ro cells) []
  | els {v W l L} (h : BCRep V w v (.own W l) L) : BRep V w v (.els W l) L
inductive BsRep (V : Nat → Prop) (w : World) : List Value → List BV → List Nat → Prop where
  | nil : BsRep V w [] [] []
  | cons {v b L vs bs M} (h : BRep V w v b L) (t : BsRep V w vs bs M) : BsRep V w (v :: vs) (b :: bs) (L ++ M)
end

def GlobRep (V : Nat → Prop) (w : World) (G : Glob) : Prop :=
  ∀ g cells, G g = some cells → V g ∧ ∃ f : Nat → Value, (∀ j, j < cells.length → w.cell? ⟨g, j, none⟩ = some (f j)) ∧ ∀ j c, cells[j]? = some c → PRep V w (f j) c

structure Frm (w w' : World) (L : List Nat) : Prop where
  os : w'.os = w.os
  tape : w'.tape = w.tape
  output : w'.output = w.output
  size : w.heap.size ≤ w'.heap.size
  same : ∀ b, b < w.heap.size → b ∉ L → w'.heap[b]? = w.heap[b]?

/-- The values of the arguments that are addresses of variables. -/
def ioVals : List BV → List Value → List Value
  | .io _ :: bs, v :: vs => v :: ioVals bs vs
  | .els _ _ :: bs, v :: vs => v :: ioVals bs vs
  | _ :: bs, _ :: vs => ioVals bs vs
  | _, _ => []

def Callable (P : Program) (f : Nat) : Prop := ∃ fn, P.funcs[f]? = some fn ∧ (fn.name == "runtime.NumGoroutine") = false ∧ fn.body.isNone = false

/-- A call of a Go function with these arguments returns this; the variables behind the addresses hold that. -/
def OkD (P : Program) (G : Glob) (f : Nat) (args : List BV) (r : BV) (ios : List BV) : Prop :=
  Callable P f ∧
  ∀ (V : Nat → Prop) (w : World) (vals : List Value) (L : List Nat), BsRep V w vals args L → L.Nodup → (∀ b ∈ L, ¬ V b) → (∀ b, V b → b < w.heap.size) →
    GlobRep V w G → Calls P f vals.toArray w fun e w' => ∃ (v : Value) (V' : Nat → Prop) (L' : List Nat), e = .returned v ∧ BsRep V' w' (v :: ioVals args vals) (r :: ios) L' ∧
      L'.Nodup ∧ (∀ b ∈ L', ¬ V' b ∧ (b ∈ L ∨ w.heap.size ≤ b)) ∧ (∀ b, V b → V' b) ∧
      (∀ b, V' b → b < w'.heap.size ∧ (V b ∨ b ∈ L ∨ w.heap.size ≤ b)) ∧ Frm w w' L

/-- A call returns something of this kind. -/
def Spec (P : Program) (G : Glob) (f : Nat) (args : List BV) (R : BV → List BV → Prop) : Prop :=
  ∃ r ios, R r ios ∧ OkD P G f args r ios

theorem Spec.mono {P G f args} {R R' : BV → List BV → Prop} (h : Spec P G f args R) (k : ∀ r ios, R r ios → R' r ios) : Spec P G f args R' :=
  let ⟨r, ios, a, b⟩ := h; ⟨r, ios, k _ _ a, b⟩

/-- 'Nil' handed over where a slice of one's own, without elements, is looked for. -/
inductive BCle : BC → BC → Prop where
  | refl (b : BC) : BCle b b
  | nil (W : Nat) : BCle (.ownc 0 [] 0) (.own W [])
inductive BLle : List BC → List BC → Prop where
  | nil : BLle [] []
  | cons {a b l m} (h : BCle a b) (t : BLle l m) : BLle (a :: l) (b :: m)
inductive BVle : BV → BV → Prop where
  | refl (b : BV) : BVle b b
  | cell {a b} (h : BCle a b) : BVle (.cell a) (.cell b)
  | agg {l m} (h : BLle l m) : BVle (.agg l) (.agg m)
  | io {l m} (h : BLle l m) : BVle (.io l) (.io m)
inductive BsLe : List BV → List BV → Prop where
  | nil : BsLe [] []
  | cons {a b l m} (h : BVle a b) (t : BsLe l m) : BsLe (a :: l) (b :: m)

theorem BCRep.le {V w v a b L} (h : BCRep V w v a L) (k : BCle a b) : BCRep V w v b L := by
  cases k with
  | refl => exact h
  | nil W =>
    cases h with
    | nilc => exact .nil _ _
    | ownc b o cap W' l arr elem hb hsz h1 hc hr =>
      exact .own b o 0 W [] arr elem hb (by omega) h1 (by simp) (fun i row hi => by simp at hi)

theorem BLRep.le {V w vs l m L} (h : BLRep V w vs l L) (k : BLle l m) : BLRep V w vs m L := by
  induction k generalizing vs L with
  | nil => exact h
  | cons a _ ih => cases h with | cons x t => exact .cons (x.le a) (ih t)

theorem BRep.le {V w v a b L} (h : BRep V w v a L) (k : BVle a b) : BRep V w v b L := by
  cases k with
  | refl => exact h
  | cell k => cases h with | cell x => exact .cell (x.le k)
  | agg k => cases h with | agg x => exact .agg (x.le k)
  | io k => cases h with | io b arr elem hb x => exact .io b arr elem hb (x.le k)

theorem BsRep.le {V w vs l m L} (h : BsRep V w vs l L) (k : BsLe l m) : BsRep V w vs m L := by
  induction k generalizing vs L with
  | nil => exact h
  | cons a _ ih => cases h with | cons x t => exact .cons (x.le a) (ih t)

theorem ioVals_le {l m : List BV} (k : BsLe l m) : ∀ vs : List Value, ioVals l vs = ioVals m vs := by
  induction k with
  | nil => intro vs; rfl
  | @cons a b l m h _ ih =>
    intro vs
    cases vs with
    | nil => cases h with
      | refl => cases a <;> rfl
      | _ => rfl
    | cons v vs => cases h with
      | refl => cases a <;> simp [ioVals, ih]
      | _ => simp [ioVals, ih]

theorem Spec.le {P G f args args'} {R : BV → List BV → Prop} (h : Spec P G f args' R) (k : BsLe args args') : Spec P G f args R := by
  obtain ⟨r, ios, hr, hc, ho⟩ := h
  refine ⟨r, ios, hr, hc, fun V w vals L hb => ?_⟩
  rw [ioVals_le k]
  exact ho V w vals L (hb.le k)

inductive StepD (P : Program) (G : Glob) (o : Oper) (idx g : Nat) (S : St) : Dl → Prop where
  | op {d} (h : stepF P G o idx g S = some d) : StepD P G o idx g S d
  | call {c f xs md bs t frz r ios d} (ho : o.op = .call c) (hc : calleeOf G S.env c = some (f, xs)) (hg : giveTs S.heap md xs = some (bs, t)) (hk : OkD P G f bs r ios)
      (hb : backD S.heap (sb o.dst idx) g t frz r ios = some d) : StepD P G o idx g S d
  | cap {x t e k r n c} (ho : o.op = .call { callee := .builtin .cap, args := #[x], argTypes := #[t] }) (ht : (ti P t).kind = .slice e) (hx : ev G S.env x = .c (.ref k r n)) (hc : G.caps k = some c) :
      StepD P G o idx g S ⟨.c (.p (.int .i64 (c - r : Nat))), [], []⟩
  | keep {x y t u e k r n w l src ks} (ho : o.op = .call { callee := .builtin .append, args := #[x, y], argTypes := #[t, u] }) (ht : (ti P t).kind = .slice e) (hu : (ti P u).ok = true ∧ (ti P u).kind.isInt = false)
      (hx : ev G S.env x = .c (.ref k r n)) (hk : S.heap k = some (.arr true w l)) (hy : rowsOf S.heap (ev G S.env y) = some (src, ks))
      (he : (ti P e).ok = true ∧ (ti P e).zero.length = (ti P e).size ∧ allW (ti P e).size src = true) (hw : w = (ti P e).size ∧ r + n = l.length) (hs : (n + src.length) * (ti P e).bytes ≤ maxRows ∧ n + src.length ≤ maxRows) :
      StepD P G o idx g S ⟨.c (.p (.rows (l.drop r ++ src))), [(k, some (.arr false w l))], k :: ks⟩
  | grow {x y t u e k r n mu w l src ks c} (ho : o.op = .call { callee := .builtin .append, args := #[x, y], argTypes := #[t, u] }) (ht : (ti P t).kind = .slice e) (hu : (ti P u).ok = true ∧ (ti P u).kind.isInt = false)
      (hx : ev G S.env x = .c (.ref k r n)) (hk : S.heap k = some (.arr mu w l)) (hy : rowsOf S.heap (ev G S.env y) = some (src, ks))
      (he : (ti P e).ok = true ∧ (ti P e).zero.length = (ti P e).size ∧ allW (ti P e).size src = true) (hw : w = (ti P e).size ∧ r + n ≤ l.length) (hc : G.caps k = some c) (hg : c < r + n + src.length)
      (hs : (n + src.length) * (ti P e).bytes ≤ maxRows ∧ n + src.length ≤ maxRows) :
      StepD P G o idx g S ⟨.c (.ref ⟨sb o.dst idx, g⟩ 0 (n + src.length)), [(⟨sb o.dst idx, g⟩, some (.arr true w ((l.drop r).take n ++ src)))], k :: ks⟩
  | over {z f fn tS tR e x y kx rx nx ky ry ny wx lx wy ly ts} (ho : o.op = .call { callee := .value z, args := #[x, y], argTypes := ts }) (hz : ev G S.env z = .c (.p (.clo f [])) ∨ ev G S.env z = .c (.fn f [])) (hf : P.funcs[f]? = some fn)
      (hn : (fn.name == "runtime.NumGoroutine") = false) (hb : fn.body.isNone = true) (h1 : Extern.findNext fn = none) (h2 : Extern.find fn = some (Extern.SlicesOverlaps.overlaps #[tS, tS] #[tR])) (ht : (ti P tS).kind = .slice e)
      (hx : ev G S.env x = .c (.ref kx rx nx)) (hy : ev G S.env y = .c (.ref ky ry ny)) (hkx : S.heap kx = some (.arr true wx lx)) (hky : S.heap ky = some (.arr true wy ly)) (hne : kx ≠ ky)
      (hlx : rx + nx ≤ lx.length) (hly : ry + ny ≤ ly.length) (hok : (ti P e).ok = true) (hwy : wy ≠ 0) :
      StepD P G o idx g S ⟨.c (.p (.bool false)), [], [kx, ky]⟩

/-- Does an operation with a guard run? 'none': it cannot be told. -/
def wants (all : List Oper) (e : Nat → TV) (o : Oper) : Option Bool :=
  match o.guard with
  | none => some true
  | some (j, want) => match (all[j]?).bind (·.dst) with
    | none => none
    | some t => match e t with
      | .c (.p (.bool b)) => some (if want then b else !b)
      | .tup [] => some false
      | _ => none

/-- What an operation touched: slots that named the blocks. -/
structure Fp where
  rd : List Nat
  wr : List Nat
deriving DecidableEq

def Dl.fp (d : Dl) : Fp := ⟨d.rd.map (·.s), d.wr.map (·.1.s)⟩

inductive Run (P : Program) (G : Glob) (all : List Oper) (g : Nat) : Nat → List Oper → St → List Fp → St → Prop where
  | nil {i S} : Run P G all g i [] S [] S
  | skip {i o os S fs S'} (hw : wants all S.env o = some false) (h : Run P G all g (i + 1) os { S with env := put S.env o.dst (.tup []) } fs S') :
      Run P G all g i (o :: os) S (⟨[], []⟩ :: fs) S'
  | step {i o os S d fs S'} (hw : wants all S.env o = some true) (hd : StepD P G o i (g + i) S d) (h : Run P G all g (i + 1) os (S.app o.dst d) fs S') :
      Run P G all g i (o :: os) S (d.fp :: fs) S'

def meets (a b : List Nat) : Bool := a.any fun x => b.contains x
def Fp.apart (a b : Fp) : Bool := !meets a.wr b.wr && !meets a.wr b.rd && !meets a.rd b.wr

/-- The operations that must have run before each. -/
def ancs : List Oper → List (List Nat) → List (List Nat)
  | [], acc => acc
  | o :: os, acc =>
    let direct := (o.after.toList.filter fun e => Region.binds .any e).map (·.on)
    ancs os (acc ++ [direct ++ direct.flatMap fun i => acc.getD i []])

def orderOk (ops : List Oper) (fs : List Fp) : Bool :=
  let an := ancs ops []
  let n := ops.length
  fs.length == n &&
  (List.range n).all fun j => (List.range j).all fun i =>
    (an.getD j []).contains i ||
      (match ops[i]?, ops[j]?, fs[i]?, fs[j]? with
       | some a, some b, some x, some y => Oper.apart ops.toArray a b && x.apart y
       | _, _, _, _ => false)

def edgesOk (ops : List Oper) : Bool :=
  (List.range ops.length).all fun j => match ops[j]? with
    | some o => o.after.toList.all fun e => !Region.binds .any e || decide (e.on < j)
    | none => false

structure Le (A B : St) : Prop where
  env : ∀ t, A.env t = B.env t ∨ A.env t = .any
  heap : ∀ k, A.heap k = B.heap k ∨ A.heap k = none
  gen : B.gen ≤ A.gen


def rho : List (Key × Key) → Key → Key
  | [], k => k
  | (a, b) :: r, k => if k = a then b else rho r k
def virt : List (Key × Nat) → Key → Option Nat
  | [], _ => none
  | (a, w) :: r, k => if k = a then some w else virt r k

/-- A cell under new names (first) and as it was (second). -/
def RA (h : Key → Option Blk) (rn : List (Key × Key)) (vi : List (Key × Nat)) : AV → AV → Prop
  | .p .any, _ => True
  | .p v, .p v' => v = v'
  | .nilS, .nilS => True
  | .ref k r n, .nilS => r = 0 ∧ n = 0 ∧ (virt vi k).isSome = true
  | .ref k r n, .ref k' r' n' => virt vi k = none ∧ rho rn k = k' ∧ r = r' ∧ n = n'
  | .cref k c n e, .cref k' c' n' e' => virt vi k = none ∧ rho rn k = k' ∧ c = c' ∧ n = n' ∧ e = e'
  | .ptr k r c, .ptr k' r' c' => virt vi k = none ∧ rho rn k = k' ∧ r = r' ∧ c = c'
  | .pb l c, .pb l' c' => l = l' ∧ c = c'
  | .fn f ks, .fn f' ks' => f = f' ∧ ks.map (rho rn) = ks' ∧ ∀ k ∈ ks, virt vi k = none
  | .p (.rows l), .nilS => l = []
  | .p (.rows l), .ref k r n => ∃ W L, h k = some (.arr false W L) ∧ r + n ≤ L.length ∧ l = (L.drop r).take n
  | _, _ => False

def RL (h : Key → Option Blk) (rn : List (Key × Key)) (vi : List (Key × Nat)) : List AV → List AV → Prop
  | [], [] => True
  | a :: l, b :: r => RA h rn vi a b ∧ RL h rn vi l r
  | _, _ => False

def RT (h : Key → Option Blk) (rn : List (Key × Key)) (vi : List (Key × Nat)) : TV → TV → Prop
  | .any, _ => True
  | .c a, .c b => RA h rn vi a b
  | .agg l, .agg l' => RL h rn vi l l'
  | .tup l, .tup l' => l = [] ∧ l' = []
  | _, _ => False

def RB (h : Key → Option Blk) (rn : List (Key × Key)) (vi : List (Key × Nat)) : Blk → Blk → Prop
  | .box mu l, .box mu' l' => mu = mu' ∧ RL h rn vi l l'
  | .arr mu w l, .arr mu' w' l' => mu = mu' ∧ w = w' ∧ l = l'
  | _, _ => False

structure Ren (A B : St) : Prop where
  ex : ∃ rn vi, (∀ t, RT B.heap rn vi (A.env t) (B.env t)) ∧
    (∀ k b, A.heap k = some b → (∃ W, virt vi k = some W ∧ b = .arr true W []) ∨ (virt vi k = none ∧ ∃ b', B.heap (rho rn k) = some b' ∧ RB B.heap rn vi b b')) ∧
    (∀ k k', A.heap k ≠ none → A.heap k' ≠ none → virt vi k = none → virt vi k' = none → rho rn k = rho rn k' → k = k') ∧
    (∀ k, virt vi k ≠ none ∨ rho rn k ≠ k → B.gen ≤ k.g ∧ k.g < A.gen) ∧ B.gen ≤ A.gen

def Blk.still : Blk → Blk
  | .box _ l => .box false l
  | .arr _ w l => .arr false w l

def outOf (id : Nat) : Exit → Exit
  | .exit i => if i = id then .normal else .exit i
  | e => e

inductive BS (P : Program) (G : Glob) : Code → St → Exit → St → Prop where
  | skip {S} : BS P G .skip S .normal S
  | label {l S} : BS P G (.label l) S .normal S
  | ret {S} : BS P G .ret S .ret S
  | exit {id S} : BS P G (.exit id) S (.exit id) S
  | seqN {a b S S₁ e S'} (h : BS P G a S .normal S₁) (h' : BS P G b S₁ e S') : BS P G (.seq a b) S e S'
  | seqX {a b S e S'} (h : BS P G a S e S') (he : e ≠ .normal) : BS P G (.seq a b) S e S'
  | cond {c a b S t e S'} (hc : ev G S.env c = .c (.p (.bool t))) (h : BS P G (if t then a else b) S e S') : BS P G (.cond c a b) S e S'
  | block {id a S e S'} (h : BS P G a S e S') : BS P G (.block id a) S (outOf id e) S'
  | loopN {a S S₁ e S'} (h : BS P G a S .normal S₁) (h' : BS P G (.loop a) S₁ e S') : BS P G (.loop a) S e S'
  | loopX {a S e S'} (h : BS P G a S e S') (he : e ≠ .normal) : BS P G (.loop a) S e S'
  | scope {a S e S'} (h : BS P G a S e S') (he : ∀ l, e ≠ .goto l) : BS P G (.scope a) S e S'
  | region {id S ops fs S'} (draw : Bool) (h : Run P G ops S.gen 0 ops S fs S') (hl : ops.length ≤ 1000) (hd : draw = true → edgesOk ops = true ∧ orderOk ops fs = true) :
      BS P G (.region id ops.toArray draw) S .normal { S' with gen := S.gen + 1000 }
  | weak {c A S e S'} (h : BS P G c A e S') (hl : Le A S) : BS P G c S e S'
  | ren {c A S e S'} (h : BS P G c A e S') (hl : Ren A S) : BS P G c S e S'
  | frz {c S e S'} (k : Key) (b : Blk) (hk : S.heap k = some b) (h : BS P G c { S with heap := updH S.heap k (some b.still) } e S') : BS P G c S e S'

/-- 'From here the code comes to an end of this kind.' -/
def swp (P : Program) (G : Glob) (c : Code) (Q : Exit → St → Prop) (S : St) : Prop := ∃ e S', Q e S' ∧ BS P G c S e S'

theorem swp_mono {P G c S} {Q Q' : Exit → St → Prop} (h : swp P G c Q S) (k : ∀ e S, Q e S → Q' e S) : swp P G c Q' S :=
  let ⟨e, S', a, b⟩ := h; ⟨e, S', k _ _ a, b⟩

/-- The rest of a sequence. -/
def thenS (K : St → Prop) (Q : Exit → St → Prop) : Exit → St → Prop
  | .normal, S => K S
  | e, S => Q e S

def blockS (id : Nat) (Q : Exit → St → Prop) : Exit → St → Prop
  | .exit i, S => if i = id then Q .normal S else Q (.exit i) S
  | e, S => Q e S

theorem swp_skip {P G S} {Q : Exit → St → Prop} (h : Q .normal S) : swp P G .skip Q S := ⟨_, _, h, .skip⟩
theorem swp_label {P G l S} {Q : Exit → St → Prop} (h : Q .normal S) : swp P G (.label l) Q S := ⟨_, _, h, .label⟩
theorem swp_ret {P G S} {Q : Exit → St → Prop} (h : Q .ret S) : swp P G .ret Q S := ⟨_, _, h, .ret⟩
theorem swp_exit {P G id S} {Q : Exit → St → Prop} (h : Q (.exit id) S) : swp P G (.exit id) Q S := ⟨_, _, h, .exit⟩

theorem swp_seq {P G a b S} {Q : Exit → St → Prop} (h : swp P G a (thenS (swp P G b Q) Q) S) : swp P G (.seq a b) Q S := by
  obtain ⟨e, S', hq, hb⟩ := h
  by_cases he : e = .normal
  · subst he
    obtain ⟨e', S'', hq', hb'⟩ := hq
    exact ⟨_, _, hq', .seqN hb hb'⟩
  · refine ⟨e, S', ?_, .seqX hb he⟩
    cases e <;> first | exact hq | exact absurd rfl he

theorem swp_cond {P G c a b S} {Q : Exit → St → Prop} (t : Bool) (hc : ev G S.env c = .c (.p (.bool t)))
    (h1 : t = true → swp P G a Q S) (h2 : t = false → swp P G b Q S) : swp P G (.cond c a b) Q S := by
  cases t
  · obtain ⟨e, S', hq, hb⟩ := h2 rfl; exact ⟨_, _, hq, .cond hc hb⟩
  · obtain ⟨e, S', hq, hb⟩ := h1 rfl; exact ⟨_, _, hq, .cond hc hb⟩

theorem swp_block {P G id a S} {Q : Exit → St → Prop} (h : swp P G a (blockS id Q) S) : swp P G (.block id a) Q S := by
  obtain ⟨e, S', hq, hb⟩ := h
  refine ⟨outOf id e, S', ?_, .block hb⟩
  cases e <;> simp only [blockS, outOf] at hq ⊢ <;> try exact hq
  split <;> simp_all

theorem swp_scope {P G a S} {Q : Exit → St → Prop} (h : swp P G a (fun e S => (∀ l, e ≠ .goto l) ∧ Q e S) S) : swp P G (.scope a) Q S :=
  let ⟨_, _, hq, hb⟩ := h; ⟨_, _, hq.2, .scope hb hq.1⟩

theorem swp_weak {P G c S} {Q : Exit → St → Prop} (A : St) (hl : Le A S) (h : swp P G c Q A) : swp P G c Q S :=
  let ⟨_, _, hq, hb⟩ := h; ⟨_, _, hq, .weak hb hl⟩

theorem swp_loop {P G a S} {Q : Exit → St → Prop} (I : St → Prop) (μ : St → Nat) (h0 : ∃ A, Le A S ∧ I A)
    (round : ∀ S, I S → swp P G a (thenS (fun S' => ∃ A, Le A S' ∧ I A ∧ μ A < μ S) Q) S) : swp P G (.loop a) Q S := by
  obtain ⟨A, hl, hI⟩ := h0
  refine swp_weak A hl ?_
  clear hl
  generalize hn : μ A = n
  induction n using Nat.strongRecOn generalizing A with
  | _ n ih =>
    obtain ⟨e, S', hq, hb⟩ := round A hI
    by_cases he : e = .normal
    · subst he
      obtain ⟨B, hl', hI', hlt⟩ := hq
      obtain ⟨e', S'', hq', hb'⟩ := ih (μ B) (hn ▸ hlt) B hI' rfl
      exact ⟨_, _, hq', .loopN hb (.weak hb' hl')⟩
    · refine ⟨e, S', ?_, .loopX hb he⟩
      cases e <;> first | exact hq | exact absurd rfl he

end Go.Sh
end
section
namespace Go.Sh

inductive Tok where
  | go

abbrev Kont := Tok → TV → List (Key × Option Blk) → List Key → Prop
abbrev Post := Tok → Exit → St → Prop

def optK (x : Option Dl) (f : Kont) : Prop :=
  match x with
  | some d => f .go d.v d.wr d.rd
  | none => False
@[congr] theorem optK_congr {x : Option Dl} {y : Unit → Option Dl} {f : Kont} (h : ∀ u, x = y u) : optK x f = optK (y ()) f := by rw [h ()]
@[go_sem ↓] theorem optK_some (v wr rd) (f : Kont) : optK (some ⟨v, wr, rd⟩) f = f .go v wr rd := rfl

def guardK (x : Option Bool) (A B : Tok → Prop) : Prop :=
  match x with
  | some true => A .go
  | some false => B .go
  | none => False
@[congr] theorem guardK_congr {x : Option Bool} {y : Unit → Option Bool} {A B : Tok → Prop} (h : ∀ u, x = y u) : guardK x A B = guardK (y ()) A B := by rw [h ()]
@[go_sem ↓] theorem guardK_true (A B) : guardK (some true) A B = A .go := rfl
@[go_sem ↓] theorem guardK_false (A B) : guardK (some false) A B = B .go := rfl
theorem guardK_split {b : Bool} {A B : Tok → Prop} (h1 : b = true → A .go) (h2 : b = false → B .go) : guardK (some b) A B := by
  cases b
  · exact h2 rfl
  · exact h1 rfl

def condK (x : TV) (A B : Tok → Prop) : Prop :=
  match x with
  | .c (.p (.bool true)) => A .go
  | .c (.p (.bool false)) => B .go
  | _ => False
@[congr] theorem condK_congr {x : TV} {y : Unit → TV} {A B : Tok → Prop} (h : ∀ u, x = y u) : condK x A B = condK (y ()) A B := by rw [h ()]
@[go_sem ↓] theorem condK_true (A B) : condK (.c (.p (.bool true))) A B = A .go := rfl
@[go_sem ↓] theorem condK_false (A B) : condK (.c (.p (.bool false))) A B = B .go := rfl
theorem condK_split {b : Bool} {A B : Tok → Prop} (h1 : b = true → A .go) (h2 : b = false → B .go) : condK (.c (.p (.bool b))) A B := by
  cases b
  · exact h2 rfl
  · exact h1 rfl

/-- 'Do these slices overlap?' asked of slices of different blocks. -/
def overK (P : Program) (h : Key → Option Blk) (f : Nat) (xs : List TV) (K : Kont) : Prop :=
  ∃ (fn : Func) (tS tR e : TypeId) (kx : Key) (rx nx : Nat) (ky : Key) (ry ny wx : Nat) (lx : List (List PV)) (wy : Nat) (ly : List (List PV)),
    xs = [.c (.ref kx rx nx), .c (.ref ky ry ny)] ∧ P.funcs[f]? = some fn ∧
    ((fn.name == "runtime.NumGoroutine") = false ∧ fn.body.isNone = true ∧ Extern.findNext fn = none ∧ Extern.find fn = some (Extern.SlicesOverlaps.overlaps #[tS, tS] #[tR]) ∧ (ti P tS).kind = .slice e) ∧
    (h kx = some (.arr true wx lx) ∧ h ky = some (.arr true wy ly) ∧ kx ≠ ky ∧ rx + nx ≤ lx.length ∧ ry + ny ≤ ly.length ∧ (ti P e).ok = true ∧ wy ≠ 0) ∧ K .go (.c (.p (.bool false))) [] [kx, ky]

/-- A call under way: what is asked of the callee. -/
def callK (P : Program) (G : Glob) (h : Key → Option Blk) (s g : Nat) (f : Nat) (xs : List TV) (K : Kont) : Prop :=
  (∃ md frz bs t, giveTs h md xs = some (bs, t) ∧ Spec P G f bs fun r ios => optK (backD h s g t frz r ios) K) ∨ overK P h f xs K
@[congr] theorem callK_congr {P G h s g f x K} {y : Unit → List TV} (e : ∀ u, x = y u) : callK P G h s g f x K = callK P G h s g f (y ()) K := by rw [e ()]

theorem callK_spec {P G h s g f xs bs bs' t K} {R : BV → List BV → Prop} (md : List Nat) (frz : Bool) (hg : giveTs h md xs = some (bs', t)) (he : bs' = bs) (hs : Spec P G f bs R)
    (k : ∀ r ios, R r ios → optK (backD h s g t frz r ios) K) : callK P G h s g f xs K := by subst he; exact .inl ⟨md, frz, bs', t, hg, hs.mono k⟩

def calleeK (P : Program) (G : Glob) (h : Key → Option Blk) (s g : Nat) (x : Option (Nat × List TV)) (K : Kont) : Prop :=
  match x with
  | some (f, xs) => callK P G h s g f xs K
  | none => False
@[congr] theorem calleeK_congr {P G h s g x K} {y : Unit → Option (Nat × List TV)} (e : ∀ u, x = y u) : calleeK P G h s g x K = calleeK P G h s g (y ()) K := by rw [e ()]
@[go_sem ↓] theorem calleeK_some (P G h s g f xs K) : calleeK P G h s g (some (f, xs)) K = callK P G h s g f xs K := rfl

/-- 'append' and 'cap' of slices of which the room is known. -/
def capB (P : Program) (G : Glob) (h : Key → Option Blk) (s g : Nat) (b : Builtin) (ts : List TypeId) (xs : List TV) : Option Dl :=
  match b, ts, xs with
  | .append, [t, u], [.c (.ref k r n), y] =>
    match G.caps k, (ti P t).kind, h k with
    | some c, .slice e, some (.arr _ w l) => (rowsOf h y).bind fun src =>
      if ((ti P u).ok = true ∧ (ti P u).kind.isInt = false) ∧ ((ti P e).ok = true ∧ (ti P e).zero.length = (ti P e).size ∧ allW (ti P e).size src.1 = true) ∧ (w = (ti P e).size ∧ r + n ≤ l.length) ∧
          c < r + n + src.1.length ∧ ((n + src.1.length) * (ti P e).bytes ≤ maxRows ∧ n + src.1.length ≤ maxRows) then
        some ⟨.c (.ref ⟨s, g⟩ 0 (n + src.1.length)), [(⟨s, g⟩, some (.arr true w ((l.drop r).take n ++ src.1)))], k :: src.2⟩
      else none
    | _, _, _ => none
  | .cap, [t], [.c (.ref k r _)] =>
    match G.caps k, (ti P t).kind with
    | some c, .slice _ => some ⟨.c (.p (.int .i64 (c - r : Nat))), [], []⟩
    | _, _ => none
  | _, _, _ => none

def builtinX (P : Program) (G : Glob) (h : Key → Option Blk) (s g : Nat) (b : Builtin) (ts : List TypeId) (xs : List TV) : Option Dl :=
  match capB P G h s g b ts xs with
  | some d => some d
  | none => builtinV P h s g b ts xs

theorem capB_sound {P : Program} {G : Glob} {o : Oper} {idx g : Nat} {S : St} {b : Builtin} {xs : Array Operand} {ts : Array TypeId} {d : Dl} (ho : o.op = .call { callee := .builtin b, args := xs, argTypes := ts })
    (h : capB P G S.heap (sb o.dst idx) g b ts.toList (xs.toList.map (ev G S.env)) = some d) : StepD P G o idx g S d := by
  have hxs : xs = xs.toList.toArray := by simp
  have hts : ts = ts.toList.toArray := by simp
  unfold capB at h
  split at h
  · rename_i t u k r n y e1 e2
    simp only [List.map_eq_cons_iff] at e2
    obtain ⟨y1, q, q1, hk, y2, q2, q3, rfl, hq⟩ := e2
    simp only [List.map_eq_nil_iff] at hq
    subst hq
    rw [e1] at hts
    rw [q1, q3] at hxs
    split at h
    · rename_i c e mu w l hc ht hh
      simp only [Option.bind_eq_some_iff] at h
      obtain ⟨⟨src, ks⟩, hr, h⟩ := h
      split at h
      · rename_i hcond
        obtain ⟨c1, c2, c3, c4, c5⟩ := hcond
        cases h
        exact .grow (by rw [ho, hxs, hts]) ht c1 hk hh hr c2 c3 hc c4 c5
      · cases h
    · cases h
  · rename_i t k r n e1 e2
    simp only [List.map_eq_cons_iff] at e2
    obtain ⟨y1, q, q1, hk, hq⟩ := e2
    simp only [List.map_eq_nil_iff] at hq
    subst hq
    rw [e1] at hts
    rw [q1] at hxs
    split at h
    · rename_i c e hc ht
      cases h
      exact .cap (by rw [ho, hxs, hts]) ht hk hc
    · cases h
  · cases h

def stepK (_t : Tok) (P : Program) (G : Glob) (o : Oper) (idx g : Nat) (S : St) (K : Kont) : Prop :=
  match o.op with
  | .call { callee := .value f, args := xs, argTypes := ts } => calleeK P G S.heap (sb o.dst idx) g (calleeOf G S.env { callee := .value f, args := xs, argTypes := ts }) K
  | .call { callee := .builtin b, args := xs, argTypes := ts } => optK (builtinX P G S.heap (sb o.dst idx) g b ts.toList (xs.toList.map (ev G S.env))) K
  | _ => optK (stepF P G o idx g S) K

theorem stepK_sound {t P G o idx g S K} (h : stepK t P G o idx g S K) : ∃ d, StepD P G o idx g S d ∧ K .go d.v d.wr d.rd := by
  unfold stepK at h
  split at h
  · rename_i f xs ts ho
    cases hc : calleeOf G S.env { callee := .value f, args := xs, argTypes := ts } with
    | none => rw [hc] at h; exact h.elim
    | some x =>
      obtain ⟨n, ys⟩ := x
      rw [hc, calleeK_some] at h
      rcases h with ⟨md, frz, bs, t, hg, r, ios, hk, hok⟩ | ⟨fn, tS, tR, e, kx, rx, nx, ky, ry, ny, wx, lx, wy, ly, rfl, hf, ⟨a1, a2, a3, a4, a5⟩, ⟨b1, b2, b3, b4, b5, b6, b7⟩, hK⟩
      · cases hb : backD S.heap (sb o.dst idx) g t frz r ios with
        | none => rw [hb] at hk; exact hk.elim
        | some d => rw [hb] at hk; exact ⟨d, .call ho hc hg hok hb, hk⟩
      · have hxs : xs = xs.toList.toArray := by simp
        unfold calleeOf at hc
        simp only at hc
        split at hc
        · rename_i f' caps hcl
          simp only [Option.some.injEq, Prod.mk.injEq] at hc
          obtain ⟨rfl, hc⟩ := hc
          match hq : xs.toList, caps, hc with
          | [x, y], [], hc =>
            simp only [List.map_cons, List.map_nil, List.append_nil, List.cons.injEq, and_true] at hc
            rw [hq] at hxs
            exact ⟨_, .over (by rw [ho, hxs]) (.inl hcl) hf a1 a2 a3 a4 a5 hc.1 hc.2 b1 b2 b3 b4 b5 b6 b7, hK⟩
          | [], _, hc => cases ‹List (List PV)› with
            | nil => simp at hc
            | cons => simp at hc
          | [x], caps, hc => cases caps with
            | nil => simp at hc
            | cons => simp at hc
          | [x, y], _ :: _, hc => simp at hc
          | x :: y :: z :: r, caps, hc => simp at hc
        · rename_i f' ks hcl
          simp only [Option.some.injEq, Prod.mk.injEq] at hc
          obtain ⟨rfl, hc⟩ := hc
          match hq : xs.toList, ks, hc with
          | [x, y], [], hc =>
            simp only [List.map_cons, List.map_nil, List.append_nil, List.cons.injEq, and_true] at hc
            rw [hq] at hxs
            exact ⟨_, .over (by rw [ho, hxs]) (.inr hcl) hf a1 a2 a3 a4 a5 hc.1 hc.2 b1 b2 b3 b4 b5 b6 b7, hK⟩
          | [], ks, hc => cases ks with
            | nil => simp at hc
            | cons => simp at hc
          | [x], ks, hc => cases ks with
            | nil => simp at hc
            | cons => simp at hc
          | [x, y], _ :: _, hc => simp at hc
          | x :: y :: z :: r, ks, hc => simp at hc
        · cases hc
  · rename_i b xs ts ho
    cases hc : capB P G S.heap (sb o.dst idx) g b ts.toList (xs.toList.map (ev G S.env)) with
    | some d => simp only [builtinX, hc] at h; exact ⟨d, capB_sound ho hc, h⟩
    | none =>
      simp only [builtinX, hc] at h
      cases hf : builtinV P S.heap (sb o.dst idx) g b ts.toList (xs.toList.map (ev G S.env)) with
      | none => rw [hf] at h; exact h.elim
      | some d => rw [hf] at h; exact ⟨d, .op (by simp only [stepF, ho]; exact hf), h⟩
  · cases hf : stepF P G o idx g S with
    | none => rw [hf] at h; exact h.elim
    | some d => rw [hf] at h; exact ⟨d, .op hf, h⟩

/-- A region, without a record of what was touched. -/
def rrun (t : Tok) (P : Program) (G : Glob) (all : List Oper) (g : Nat) (K : Tok → St → Prop) : Nat → List Oper → St → Prop
  | _, [], S => K t S
  | i, o :: os, S =>
    guardK (wants all S.env o)
      (fun t => stepK t P G o i (g + i) S fun t v wr _ => rrun t P G all g K (i + 1) os ⟨put S.env o.dst v, putH S.heap wr, S.gen⟩)
      (fun t => rrun t P G all g K (i + 1) os ⟨put S.env o.dst (.tup []), S.heap, S.gen⟩)

theorem rrun_sound {t P G all g K} : ∀ os i S, rrun t P G all g K i os S → ∃ fs S', Run P G all g i os S fs S' ∧ K .go S'
  | [], i, S, h => ⟨[], S, .nil, by cases t; simpa [rrun] using h⟩
  | o :: os, i, S, h => by
    simp only [rrun] at h
    cases hw : wants all S.env o with
    | none => rw [hw] at h; exact h.elim
    | some b =>
      rw [hw] at h
      cases b with
      | true =>
        obtain ⟨d, hd, hk⟩ := stepK_sound (t := .go) h
        obtain ⟨fs, S', hr, hK⟩ := rrun_sound os (i + 1) _ hk
        exact ⟨_, S', .step hw hd hr, hK⟩
      | false =>
        obtain ⟨fs, S', hr, hK⟩ := rrun_sound os (i + 1) _ h
        exact ⟨_, S', .skip hw hr, hK⟩

/-- A region that draws its order: with a record. -/
def drun (t : Tok) (P : Program) (G : Glob) (all : List Oper) (g : Nat) (K : Tok → List Fp → St → Prop) : Nat → List Oper → List Fp → St → Prop
  | _, [], fs, S => K t fs S
  | i, o :: os, fs, S =>
    guardK (wants all S.env o)
      (fun t => stepK t P G o i (g + i) S fun t v wr rd => drun t P G all g K (i + 1) os (⟨rd.map (·.s), wr.map (·.1.s)⟩ :: fs) ⟨put S.env o.dst v, putH S.heap wr, S.gen⟩)
      (fun t => drun t P G all g K (i + 1) os (⟨[], []⟩ :: fs) ⟨put S.env o.dst (.tup []), S.heap, S.gen⟩)

theorem drun_sound {t P G all g K} : ∀ os i fs S, drun t P G all g K i os fs S → ∃ gs S', Run P G all g i os S gs S' ∧ K .go (gs.reverse ++ fs) S'
  | [], i, fs, S, h => ⟨[], S, .nil, by cases t; simpa [drun] using h⟩
  | o :: os, i, fs, S, h => by
    simp only [drun] at h
    cases hw : wants all S.env o with
    | none => rw [hw] at h; exact h.elim
    | some b =>
      rw [hw] at h
      cases b with
      | true =>
        obtain ⟨d, hd, hk⟩ := stepK_sound (t := .go) h
        obtain ⟨gs, S', hr, hK⟩ := drun_sound os (i + 1) _ _ hk
        exact ⟨_, S', .step hw hd hr, by simpa [Dl.fp] using hK⟩
      | false =>
        obtain ⟨gs, S', hr, hK⟩ := drun_sound os (i + 1) _ _ h
        exact ⟨_, S', .skip hw hr, by simpa using hK⟩

/-- The order that a region draws does not matter. -/
def drawK (ops : List Oper) (fs : List Fp) (A : Tok → Prop) : Prop := (edgesOk ops && orderOk ops fs.reverse) = true ∧ A .go
@[congr] theorem drawK_congr {ops fs A} {fs' : Unit → List Fp} (h : ∀ u, fs = fs' u) : drawK ops fs A = drawK ops (fs' ()) A := by rw [h ()]
theorem drawK_mk {ops fs A} (h : (edgesOk ops && orderOk ops fs.reverse) = true) (k : A .go) : drawK ops fs A := ⟨h, k⟩

/-- A loop, as it stands. -/
def loopK (P : Program) (G : Glob) (a : Code) (Q : Post) (S : St) : Prop := swp P G (.loop a) (Q .go) S

/-- Not more than n operations. -/
def upto : Nat → List Oper → Prop → Prop
  | _, [], A => A
  | 0, _ :: _, _ => False
  | n + 1, _ :: os, A => upto n os A
theorem upto_iff (A : Prop) : ∀ (os : List Oper) (n : Nat), upto n os A = (os.length ≤ n ∧ A)
  | [], n => by simp [upto]
  | _ :: os, 0 => by simp [upto]
  | _ :: os, n + 1 => by simp [upto, upto_iff A os n]

/-- The rest of a sequence. -/
def thenK (K : Tok → St → Prop) (Q : Post) : Post
  | t, .normal, S => K t S
  | t, e, S => Q t e S
def blockK (id : Nat) (Q : Post) : Post
  | t, .exit i, S => if i = id then Q t .normal S else Q t (.exit i) S
  | t, e, S => Q t e S

/-- What is owed for a piece of code. -/
def xwp (t : Tok) (P : Program) (G : Glob) : Code → Post → St → Prop
  | .skip, Q, S => Q t .normal S
  | .label _, Q, S => Q t .normal S
  | .ret, Q, S => Q t .ret S
  | .exit id, Q, S => Q t (.exit id) S
  | .seq a b, Q, S => xwp t P G a (thenK (fun t => xwp t P G b Q) Q) S
  | .cond c a b, Q, S => condK (ev G S.env c) (fun t => xwp t P G a Q S) (fun t => xwp t P G b Q S)
  | .block id a, Q, S => xwp t P G a (blockK id Q) S
  | .loop a, Q, S => loopK P G a Q S
  | .region _ ops false, Q, S => upto 1000 ops.toList <| rrun t P G ops.toList S.gen (fun t S' => Q t .normal ⟨S'.env, S'.heap, S.gen + 1000⟩) 0 ops.toList S
  | .region _ ops true, Q, S => upto 1000 ops.toList <|
      drun t P G ops.toList S.gen (fun _ fs S' => drawK ops.toList fs fun t => Q t .normal ⟨S'.env, S'.heap, S.gen + 1000⟩) 0 ops.toList [] S
  | _, _, _ => False

theorem swp_of : ∀ (c : Code) (t : Tok) (P : Program) (G : Glob) (Q : Post) (S : St), xwp t P G c Q S → swp P G c (Q .go) S := by
  intro c t P G
  cases t
  induction c with
  | skip => intro Q S h; exact swp_skip h
  | label l => intro Q S h; exact swp_label h
  | ret => intro Q S h; exact swp_ret h
  | exit id => intro Q S h; exact swp_exit h
  | seq a b iha ihb =>
    intro Q S h
    refine swp_seq (swp_mono (iha _ _ h) ?_)
    intro e S' hq
    cases e <;> first | exact hq | exact ihb _ _ hq
  | cond c a b iha ihb =>
    intro Q S h
    simp only [xwp, condK] at h
    split at h
    · rename_i e; exact swp_cond true e (fun _ => iha _ _ h) (fun h => by cases h)
    · rename_i e; exact swp_cond false e (fun h => by cases h) (fun _ => ihb _ _ h)
    · exact h.elim
  | block id a ih =>
    intro Q S h
    refine swp_block (swp_mono (ih _ _ h) ?_)
    intro e S' hq
    cases e <;> exact hq
  | loop a _ => intro Q S h; exact h
  | region id ops draw =>
    intro Q S h
    cases draw with
    | false =>
      rw [xwp, upto_iff] at h
      obtain ⟨hl, h⟩ := h
      obtain ⟨fs, S', hr, hq⟩ := rrun_sound _ _ _ h
      have := BS.region (P := P) (G := G) (id := id) false hr hl (by simp)
      exact ⟨_, _, hq, by simpa using this⟩
    | true =>
      rw [xwp, upto_iff] at h
      obtain ⟨hl, h⟩ := h
      obtain ⟨gs, S', hr, ho, hq⟩ := drun_sound _ _ _ _ h
      simp only [List.append_nil, List.reverse_reverse, Bool.and_eq_true] at ho
      have := BS.region (P := P) (G := G) (id := id) true hr hl fun _ => ho
      exact ⟨_, _, hq, by simpa using this⟩
  | scope a ih => intro Q S h; exact h.elim
  | goto l => intro Q S h; exact h.elim
  | rangeFunc => intro Q S h; exact h.elim
  | refuse => intro Q S h; exact h.elim

/-- A loop, by what holds at its head. -/
theorem loopK_mk {P G a S} {Q : Post} (I : St → Prop) (μ : St → Nat) (h0 : ∃ A, Le A S ∧ I A)
    (round : ∀ S, I S → xwp .go P G a (thenK (fun _ S' => ∃ A, Le A S' ∧ I A ∧ μ A < μ S) Q) S) : loopK P G a Q S := by
  refine swp_loop I μ h0 fun S hI => swp_mono (swp_of _ _ _ _ _ _ (round S hI)) ?_
  intro e S' hq
  cases e <;> exact hq

section
variable (P : Program) (G : Glob) (all : List Oper) (g i : Nat) (K : Tok → St → Prop) (Kd : Tok → List Fp → St → Prop) (S : St) (Q : Post) (fs : List Fp)
@[go_sem ↓] theorem rrun_nil : rrun .go P G all g K i [] S = K .go S := by simp [rrun]
@[go_sem ↓] theorem rrun_cons (dst op ty pos af gd os) : rrun .go P G all g K i (⟨dst, op, ty, pos, af, some gd⟩ :: os) S = guardK (wants all S.env ⟨dst, op, ty, pos, af, some gd⟩)
      (fun t => stepK t P G ⟨dst, op, ty, pos, af, some gd⟩ i (g + i) S fun t v wr _ => rrun t P G all g K (i + 1) os ⟨put S.env dst v, putH S.heap wr, S.gen⟩)
      (fun t => rrun t P G all g K (i + 1) os ⟨put S.env dst (.tup []), S.heap, S.gen⟩) := by simp [rrun]
@[go_sem ↓] theorem rrun_plain (dst op ty pos af os) : rrun .go P G all g K i (⟨dst, op, ty, pos, af, none⟩ :: os) S =
      stepK .go P G ⟨dst, op, ty, pos, af, none⟩ i (g + i) S fun t v wr _ => rrun t P G all g K (i + 1) os ⟨put S.env dst v, putH S.heap wr, S.gen⟩ := by simp [rrun, wants, guardK]
@[go_sem ↓] theorem drun_nil : drun .go P G all g Kd i [] fs S = Kd .go fs S := by simp [drun]
@[go_sem ↓] theorem drun_cons (dst op ty pos af gd os) : drun .go P G all g Kd i (⟨dst, op, ty, pos, af, some gd⟩ :: os) fs S = guardK (wants all S.env ⟨dst, op, ty, pos, af, some gd⟩)
      (fun t => stepK t P G ⟨dst, op, ty, pos, af, some gd⟩ i (g + i) S fun t v wr rd => drun t P G all g Kd (i + 1) os (⟨rd.map (·.s), wr.map (·.1.s)⟩ :: fs) ⟨put S.env dst v, putH S.heap wr, S.gen⟩)
      (fun t => drun t P G all g Kd (i + 1) os (⟨[], []⟩ :: fs) ⟨put S.env dst (.tup []), S.heap, S.gen⟩) := by simp [drun]
@[go_sem ↓] theorem drun_plain (dst op ty pos af os) : drun .go P G all g Kd i (⟨dst, op, ty, pos, af, none⟩ :: os) fs S =
      stepK .go P G ⟨dst, op, ty, pos, af, none⟩ i (g + i) S fun t v wr rd => drun t P G all g Kd (i + 1) os (⟨rd.map (·.s), wr.map (·.1.s)⟩ :: fs) ⟨put S.env dst v, putH S.heap wr, S.gen⟩ := by
  simp [drun, wants, guardK]
@[go_sem ↓] theorem thenK_normal (K) : thenK K Q .go .normal S = K .go S := rfl
@[go_sem ↓] theorem thenK_ret (K) : thenK K Q .go .ret S = Q .go .ret S := rfl
@[go_sem ↓] theorem thenK_exit (K id) : thenK K Q .go (.exit id) S = Q .go (.exit id) S := rfl
@[go_sem ↓] theorem blockK_normal (id) : blockK id Q .go .normal S = Q .go .normal S := rfl
@[go_sem ↓] theorem blockK_ret (id) : blockK id Q .go .ret S = Q .go .ret S := rfl
@[go_sem ↓] theorem blockK_exit (id j) : blockK id Q .go (.exit j) S = if j = id then Q .go .normal S else Q .go (.exit j) S := rfl
@[go_sem ↓] theorem xwp_skip : xwp .go P G .skip Q S = Q .go .normal S := rfl
@[go_sem ↓] theorem xwp_label (l) : xwp .go P G (.label l) Q S = Q .go .normal S := rfl
@[go_sem ↓] theorem xwp_ret : xwp .go P G .ret Q S = Q .go .ret S := rfl
@[go_sem ↓] theorem xwp_exit (id) : xwp .go P G (.exit id) Q S = Q .go (.exit id) S := rfl
@[go_sem ↓] theorem xwp_seq (a b) : xwp .go P G (.seq a b) Q S = xwp .go P G a (thenK (fun t => xwp t P G b Q) Q) S := rfl
@[go_sem ↓] theorem xwp_cond (c a b) : xwp .go P G (.cond c a b) Q S = condK (ev G S.env c) (fun t => xwp t P G a Q S) (fun t => xwp t P G b Q S) := rfl
@[go_sem ↓] theorem xwp_block (id a) : xwp .go P G (.block id a) Q S = xwp .go P G a (blockK id Q) S := rfl
@[go_sem ↓] theorem xwp_loop (a) : xwp .go P G (.loop a) Q S = loopK P G a Q S := rfl
@[go_sem ↓] theorem upto_nil (n A) : upto n [] A = A := by simp [upto]
@[go_sem ↓] theorem upto_cons (n o os A) : upto (n + 1) (o :: os) A = upto n os A := rfl
@[go_sem ↓] theorem xwp_region (id ops) : xwp .go P G (.region id (List.toArray ops) false) Q S =
    upto 1000 ops (rrun .go P G ops S.gen (fun t S' => Q t .normal ⟨S'.env, S'.heap, S.gen + 1000⟩) 0 ops S) := rfl
@[go_sem ↓] theorem xwp_draw (id ops) : xwp .go P G (.region id (List.toArray ops) true) Q S =
    upto 1000 ops (drun .go P G ops S.gen (fun _ fs S' => drawK ops fs fun t => Q t .normal ⟨S'.env, S'.heap, S.gen + 1000⟩) 0 ops [] S) := rfl
end
@[go_sem ↓] theorem wants_some (all e dst op ty pos af j b) : wants all e ⟨dst, op, ty, pos, af, some (j, b)⟩ = (match (all[j]?).bind (·.dst) with
    | none => none
    | some t => match e t with
      | .c (.p (.bool x)) => some (if b then x else !x)
      | .tup [] => some false
      | _ => none) := rfl
@[go_sem] theorem put_none (e v) : put e none v = e := rfl
@[go_sem ↓] theorem put_apply (e i v j) : put e (some i) v j = if j = i then v else e j := rfl
@[go_sem ↓] theorem putH_nil (h) : putH h [] = h := rfl
@[go_sem ↓] theorem putH_apply (h k b r j) : putH h ((k, b) :: r) j = putH (updH h k b) r j := rfl
@[go_sem ↓] theorem updH_apply (h k b j) : updH h k b j = if j = k then b else h j := rfl
@[go_sem] theorem key_eq (a b c d) : ((⟨a, b⟩ : Key) = ⟨c, d⟩) = (a = c ∧ b = d) := by simp
@[go_sem ↓] theorem ev_tmp (G e t) : ev G e (.tmp t) = e t := rfl
@[go_sem ↓] theorem ev_const (G e v) : ev G e (.const v) = constT v := rfl
@[go_sem ↓] theorem ev_func (G e f) : ev G e (.func f) = .c (.p (.clo f [])) := rfl
@[go_sem] theorem constT_int (k n) : constT (.int k n) = .c (.p (.int k n)) := rfl
@[go_sem] theorem constT_bool (b) : constT (.bool b) = .c (.p (.bool b)) := rfl
@[go_sem] theorem constT_slice : constT (.slice none 0 0) = .c .nilS := rfl
@[go_sem] theorem constT_pointer : constT (.pointer none) = .c (.p .nilp) := rfl
@[go_sem] theorem constT_undef : constT (.tuple #[]) = .tup [] := rfl

section
variable (P : Program) (G : Glob) (dst : Option Nat) (ty : TypeId) (pos : String) (af : Array Edge) (gd : Option (Nat × Bool)) (idx g : Nat) (S : St)
  (K : Kont)
@[go_sem ↓] theorem sk_move (x) : stepK .go P G ⟨dst, .move x, ty, pos, af, gd⟩ idx g S K = K .go (ev G S.env x) [] [] := rfl
@[go_sem ↓] theorem sk_assign (x) : stepK .go P G ⟨dst, .assign x, ty, pos, af, gd⟩ idx g S K = K .go (ev G S.env x) [] [] := rfl
@[go_sem ↓] theorem sk_pick (c a b) : stepK .go P G ⟨dst, .pick c a b, ty, pos, af, gd⟩ idx g S K = optK ((pickV (ev G S.env c) (ev G S.env a) (ev G S.env b)).bind val) K := rfl
@[go_sem ↓] theorem sk_alloc (t) : stepK .go P G ⟨dst, .alloc t, ty, pos, af, gd⟩ idx g S K = optK (allocV (ti P t) (sb dst idx) g) K := rfl
@[go_sem ↓] theorem sk_box (t x) : stepK .go P G ⟨dst, .box t x, ty, pos, af, gd⟩ idx g S K = optK (boxV (ti P t) (sb dst idx) g (ev G S.env x)) K := rfl
@[go_sem ↓] theorem sk_build (t ps) : stepK .go P G ⟨dst, .build t ps, ty, pos, af, gd⟩ idx g S K = optK (buildV P (ti P t) (ps.toList.map fun p => (p.1, ev G S.env p.2))) K := rfl
@[go_sem ↓] theorem sk_buildSlice (t n ps) : stepK .go P G ⟨dst, .buildSlice t n ps, ty, pos, af, gd⟩ idx g S K =
    optK (buildSliceV P (ti P t) (sb dst idx) g n (ps.toList.map fun p => (p.1, ev G S.env p.2))) K := rfl
@[go_sem ↓] theorem sk_load (t a) : stepK .go P G ⟨dst, .load t a, ty, pos, af, gd⟩ idx g S K = optK (loadV (ti P t) S.heap (ev G S.env a)) K := rfl
@[go_sem ↓] theorem sk_store (t a x) : stepK .go P G ⟨dst, .store t a x, ty, pos, af, gd⟩ idx g S K = optK (storeV (ti P t) S.heap (ev G S.env x) (ev G S.env a)) K := rfl
@[go_sem ↓] theorem sk_binOp (op t x y u) : stepK .go P G ⟨dst, .binOp op t x y u, ty, pos, af, gd⟩ idx g S K = optK ((binV (ti P t) op (ev G S.env x) (ev G S.env y)).bind val) K := rfl
@[go_sem ↓] theorem sk_unOp (op t x) : stepK .go P G ⟨dst, .unOp op t x, ty, pos, af, gd⟩ idx g S K = optK ((unV op (ev G S.env x)).bind val) K := rfl
@[go_sem ↓] theorem sk_convert (s t x) : stepK .go P G ⟨dst, .convert s t x, ty, pos, af, gd⟩ idx g S K = optK ((convV (ti P s) (ti P t) (ev G S.env x)).bind val) K := rfl
@[go_sem ↓] theorem sk_makeSlice (t n c) : stepK .go P G ⟨dst, .makeSlice t n c, ty, pos, af, gd⟩ idx g S K =
    optK (makeSliceV P (ti P t) (sb dst idx) g (ev G S.env n) (ev G S.env c)) K := rfl
@[go_sem ↓] theorem sk_slice (t x lo hi) : stepK .go P G ⟨dst, .slice t x lo hi none, ty, pos, af, gd⟩ idx g S K =
    optK (sliceV P (ti P t) S.heap (ev G S.env x) (lo.map (ev G S.env)) (hi.map (ev G S.env))) K := rfl
@[go_sem ↓] theorem sk_slice3 (t x lo hi mx) : stepK .go P G ⟨dst, .slice t x lo (some hi) (some mx), ty, pos, af, gd⟩ idx g S K =
    optK (slice3V P (ti P t) S.heap (ev G S.env x) (lo.map (ev G S.env)) (ev G S.env hi) (ev G S.env mx)) K := rfl
@[go_sem ↓] theorem sk_fieldAddr (t x f) : stepK .go P G ⟨dst, .fieldAddr t x f, ty, pos, af, gd⟩ idx g S K = optK (fieldAddrV (ti P t) f (ev G S.env x)) K := rfl
@[go_sem ↓] theorem sk_field (t x f) : stepK .go P G ⟨dst, .field t x f, ty, pos, af, gd⟩ idx g S K = optK (fieldV P (ti P t) f (ev G S.env x)) K := rfl
@[go_sem ↓] theorem sk_indexAddr (t x i) : stepK .go P G ⟨dst, .indexAddr t x i, ty, pos, af, gd⟩ idx g S K = optK (indexAddrV P (ti P t) S.heap (ev G S.env x) (ev G S.env i)) K := rfl
@[go_sem ↓] theorem sk_index (t x i) : stepK .go P G ⟨dst, .index t x i, ty, pos, af, gd⟩ idx g S K = optK (indexO P t x (ev G S.env x) (ev G S.env i)) K := rfl
@[go_sem ↓] theorem sk_extract (x i) : stepK .go P G ⟨dst, .extract x i, ty, pos, af, gd⟩ idx g S K = optK ((extractV (ev G S.env x) i).bind val) K := rfl
@[go_sem ↓] theorem sk_nilCheck (x) : stepK .go P G ⟨dst, .nilCheck x, ty, pos, af, gd⟩ idx g S K =
    optK (nilCheckV (ev G S.env x)) K := rfl
@[go_sem ↓] theorem sk_makeFunc (f first caps) : stepK .go P G ⟨dst, .makeFunc (.func f) first caps, ty, pos, af, gd⟩ idx g S K =
    optK (if first.toList.length = 0 then (keysOf (caps.toList.map (ev G S.env))).bind fun ks => val (.c (.fn f ks)) else none) K := rfl
@[go_sem ↓] theorem sk_builtin (b xs ts) : stepK .go P G ⟨dst, .call { callee := .builtin b, args := xs, argTypes := ts }, ty, pos, af, gd⟩ idx g S K =
    optK (builtinX P G S.heap (sb dst idx) g b ts.toList (xs.toList.map (ev G S.env))) K := rfl
@[go_sem ↓] theorem sk_call (f xs ts) : stepK .go P G ⟨dst, .call { callee := .value f, args := xs, argTypes := ts }, ty, pos, af, gd⟩ idx g S K =
    calleeK P G S.heap (sb dst idx) g (calleeOf G S.env { callee := .value f, args := xs, argTypes := ts }) K := rfl
end
section
variable (P : Program) (G : Glob) (h : Key → Option Blk) (s g : Nat)
@[go_sem] theorem bx_len (ts xs) : builtinX P G h s g .len ts xs = builtinV P h s g .len ts xs := by simp [builtinX, capB]
@[go_sem] theorem bx_copy (ts xs) : builtinX P G h s g .copy ts xs = builtinV P h s g .copy ts xs := by simp [builtinX, capB]
@[go_sem] theorem bx_clear (ts xs) : builtinX P G h s g .clear ts xs = builtinV P h s g .clear ts xs := by simp [builtinX, capB]
@[go_sem] theorem bx_max (ts xs) : builtinX P G h s g .max ts xs = builtinV P h s g .max ts xs := by simp [builtinX, capB]
@[go_sem] theorem bx_min (ts xs) : builtinX P G h s g .min ts xs = builtinV P h s g .min ts xs := by simp [builtinX, capB]
@[go_sem] theorem bx_app_nil (ts y) : builtinX P G h s g .append ts [.c .nilS, y] = builtinV P h s g .append ts [.c .nilS, y] := by simp [builtinX, capB]
@[go_sem] theorem bx_app_p (ts v y) : builtinX P G h s g .append ts [.c (.p v), y] = builtinV P h s g .append ts [.c (.p v), y] := by simp [builtinX, capB]
/-- append to a slice of which the room is known. -/
def growX (P : Program) (G : Glob) (h : Key → Option Blk) (s g : Nat) (t u : TypeId) (k : Key) (r n : Nat) (y : TV) : Option Nat → Option Dl
  | none => builtinV P h s g .append [t, u] [.c (.ref k r n), y]
  | some _ => match capB P G h s g .append [t, u] [.c (.ref k r n), y] with
    | some d => some d
    | none => builtinV P h s g .append [t, u] [.c (.ref k r n), y]
@[go_sem] theorem growX_none (t u k r n y) : growX P G h s g t u k r n y none = builtinV P h s g .append [t, u] [.c (.ref k r n), y] := rfl
@[go_sem] theorem bx_app_ref (t u k r n y) : builtinX P G h s g .append [t, u] [.c (.ref k r n), y] = growX P G h s g t u k r n y (G.caps k) := by
  cases hc : G.caps k with
  | none => simp [growX, builtinX, capB, hc]
  | some c => simp only [growX, builtinX]
end
attribute [go_sem] slice3V TK.isInt TK.isBool TK.isPtr nilCheckV pickV allocV boxV loadV storeV partOf setAt fieldAddrV asInt indexAddrV fieldV indexV indexO clearV eqCell eqCells intOp binV unV convV extractV buildL buildV buildRows buildSliceV
  lenV rowsOf optI sliceV appendNil appendTo appendV copyTo copyV makeSliceV max2V min2V keyOf1 keysOf builtinV sb val cellsOf pureL calleeOf giveTs giveM giveW giveT giveC giveIo giveL capsOf Took.add noneTook
  backD getT getTs getL getC getIos freeze BV.far BC.far farRow farRows PV.far farL farT

end Go.Sh
end
section
namespace Go.Sh

/-- The state in which a function begins: what its parameters hold. -/
def argT (i : Nat) : BV → TV × List (Key × Option Blk)
  | .io l => let x := getL (2 * i) (1024 * i + 1) l; (.c (.ptr ⟨1024 * i, 2 * i + 1⟩ 0 0), x.2.1 ++ [(⟨1024 * i, 2 * i + 1⟩, some (.box true x.1))])
  | b => let x := getT (2 * i) (1024 * i + 1) b; (x.1, x.2.1)

def argsS (S : St) : Nat → List BV → St
  | _, [] => S
  | i, b :: r => argsS ⟨put S.env (some i) (argT i b).1, putH S.heap (argT i b).2, S.gen⟩ (i + 1) r

def start (args : List BV) : St := argsS ⟨fun _ => .tup [], fun _ => none, 1000⟩ 0 args

/-- A cell that goes back to the caller. -/
def outC (h : Key → Option Blk) : AV → Option (BC × List Key)
  | .p v => some (.p v, [])
  | .nilS => some (.ownc 0 [] 0, [])
  | .ref k r n => match h k with
    | some (.arr true w l) => if r + n ≤ l.length then some (.own w ((l.drop r).take n), [k]) else none
    | some (.arr false _ l) => if r + n ≤ l.length then some (.p (.rows ((l.drop r).take n)), []) else none
    | _ => none
  | _ => none

def outL (h : Key → Option Blk) : List AV → Option (List BC × List Key)
  | [] => some ([], [])
  | a :: r => (outC h a).bind fun x => (outL h r).map fun y => (x.1 :: y.1, x.2 ++ y.2)

def outT (h : Key → Option Blk) : TV → Option (BV × List Key)
  | .c (.ptr k 0 0) => match h k with
    | some (.box true l) => (outL h l).map fun x => (.io x.1, k :: x.2)
    | _ => none
  | .c a => (outC h a).map fun x => (.cell x.1, x.2)
  | .agg l => (outL h l).map fun x => (.agg x.1, x.2)
  | _ => none

def outTs (h : Key → Option Blk) : List TV → Option (List BV × List Key)
  | [] => some ([], [])
  | a :: r => (outT h a).bind fun x => (outTs h r).map fun y => (x.1 :: y.1, x.2 ++ y.2)

/-- What the result variables hold. -/
def resV (P : Program) (e : Nat → TV) (h : Key → Option Blk) : ResultVar → Option TV
  | .tmp t => some (e t)
  | .cell a t => (loadV (ti P t) h (e a)).map (·.v)

def resVs (P : Program) (e : Nat → TV) (h : Key → Option Blk) : List ResultVar → Option (List TV)
  | [] => some []
  | r :: rs => (resV P e h r).bind fun x => (resVs P e h rs).map (x :: ·)

/-- The variables behind the parameters. -/
def outIos (h : Key → Option Blk) : Nat → List BV → Option (List BV × List Key)
  | _, [] => some ([], [])
  | i, .io _ :: r => match h ⟨1024 * i, 2 * i + 1⟩ with
    | some (.box true l) => (outL h l).bind fun x => (outIos h (i + 1) r).map fun y => (.io x.1 :: y.1, ⟨1024 * i, 2 * i + 1⟩ :: (x.2 ++ y.2))
    | _ => none
  | i, .els w l0 :: r => match h ⟨1024 * i + 1, 2 * i⟩ with
    | some (.arr true w' l) => if w' = w ∧ l.length = l0.length then (outIos h (i + 1) r).map fun y => (.els w l :: y.1, ⟨1024 * i + 1, 2 * i⟩ :: y.2) else none
    | _ => none
  | i, _ :: r => outIos h (i + 1) r

def tupT : List BV → BV
  | [b] => b
  | l => .tup l

def outV (P : Program) (args : List BV) (rs : List ResultVar) (S : St) : Option (BV × List BV × List Key) :=
  (resVs P S.env S.heap rs).bind fun vs => (outTs S.heap vs).bind fun x => (outIos S.heap 0 args).map fun y => (tupT x.1, y.1, x.2 ++ y.2)

def outK (x : Option (BV × List BV × List Key)) (R : BV → List BV → Prop) : Prop :=
  match x with
  | some (r, ios, ks) => ks.Nodup ∧ R r ios
  | none => False

def retK (P : Program) (args : List BV) (rs : List ResultVar) (R : BV → List BV → Prop) : Post
  | _, .normal, S => outK (outV P args rs S) R
  | _, .ret, S => outK (outV P args rs S) R
  | _, _, _ => False

@[congr] theorem outK_congr {x R} {y : Unit → Option (BV × List BV × List Key)} (h : ∀ u, x = y u) : outK x R = outK (y ()) R := by rw [h ()]
@[go_sem] theorem outK_some (r ios ks R) : outK (some (r, ios, ks)) R = (ks.Nodup ∧ R r ios) := rfl
@[go_sem ↓] theorem retK_normal (P args rs R S) : retK P args rs R .go .normal S = outK (outV P args rs S) R := rfl
@[go_sem ↓] theorem retK_ret (P args rs R S) : retK P args rs R .go .ret S = outK (outV P args rs S) R := rfl
attribute [go_sem] start argsS argT outC outL outT outTs resV resVs outIos tupT outV

/-- All slots that a body writes lie in the frame. -/
def slotsOk (n : Nat) : Code → Bool
  | .region _ ops _ => ops.toList.all fun o => match o.dst with | some d => decide (d < n) | none => true
  | .seq a b => slotsOk n a && slotsOk n b
  | .cond _ a b => slotsOk n a && slotsOk n b
  | .block _ a => slotsOk n a
  | .loop a => slotsOk n a
  | .scope a => slotsOk n a
  | _ => true

def funcOk (fn : Func) (nargs : Nat) : Bool :=
  (match fn.body with | some c => slotsOk fn.ntmps c | none => false) && decide (nargs ≤ fn.ntmps) && decide (nargs ≤ 500) && !(fn.name == "runtime.NumGoroutine")

end Go.Sh
end
section
namespace Go.Sh

theorem cell_congr {w w' : World} {b : Nat} (h : w'.heap[b]? = w.heap[b]?) (o : Nat) : w'.cell? ⟨b, o, none⟩ = w.cell? ⟨b, o, none⟩ := by
  simp [World.cell?, h]

theorem cell_of {w : World} {b : Nat} {arr : Array Value} {e : TypeId} {z : Nat × Nat} (h : w.heap[b]? = some (.cells arr e z)) (o : Nat) : w.cell? ⟨b, o, none⟩ = arr[o]? := by
  simp [World.cell?, h]

theorem frozen_of {w : World} {b : Nat} {arr : Array Value} {e : TypeId} (h : w.heap[b]? = some (.cells arr e (0, 0))) (o : Nat) : w.frozen? ⟨b, o, none⟩ = false := by
  simp [World.frozen?, h]

/-- The memory of V stays. -/
structure Kept (V : Nat → Prop) (w w' : World) : Prop where
  same : ∀ b, V b → w'.heap[b]? = w.heap[b]?

theorem PRep.mono {V V' : Nat → Prop} {w w' : World} (hV : ∀ b, V b → V' b) (hk : Kept V w w') {v : Value} {c : PV} (h : PRep V w v c) : PRep V' w' v c := by
  induction h with
  | int k n => exact .int k n
  | bool b => exact .bool b
  | nilp => exact .nilp
  | any v h => exact .any v h
  | nil a cap => exact .nil a cap
  | rows b o l cap W f hb hc hw hcell _ ih =>
    exact .rows b o l cap W f (hV _ hb) hc hw (fun i j hi hj => by rw [cell_congr (hk.same b hb)]; exact hcell i j hi hj) ih
  | clo f caps b o g cs hs hcs hb hcell _ ih =>
    refine .clo f caps b o g cs hs hcs (fun i hi => hV _ (hb i hi)) (fun i j cells hi hj => ?_) ih
    have hlt : i < caps.length := by
      rcases Nat.lt_or_ge i caps.length with h | h
      · exact h
      · simp [List.getElem?_eq_none h] at hi
    rw [cell_congr (hk.same _ (hb i hlt))]; exact hcell i j cells hi hj

theorem PRep.one {V w v c} (h : PRep V w v c) : v.oneCell' = true := by
  cases h <;> first | rfl | assumption

/-- Where a local block lies: its block in the world, its first cell, the width of its rows, how many rows there is room for. -/
structure KI where
  rb : Option Nat
  base : Nat
  w : Nat
  cap : Nat

abbrev KM := Key → Option KI

inductive ARep (m : KM) (V : Nat → Prop) (w : World) : Value → AV → Prop where
  | p {v x} (h : PRep V w v x) : ARep m V w v (.p x)
  | nilS : ARep m V w (.slice none 0 0) .nilS
  | ref {k i a r n} (hm : m k = some i) (hr : r + n ≤ i.cap) (ha : r < i.cap → a = i.rb.map fun b => ⟨b, i.base + r * i.w, none⟩) : ARep m V w (.slice a n (i.cap - r)) (.ref k r n)
  | cref {k i b a c n e cap} (hm : m k = some i) (hb : i.rb = some b) (hn : n ≤ cap) (ha : 0 < n → a = some ⟨b, i.base + c, none⟩) : ARep m V w (.slice a n cap) (.cref k c n e)
  | ptr {k i b r c} (hm : m k = some i) (hb : i.rb = some b) : ARep m V w (.pointer (some ⟨b, i.base + r * i.w + c, none⟩)) (.ptr k r c)
  | pb {b o cells c} (f : Nat → Value) (hV : V b) (hcell : ∀ j, j < cells.length → w.cell? ⟨b, o + j, none⟩ = some (f j)) (hrep : ∀ j x, cells[j]? = some x → PRep V w (f j) x) :
      ARep m V w (.pointer (some ⟨b, o + c, none⟩)) (.pb cells c)
  | fn {f ks} {cs : Array Value} (hs : cs.size = ks.length) (h : ∀ (i : Nat) (k : Key), ks[i]? = some k → ∃ x b, m k = some x ∧ x.rb = some b ∧ cs[i]? = some (Value.pointer (some ⟨b, x.base + 0 * x.w + 0, none⟩))) :
      ARep m V w (.func (.func f) #[] cs) (.fn f ks)

theorem ARep.one {m V w v c} (h : ARep m V w v c) : v.oneCell' = true := by
  cases h <;> first | rfl | exact PRep.one ‹_›

/-- The keys that are known stay. -/
def Ext (m m' : KM) : Prop := ∀ k i, m k = some i → m' k = some i

theorem ARep.mono {m m' : KM} {V V' : Nat → Prop} {w w' : World} (hm : Ext m m') (hV : ∀ b, V b → V' b) (hk : Kept V w w') {v : Value} {c : AV} (h : ARep m V w v c) :
    ARep m' V' w' v c := by
  cases h with
  | p h => exact .p (h.mono hV hk)
  | nilS => exact .nilS
  | ref h1 h2 h3 => exact .ref (hm _ _ h1) h2 h3
  | cref h1 h2 h3 h4 => exact .cref (hm _ _ h1) h2 h3 h4
  | ptr h1 h2 => exact .ptr (hm _ _ h1) h2
  | pb f h1 h2 h3 => exact .pb f (hV _ h1) (fun j hj => by rw [cell_congr (hk.same _ h1)]; exact h2 j hj) fun j x hx => (h3 j x hx).mono hV hk
  | fn hs h => exact .fn hs fun i k hi => let ⟨x, b, h1, h2⟩ := h i k hi; ⟨x, b, hm _ _ h1, h2⟩

inductive LRep (m : KM) (V : Nat → Prop) (w : World) : List Value → List AV → Prop where
  | nil : LRep m V w [] []
  | cons {v a vs l} (h : ARep m V w v a) (t : LRep m V w vs l) : LRep m V w (v :: vs) (a :: l)

theorem LRep.mono {m m' : KM} {V V' : Nat → Prop} {w w' : World} (hm : Ext m m') (hV : ∀ b, V b → V' b) (hk : Kept V w w') {vs : List Value} {l : List AV} (h : LRep m V w vs l) :
    LRep m' V' w' vs l := by
  induction h with
  | nil => exact .nil
  | cons h _ ih => exact .cons (h.mono hm hV hk) ih

theorem LRep.length {m V w vs l} (h : LRep m V w vs l) : vs.length = l.length := by
  induction h with
  | nil => rfl
  | cons _ _ ih => simp [ih]

theorem LRep.get {m V w vs l} (h : LRep m V w vs l) : ∀ (i : Nat) a, l[i]? = some a → ∃ v, vs[i]? = some v ∧ ARep m V w v a := by
  induction h with
  | nil => intro i a h; simp at h
  | cons h _ ih =>
    intro i a hi
    cases i with
    | zero => simp at hi; subst hi; exact ⟨_, by simp, h⟩
    | succ i => simpa using ih i a (by simpa using hi)

theorem LRep.of {m V w} : ∀ (vs : List Value) (l : List AV), vs.length = l.length → (∀ (i : Nat) v a, vs[i]? = some v → l[i]? = some a → ARep m V w v a) → LRep m V w vs l
  | [], [], _, _ => .nil
  | v :: vs, a :: l, h, k => .cons (k 0 v a rfl rfl) (LRep.of vs l (by simpa using h) fun i v a h1 h2 => k (i + 1) v a (by simpa using h1) (by simpa using h2))
  | [], _ :: _, h, _ => by simp at h
  | _ :: _, [], h, _ => by simp at h

theorem LRep.append {m V w vs l vs' l'} (h : LRep m V w vs l) (h' : LRep m V w vs' l') : LRep m V w (vs ++ vs') (l ++ l') := by
  induction h with
  | nil => exact h'
  | cons h _ ih => exact .cons h ih

theorem LRep.take {m V w vs l} (h : LRep m V w vs l) : ∀ n, LRep m V w (vs.take n) (l.take n) := by
  induction h with
  | nil => intro n; simp; exact .nil
  | cons h _ ih => intro n; cases n with
    | zero => exact .nil
    | succ n => exact .cons h (ih n)

theorem LRep.drop {m V w vs l} (h : LRep m V w vs l) : ∀ n, LRep m V w (vs.drop n) (l.drop n) := by
  induction h with
  | nil => intro n; simp; exact .nil
  | cons h t ih => intro n; cases n with
    | zero => exact .cons h t
    | succ n => exact ih n

theorem LRep.one {m V w vs l} (h : LRep m V w vs l) : ∀ v ∈ vs, v.oneCell' = true := by
  induction h with
  | nil => intro v hv; cases hv
  | cons h _ ih => intro v hv; cases hv with
    | head => exact h.one
    | tail _ hv => exact ih v hv

theorem LRep.setAt {m V w vs l xs ys} (h : LRep m V w vs l) (hx : LRep m V w xs ys) (c : Nat) : LRep m V w (vs.take c ++ xs ++ vs.drop (c + xs.length)) (setAt l c ys) := by
  rw [List.append_assoc, hx.length]
  exact (h.take c).append (hx.append (h.drop _))

inductive TRep (m : KM) (V : Nat → Prop) (w : World) : Value → TV → Prop where
  | c {v a} (h : ARep m V w v a) : TRep m V w v (.c a)
  | agg {vs : Array Value} {l} (h : LRep m V w vs.toList l) : TRep m V w (.agg vs) (.agg l)
  | tup {vs : Array Value} {l} (hs : vs.size = l.length) (h : ∀ (i : Nat) t v, l[i]? = some t → vs[i]? = some v → TRep m V w v t) : TRep m V w (.tuple vs) (.tup l)
  | any (v : Value) : TRep m V w v .any

theorem TRep.mono {m m' : KM} {V V' : Nat → Prop} {w w' : World} (hm : Ext m m') (hV : ∀ b, V b → V' b) (hk : Kept V w w') {v : Value} {c : TV} (h : TRep m V w v c) :
    TRep m' V' w' v c := by
  induction h with
  | c h => exact .c (h.mono hm hV hk)
  | agg h => exact .agg (h.mono hm hV hk)
  | tup hs _ ih => exact .tup hs ih
  | any v => exact .any v

theorem TRep.cells {m V w v t l} (h : TRep m V w v t) (hc : cellsOf t = some l) : LRep m V w v.cells.toList l := by
  cases h with
  | c h =>
    simp [cellsOf] at hc; subst hc
    have := h.one
    have e : v.cells = #[v] := by cases v <;> first | rfl | simp [Value.oneCell'] at this
    rw [e]; exact .cons h .nil
  | agg h => simp [cellsOf] at hc; subst hc; exact h
  | tup => simp [cellsOf] at hc
  | any => simp [cellsOf] at hc

/-- Plain cells. -/
inductive PsRep (V : Nat → Prop) (w : World) : List Value → List PV → Prop where
  | nil : PsRep V w [] []
  | cons {v a vs l} (h : PRep V w v a) (t : PsRep V w vs l) : PsRep V w (v :: vs) (a :: l)

theorem LRep.pure {m V w vs l ps} (h : LRep m V w vs l) (hp : pureL l = some ps) : PsRep V w vs ps := by
  induction h generalizing ps with
  | nil => simp [pureL] at hp; subst hp; exact .nil
  | cons h _ ih =>
    cases h with
    | p h =>
      simp [pureL, Option.map_eq_some_iff] at hp
      obtain ⟨a, ha, rfl⟩ := hp
      exact .cons h (ih ha)
    | nilS =>
      simp [pureL, Option.map_eq_some_iff] at hp
      obtain ⟨a, ha, rfl⟩ := hp
      exact .cons (.nil _ _) (ih ha)
    | _ => simp [pureL] at hp

theorem PsRep.length {V w vs l} (h : PsRep V w vs l) : vs.length = l.length := by
  induction h with
  | nil => rfl
  | cons _ _ ih => simp [ih]

theorem PsRep.get {V w vs l} (h : PsRep V w vs l) : ∀ (i : Nat) a, l[i]? = some a → ∃ v, vs[i]? = some v ∧ PRep V w v a := by
  induction h with
  | nil => intro i a h; simp at h
  | cons h _ ih =>
    intro i a hi
    cases i with
    | zero => simp at hi; subst hi; exact ⟨_, by simp, h⟩
    | succ i => simpa using ih i a (by simpa using hi)

theorem PsRep.up {m V w vs ps} (h : PsRep V w vs ps) : LRep m V w vs (ps.map .p) := by
  induction h with
  | nil => exact .nil
  | cons h _ ih => exact .cons (.p h) ih

theorem PsRep.one {V w vs l} (h : PsRep V w vs l) : ∀ v ∈ vs, v.oneCell' = true := by
  induction h with
  | nil => intro v hv; cases hv
  | cons h _ ih => intro v hv; cases hv with
    | head => exact h.one
    | tail _ hv => exact ih v hv

theorem zcell_rep {m V w v a} (h : zcell v = some a) : ARep m V w v a := by
  unfold zcell at h
  split at h <;> simp at h <;> subst h
  · exact .p (.int _ _)
  · exact .p (.bool _)
  · exact .nilS
  · exact .p .nilp
  · rename_i h1 h2; exact .p (.any _ (by cases v <;> first | rfl | exact absurd rfl (h1 _) | exact absurd rfl (h2 _)))

theorem zcells_rep {m V w} : ∀ (vs : List Value) l, zcells vs = some l → LRep m V w vs l
  | [], l, h => by simp [zcells] at h; subst h; exact .nil
  | v :: vs, l, h => by
    simp only [zcells, Option.bind_eq_some_iff, Option.map_eq_some_iff] at h
    obtain ⟨a, ha, r, hr, rfl⟩ := h
    exact .cons (zcell_rep ha) (zcells_rep vs r hr)

end Go.Sh
end
section
namespace Go.Sh

def Blk.mu : Blk → Bool
  | .box b _ => b
  | .arr b _ _ => b

/-- Room for rows. -/
structure Room (arr : Array Value) (base cap W : Nat) : Prop where
  le : base + cap * W ≤ arr.size
  pos : 0 < cap
  one : ∀ v ∈ arr.toList, v.oneCell' = true

inductive BlkRep (m : KM) (V : Nat → Prop) (w : World) (i : KI) : Blk → Prop where
  | box {mu l b arr elem} (h0 : i.base = 0) (hb : i.rb = some b) (hh : w.heap[b]? = some (.cells arr elem (0, 0))) (hl : LRep m V w arr.toList l) : BlkRep m V w i (.box mu l)
  | nil {mu W} (hw : i.w = W) (hb : i.rb = none) (hc : i.cap = 0) : BlkRep m V w i (.arr mu W [])
  | arr {mu W l b arr elem} (hw : i.w = W) (hb : i.rb = some b) (hh : w.heap[b]? = some (.cells arr elem (0, 0))) (hs : Room arr i.base i.cap W) (hc : l.length ≤ i.cap)
      (hr : RowsRep V w arr i.base W l) : BlkRep m V w i (.arr mu W l)

theorem RowsRep.mono {V V' : Nat → Prop} {w w' : World} (hV : ∀ b, V b → V' b) (hk : Kept V w w') {arr o W l} (h : RowsRep V w arr o W l) : RowsRep V' w' arr o W l :=
  fun i row hi => ⟨(h i row hi).1, fun j c hj => let ⟨v, a, b⟩ := (h i row hi).2 j c hj; ⟨v, a, b.mono hV hk⟩⟩

theorem BlkRep.mono {m m' : KM} {V V' : Nat → Prop} {w w' : World} {i b} (hm : Ext m m') (hV : ∀ b, V b → V' b) (hk : Kept V w w') (hs : ∀ r, i.rb = some r → w'.heap[r]? = w.heap[r]?)
    (h : BlkRep m V w i b) : BlkRep m' V' w' i b := by
  cases h with
  | box h0 hb hh hl => exact .box h0 hb (by rw [hs _ hb]; exact hh) (hl.mono hm hV hk)
  | nil hw hb hc => exact .nil hw hb hc
  | arr hw hb hh h1 h2 h3 => exact .arr hw hb (by rw [hs _ hb]; exact hh) h1 h2 (h3.mono hV hk)

/-- What holds of a call's blocks all along. U: the numbers that have been used for keys. -/
structure MRel (G : Glob) (V0 : Nat → Prop) (L0 : List Nat) (w0 : World) (U : Nat → Prop) (V : Nat → Prop) (m : KM) (h : Key → Option Blk) (w : World) : Prop where
  heap : ∀ k b, h k = some b → ∃ i, m k = some i ∧ BlkRep m V w i b
  inj : ∀ k k' b b' i i' r, h k = some b → h k' = some b' → b.mu = true → b'.mu = true → m k = some i → m k' = some i' → i.rb = some r → i'.rb = some r → k = k'
  mine : ∀ k b i r, h k = some b → b.mu = true → m k = some i → i.rb = some r → ¬ V r ∧ (r ∈ L0 ∨ w0.heap.size ≤ r)
  imm : ∀ k b i r, h k = some b → b.mu = false → m k = some i → i.rb = some r → V r
  gen : ∀ k i, m k = some i → U k.g
  vsz : ∀ b, V b → b < w.heap.size ∧ (V0 b ∨ b ∈ L0 ∨ w0.heap.size ≤ b)
  v0 : ∀ b, V0 b → V b
  glob : GlobRep V w G
  frame : Frm w0 w L0

section
variable {G : Glob} {V0 : Nat → Prop} {L0 : List Nat} {w0 : World} {U U' V : Nat → Prop} {m : KM} {h : Key → Option Blk} {w : World}

theorem MRel.used (M : MRel G V0 L0 w0 U V m h w) (hu : ∀ g, U g → U' g) : MRel G V0 L0 w0 U' V m h w :=
  { M with gen := fun k i e => hu _ (M.gen k i e) }

theorem BlkRep.lt {i b r} (hb : BlkRep m V w i b) (hr : i.rb = some r) : r < w.heap.size := by
  cases hb with
  | box _ hb hh _ => rw [hb] at hr; cases hr; exact (Array.getElem?_eq_some_iff.1 hh).1
  | nil _ hb _ => rw [hb] at hr; cases hr
  | arr _ hb hh _ _ _ => rw [hb] at hr; cases hr; exact (Array.getElem?_eq_some_iff.1 hh).1

/-- Only the count of draws has changed. -/
theorem MRel.same (M : MRel G V0 L0 w0 U V m h w) {w' : World} (hh : w'.heap = w.heap) (h1 : w'.os = w.os) (h2 : w'.tape = w.tape) (h3 : w'.output = w.output) : MRel G V0 L0 w0 U V m h w' := by
  have hk : Kept V w w' := ⟨fun b _ => by rw [hh]⟩
  refine ⟨fun k b e => ?_, M.inj, M.mine, M.imm, M.gen, fun b e => by rw [hh]; exact M.vsz b e, M.v0, ?_, ?_⟩
  · obtain ⟨i, a, c⟩ := M.heap k b e
    exact ⟨i, a, c.mono (fun _ _ h => h) (fun _ h => h) hk (fun r _ => by rw [hh])⟩
  · intro g cells e
    obtain ⟨a, f, b, c⟩ := M.glob g cells e
    exact ⟨a, f, fun j hj => (cell_congr (w := w) (w' := w') (by rw [hh]) _).trans (b j hj), fun j x hx => (c j x hx).mono (fun _ h => h) hk⟩
  · exact ⟨h1.trans M.frame.os, h2.trans M.frame.tape, h3.trans M.frame.output, by rw [hh]; exact M.frame.size, fun b a c => by rw [hh]; exact M.frame.same b a c⟩

theorem alloc_old (w : World) (o : Obj) (b : Nat) (hb : b < w.heap.size) : (w.alloc o).heap[b]? = w.heap[b]? := by
  show (w.heap.push o)[b]? = _
  rw [Array.getElem?_push, if_neg (by omega)]

theorem alloc_new (w : World) (o : Obj) : (w.alloc o).heap[w.heap.size]? = some o := by
  show (w.heap.push o)[w.heap.size]? = _
  simp

def addK (m : KM) (k : Key) (i : KI) : KM := fun j => if j = k then some i else m j

theorem ext_add {m : KM} {k i} (hk : m k = none) : Ext m (addK m k i) := by
  intro j x hx
  unfold addK
  split
  · rename_i e; subst e; rw [hk] at hx; cases hx
  · exact hx

theorem kept_alloc (hv : ∀ b, V b → b < w.heap.size) (o : Obj) : Kept V w (w.alloc o) := ⟨fun b hb => alloc_old w o b (hv b hb)⟩

theorem frm_alloc {L} (hf : Frm w0 w L) (o : Obj) : Frm w0 (w.alloc o) L :=
  ⟨hf.os, hf.tape, hf.output, by have := hf.size; simp; omega, fun b hb hn => by rw [alloc_old w o b (by have := hf.size; omega)]; exact hf.same b hb hn⟩

theorem glob_kept {w' : World} (hg : GlobRep V w G) (hk : Kept V w w') : GlobRep V w' G := fun g cells e =>
  let ⟨a, f, b, c⟩ := hg g cells e
  ⟨a, f, fun j hj => by rw [cell_congr (hk.same _ a)]; exact b j hj, fun j x hx => (c j x hx).mono (fun _ h => h) hk⟩

/-- A new block. -/
theorem MRel.alloc (M : MRel G V0 L0 w0 U V m h w) {k : Key} {i : KI} {blk : Blk} (hu : ¬ U k.g) (c : Array Value) (t : TypeId) (hi : i.rb = some w.heap.size)
    (hb : BlkRep (addK m k i) V (w.alloc (.cells c t)) i blk) (hmu : blk.mu = true) :
    MRel G V0 L0 w0 (fun g => U g ∨ g = k.g) V (addK m k i) (updH h k (some blk)) (w.alloc (.cells c t)) ∧ Ext m (addK m k i) ∧ Kept V w (w.alloc (.cells c t)) := by
  have hk : m k = none := by
    cases e : m k with
    | none => rfl
    | some i => exact absurd (M.gen k i e) hu
  have hx := ext_add (i := i) hk
  have hkp := kept_alloc (fun b hb => (M.vsz b hb).1) (.cells c t)
  have old : ∀ k' b', k' ≠ k → updH h k (some blk) k' = some b' → h k' = some b' := fun k' b' hne e => by simpa [updH, hne] using e
  have mk : addK m k i k = some i := by simp [addK]
  have mo : ∀ k', k' ≠ k → addK m k i k' = m k' := fun k' hne => by simp [addK, hne]
  have hfresh : ∀ k' b' i', k' ≠ k → h k' = some b' → m k' = some i' → i'.rb ≠ some w.heap.size := fun k' b' i' _ e1 e2 e3 => by
    obtain ⟨x, hx1, hx2⟩ := M.heap k' b' e1
    rw [e2] at hx1; cases hx1
    exact absurd (hx2.lt e3) (by omega)
  refine ⟨⟨fun k' b' e => ?_, ?_, ?_, ?_, ?_, ?_, M.v0, glob_kept M.glob hkp, frm_alloc M.frame _⟩, hx, hkp⟩
  · by_cases hkk : k' = k
    · subst hkk
      simp [updH] at e; subst e
      exact ⟨i, mk, hb⟩
    · obtain ⟨x, h1, h2⟩ := M.heap k' b' (old k' b' hkk e)
      exact ⟨x, hx _ _ h1, h2.mono hx (fun _ h => h) hkp fun r hr => alloc_old w _ r (h2.lt hr)⟩
  · intro k1 k2 b1 b2 i1 i2 r e1 e2 m1 m2 q1 q2 r1 r2
    by_cases h1 : k1 = k <;> by_cases h2 : k2 = k
    · rw [h1, h2]
    · subst h1
      rw [mk] at q1; cases q1
      rw [mo _ h2] at q2
      rw [hi] at r1; cases r1
      exact absurd r2 (hfresh k2 b2 i2 h2 (old _ _ h2 e2) q2)
    · subst h2
      rw [mk] at q2; cases q2
      rw [mo _ h1] at q1
      rw [hi] at r2; cases r2
      exact absurd r1 (hfresh k1 b1 i1 h1 (old _ _ h1 e1) q1)
    · rw [mo _ h1] at q1; rw [mo _ h2] at q2
      exact M.inj k1 k2 b1 b2 i1 i2 r (old _ _ h1 e1) (old _ _ h2 e2) m1 m2 q1 q2 r1 r2
  · intro k1 b1 i1 r e1 m1 q1 r1
    by_cases h1 : k1 = k
    · subst h1
      rw [mk] at q1; cases q1
      rw [hi] at r1; cases r1
      exact ⟨fun hv => absurd (M.vsz _ hv).1 (by omega), .inr M.frame.size⟩
    · rw [mo _ h1] at q1
      exact M.mine k1 b1 i1 r (old _ _ h1 e1) m1 q1 r1
  · intro k1 b1 i1 r e1 m1 q1 r1
    by_cases h1 : k1 = k
    · subst h1
      simp [updH] at e1; subst e1
      rw [hmu] at m1; cases m1
    · rw [mo _ h1] at q1
      exact M.imm k1 b1 i1 r (old _ _ h1 e1) m1 q1 r1
  · intro k1 i1 e
    by_cases h1 : k1 = k
    · exact .inr (by rw [h1])
    · rw [mo _ h1] at e; exact .inl (M.gen k1 i1 e)
  · intro b hb
    have := M.vsz b hb
    exact ⟨by simp; omega, this.2⟩

theorem kept_setRow {r : Nat} (hv : ¬ V r) (c : Array Value) : Kept V w (w.setRow r c) := ⟨fun b hb => setRow_other w r b c (fun e => hv (e ▸ hb))⟩

/-- A block of one's own is written. -/
theorem MRel.write (M : MRel G V0 L0 w0 U V m h w) {k : Key} {i : KI} {r : Nat} {b blk : Blk} (hk : h k = some b) (hmu : b.mu = true) (hi : m k = some i) (hr : i.rb = some r) (c : Array Value)
    (hb : BlkRep m V (w.setRow r c) i blk) (hmu' : blk.mu = true) :
    MRel G V0 L0 w0 U V m (updH h k (some blk)) (w.setRow r c) ∧ Kept V w (w.setRow r c) := by
  obtain ⟨hnv, hown⟩ := M.mine k b i r hk hmu hi hr
  have hkp : Kept V w (w.setRow r c) := kept_setRow hnv c
  have old : ∀ k' b', k' ≠ k → updH h k (some blk) k' = some b' → h k' = some b' := fun k' b' hne e => by simpa [updH, hne] using e
  have back : ∀ k' b', updH h k (some blk) k' = some b' → ∃ b'', h k' = some b'' ∧ b''.mu = b'.mu := fun k' b' e => by
    by_cases hne : k' = k
    · subst hne; simp [updH] at e; subst e; exact ⟨b, hk, by rw [hmu, hmu']⟩
    · exact ⟨b', old _ _ hne e, rfl⟩
  refine ⟨⟨fun k' b' e => ?_, ?_, ?_, ?_, M.gen, fun b hb => by rw [setRow_size]; exact M.vsz b hb, M.v0, glob_kept M.glob hkp, ?_⟩, hkp⟩
  · by_cases hkk : k' = k
    · subst hkk
      simp [updH] at e; subst e
      exact ⟨i, hi, hb⟩
    · have e' := old k' b' hkk e
      obtain ⟨x, h1, h2⟩ := M.heap k' b' e'
      refine ⟨x, h1, h2.mono (fun _ _ h => h) (fun _ h => h) hkp fun r' hr' => setRow_other w r r' c fun er => ?_⟩
      subst er
      by_cases hm' : b'.mu = true
      · exact hkk (M.inj k' k b' b x i r' e' hk hm' hmu h1 hi hr' hr)
      · exact hnv (M.imm k' b' x r' e' (by simpa using hm') h1 hr')
  · intro k1 k2 b1 b2 i1 i2 r' e1 e2 m1 m2
    obtain ⟨c1, f1, g1⟩ := back _ _ e1
    obtain ⟨c2, f2, g2⟩ := back _ _ e2
    exact M.inj k1 k2 c1 c2 i1 i2 r' f1 f2 (g1.trans m1) (g2.trans m2)
  · intro k1 b1 i1 r' e1 m1
    obtain ⟨c1, f1, g1⟩ := back _ _ e1
    exact M.mine k1 c1 i1 r' f1 (g1.trans m1)
  · intro k1 b1 i1 r' e1 m1
    obtain ⟨c1, f1, g1⟩ := back _ _ e1
    exact M.imm k1 c1 i1 r' f1 (g1.trans m1)
  · refine ⟨M.frame.os, M.frame.tape, M.frame.output, by rw [setRow_size]; exact M.frame.size, fun b' hb' hn => ?_⟩
    rw [setRow_other w r b' c (fun e => by subst e; rcases hown with h | h; exact hn h; omega)]
    exact M.frame.same b' hb' hn

/-- A block is given up. -/
theorem MRel.drop (M : MRel G V0 L0 w0 U V m h w) (k : Key) : MRel G V0 L0 w0 U V m (updH h k none) w := by
  have old : ∀ k' b', updH h k none k' = some b' → h k' = some b' := fun k' b' e => by
    by_cases hne : k' = k
    · simp [updH, hne] at e
    · simpa [updH, hne] using e
  exact { M with
    heap := fun k' b' e => M.heap k' b' (old _ _ e)
    inj := fun k1 k2 b1 b2 i1 i2 r e1 e2 => M.inj k1 k2 b1 b2 i1 i2 r (old _ _ e1) (old _ _ e2)
    mine := fun k1 b1 i1 r e => M.mine k1 b1 i1 r (old _ _ e)
    imm := fun k1 b1 i1 r e => M.imm k1 b1 i1 r (old _ _ e) }

/-- A block goes on under another key (and perhaps from another row on). -/
theorem MRel.rekey (M : MRel G V0 L0 w0 U V m h w) {k k' : Key} {i i' : KI} {b blk : Blk} (hu : ¬ U k'.g) (hk : h k = some b) (hmu : b.mu = true) (hi : m k = some i)
    (hr : i'.rb = i.rb) (hb : BlkRep (addK m k' i') V w i' blk) (hmu' : blk.mu = true) :
    MRel G V0 L0 w0 (fun g => U g ∨ g = k'.g) V (addK m k' i') (updH (updH h k none) k' (some blk)) w ∧ Ext m (addK m k' i') := by
  have hmk : m k' = none := by
    cases e : m k' with
    | none => rfl
    | some i => exact absurd (M.gen k' i e) hu
  have hx := ext_add (i := i') hmk
  have hkk : k ≠ k' := fun e => by rw [← e, hi] at hmk; cases hmk
  have mk : addK m k' i' k' = some i' := by simp [addK]
  have mo : ∀ j, j ≠ k' → addK m k' i' j = m j := fun j hne => by simp [addK, hne]
  have old : ∀ j x, j ≠ k' → updH (updH h k none) k' (some blk) j = some x → h j = some x ∧ j ≠ k := fun j x hne e => by
    simp only [updH, hne, if_false] at e
    split at e
    · cases e
    · exact ⟨e, by assumption⟩
  refine ⟨⟨fun j x e => ?_, ?_, ?_, ?_, ?_, M.vsz, M.v0, M.glob, M.frame⟩, hx⟩
  · by_cases hne : j = k'
    · subst hne; simp [updH] at e; subst e; exact ⟨i', mk, hb⟩
    · obtain ⟨y, h1, h2⟩ := M.heap j x (old j x hne e).1
      exact ⟨y, hx _ _ h1, h2.mono hx (fun _ h => h) ⟨fun _ _ => rfl⟩ fun _ _ => rfl⟩
  · intro k1 k2 b1 b2 i1 i2 r e1 e2 m1 m2 q1 q2 r1 r2
    by_cases h1 : k1 = k' <;> by_cases h2 : k2 = k'
    · rw [h1, h2]
    · subst h1; rw [mk] at q1; cases q1
      rw [mo _ h2] at q2
      exact absurd (M.inj k k2 b b2 i i2 r hk (old _ _ h2 e2).1 hmu m2 hi q2 (hr ▸ r1) r2) (Ne.symm (old _ _ h2 e2).2)
    · subst h2; rw [mk] at q2; cases q2
      rw [mo _ h1] at q1
      exact absurd (M.inj k1 k b1 b i1 i r (old _ _ h1 e1).1 hk m1 hmu q1 hi r1 (hr ▸ r2)) (old _ _ h1 e1).2
    · rw [mo _ h1] at q1; rw [mo _ h2] at q2
      exact M.inj k1 k2 b1 b2 i1 i2 r (old _ _ h1 e1).1 (old _ _ h2 e2).1 m1 m2 q1 q2 r1 r2
  · intro k1 b1 i1 r e1 m1 q1 r1
    by_cases h1 : k1 = k'
    · subst h1; rw [mk] at q1; cases q1
      exact M.mine k b i r hk hmu hi (hr ▸ r1)
    · rw [mo _ h1] at q1; exact M.mine k1 b1 i1 r (old _ _ h1 e1).1 m1 q1 r1
  · intro k1 b1 i1 r e1 m1 q1 r1
    by_cases h1 : k1 = k'
    · subst h1; simp [updH] at e1; subst e1; rw [hmu'] at m1; cases m1
    · rw [mo _ h1] at q1; exact M.imm k1 b1 i1 r (old _ _ h1 e1).1 m1 q1 r1
  · intro k1 i1 e
    by_cases h1 : k1 = k'
    · exact .inr (by rw [h1])
    · rw [mo _ h1] at e; exact .inl (M.gen k1 i1 e)

end

/-- What the slots hold. -/
def ERel (m : KM) (V : Nat → Prop) (w : World) (ts : Array Value) (e : Nat → TV) : Prop := ∀ t, TRep m V w (ts.getD t undef) (e t)

theorem ERel.mono {m m' : KM} {V V' : Nat → Prop} {w w' : World} {ts e} (hm : Ext m m') (hV : ∀ b, V b → V' b) (hk : Kept V w w') (h : ERel m V w ts e) : ERel m' V' w' ts e :=
  fun t => (h t).mono hm hV hk

theorem ERel.put {m V w ts e v t} (h : ERel m V w ts e) (d : Nat) (hd : d < ts.size) (hv : TRep m V w v t) : ERel m V w (ts.setIfInBounds d v) (upd e d t) := by
  intro j
  unfold upd
  by_cases hj : j = d
  · subst hj; simp [hd]; exact hv
  · have := h j
    simp only [hj, if_false]
    rwa [Array.getD_eq_getD_getElem?, Array.getElem?_setIfInBounds_ne (Ne.symm hj), ← Array.getD_eq_getD_getElem?]

section
variable {G : Glob} {V0 : Nat → Prop} {L0 : List Nat} {w0 : World} {U U' V : Nat → Prop} {m : KM} {h : Key → Option Blk} {w : World}

/-- The world grows. -/
theorem MRel.grow (M : MRel G V0 L0 w0 U V m h w) (o : Obj) : MRel G V0 L0 w0 U V m h (w.alloc o) ∧ Kept V w (w.alloc o) := by
  have hkp := kept_alloc (fun b hb => (M.vsz b hb).1) o
  refine ⟨⟨fun k b e => ?_, M.inj, M.mine, M.imm, M.gen, fun b hb => ⟨?_, (M.vsz b hb).2⟩, M.v0, glob_kept M.glob hkp, frm_alloc M.frame _⟩, hkp⟩
  · obtain ⟨i, hi, hrep⟩ := M.heap k b e
    exact ⟨i, hi, hrep.mono (fun _ _ h => h) (fun _ h => h) hkp fun r hr => alloc_old w o r (hrep.lt hr)⟩
  · have := (M.vsz b hb).1
    simp; omega

theorem MRel.adopt (M : MRel G V0 L0 w0 U V m h w) {k : Key} {i : KI} {blk : Blk} (hu : U k.g) (hk : m k = none) (hb : BlkRep (addK m k i) V w i blk) (hmu : blk.mu = true)
    (hfree : ∀ r, i.rb = some r → ¬ V r ∧ (r ∈ L0 ∨ w0.heap.size ≤ r) ∧ ∀ k' bl i', h k' = some bl → bl.mu = true → m k' = some i' → i'.rb ≠ some r) :
    MRel G V0 L0 w0 U V (addK m k i) (updH h k (some blk)) w ∧ Ext m (addK m k i) := by
  have hx := ext_add (i := i) hk
  have mk : addK m k i k = some i := by simp [addK]
  have mo : ∀ j, j ≠ k → addK m k i j = m j := fun j hne => by simp [addK, hne]
  have old : ∀ j x, j ≠ k → updH h k (some blk) j = some x → h j = some x := fun j x hne e => by simpa [updH, hne] using e
  refine ⟨⟨fun j x e => ?_, ?_, ?_, ?_, ?_, M.vsz, M.v0, M.glob, M.frame⟩, hx⟩
  · by_cases hne : j = k
    · subst hne; simp [updH] at e; subst e; exact ⟨i, mk, hb⟩
    · obtain ⟨y, h1, h2⟩ := M.heap j x (old j x hne e)
      exact ⟨y, hx _ _ h1, h2.mono hx (fun _ h => h) ⟨fun _ _ => rfl⟩ fun _ _ => rfl⟩
  · intro k1 k2 b1 b2 i1 i2 r e1 e2 m1 m2 q1 q2 r1 r2
    by_cases h1 : k1 = k <;> by_cases h2 : k2 = k
    · rw [h1, h2]
    · subst h1; rw [mk] at q1; cases q1; rw [mo _ h2] at q2
      exact absurd r2 ((hfree r r1).2.2 k2 b2 i2 (old _ _ h2 e2) m2 q2)
    · subst h2; rw [mk] at q2; cases q2; rw [mo _ h1] at q1
      exact absurd r1 ((hfree r r2).2.2 k1 b1 i1 (old _ _ h1 e1) m1 q1)
    · rw [mo _ h1] at q1; rw [mo _ h2] at q2
      exact M.inj k1 k2 b1 b2 i1 i2 r (old _ _ h1 e1) (old _ _ h2 e2) m1 m2 q1 q2 r1 r2
  · intro k1 b1 i1 r e1 m1 q1 r1
    by_cases h1 : k1 = k
    · subst h1; rw [mk] at q1; cases q1; exact ⟨(hfree r r1).1, (hfree r r1).2.1⟩
    · rw [mo _ h1] at q1; exact M.mine k1 b1 i1 r (old _ _ h1 e1) m1 q1 r1
  · intro k1 b1 i1 r e1 m1 q1 r1
    by_cases h1 : k1 = k
    · subst h1; simp [updH] at e1; subst e1; rw [hmu] at m1; cases m1
    · rw [mo _ h1] at q1; exact M.imm k1 b1 i1 r (old _ _ h1 e1) m1 q1 r1
  · intro k1 i1 e
    by_cases h1 : k1 = k
    · rw [h1]; exact hu
    · rw [mo _ h1] at e; exact M.gen k1 i1 e

end
end Go.Sh
end
section
namespace Go.Sh

section
variable {P : Program} {G : Glob} {V0 : Nat → Prop} {L0 : List Nat} {w0 : World} {U V : Nat → Prop} {m : KM} {h : Key → Option Blk} {w : World}

/-- An operation does what the shadow says. -/
def Does (P : Program) (G : Glob) (V0 : Nat → Prop) (L0 : List Nat) (w0 : World) (U V : Nat → Prop) (m : KM) (h : Key → Option Blk) (w : World) (s : Sem Next) (g : Nat) (d : Dl) : Prop :=
  ∃ nx v w' V' m', s.run P w = .ok nx w' ∧ (nx = .value v ∨ (nx = .skip ∧ v = undef)) ∧ TRep m' V' w' v d.v ∧
    MRel G V0 L0 w0 (fun x => U x ∨ x = g) V' m' (putH h d.wr) w' ∧ Ext m m' ∧ (∀ b, V b → V' b) ∧ Kept V w w'

theorem Does.pure (M : MRel G V0 L0 w0 U V m h w) {s : Sem Next} {g : Nat} {t : TV} {rd : List Key} {v : Value} (hs : s.run P w = .ok (.value v) w) (ht : TRep m V w v t) :
    Does P G V0 L0 w0 U V m h w s g ⟨t, [], rd⟩ :=
  ⟨_, v, w, V, m, hs, .inl rfl, ht, M.used fun _ h => .inl h, fun _ _ h => h, fun _ h => h, ⟨fun _ _ => rfl⟩⟩

theorem constT_rep (v : Value) : TRep m V w v (constT v) := by
  unfold constT
  split
  · exact .c (.p (.int _ _))
  · exact .c (.p (.bool _))
  · exact .c .nilS
  · exact .c (.p .nilp)
  · split
    · rename_i l hl; exact .agg (zcells_rep _ _ hl)
    · exact .any _
  · split
    · rename_i cs _ hc; exact .tup (by simpa using congrArg List.length hc) (by simp)
    · exact .any _
  · exact .any _

theorem ev_rep {a : Act} {e : Nat → TV} (E : ERel m V w a.tmps e) (hg : GlobRep V w G) (x : Operand) : TRep m V w (a.eval x) (ev G e x) := by
  cases x with
  | tmp t => exact E t
  | const v => exact constT_rep v
  | global g =>
    simp only [ev]
    split
    · rename_i cells hc
      obtain ⟨hv, f, h1, h2⟩ := hg g cells hc
      exact .c (.pb (b := g) (o := 0) (c := 0) f hv (by simpa using h1) h2)
    · exact .any _
  | func f =>
    exact .c (.p (.clo f [] (fun _ => 0) (fun _ => 0) (fun _ _ => undef) #[] rfl (by simp) (by simp) (by simp) (by simp)))


theorem ti_ok {t : TypeId} (hk : (ti P t).ok = true) : ∃ i d, P.info? t = some i ∧ P.underlying t = some d ∧ (ti P t).size = i.size ∧ (ti P t).bytes = i.bytes ∧
    (ti P t).agg = isAggD d := by
  unfold ti at *
  split at hk
  · rename_i i d hi hd; exact ⟨i, d, hi, hd, rfl, rfl, rfl⟩
  · cases hk

theorem ti_kind {t : TypeId} (hk : (ti P t).kind ≠ .other) : (ti P t).ok = true := by
  unfold ti at hk ⊢
  split
  · rfl
  · simp at hk

theorem kind_struct' {t : TypeId} {l} (hk : (ti P t).kind = .struct l) : ∃ fs, P.underlying t = some (.struct fs) ∧ (l = fs.toList.map fun f => (f.offset, f.type, sizeT P f.type)) ∧
    ∀ f ∈ fs.toList, (P.info? f.type).isSome = true := by
  unfold ti at hk
  split at hk
  · rename_i i d hi hd
    simp only at hk
    split at hk <;> try (simp at hk; done)
    rename_i fs
    split at hk
    · rename_i ha
      simp only [TK.struct.injEq] at hk
      exact ⟨fs, hd, hk.symm, fun f hf => List.all_eq_true.1 ha f hf⟩
    · cases hk
  · simp at hk

theorem kind_struct {t : TypeId} {l} (hk : (ti P t).kind = .struct l) : ∃ fs, P.underlying t = some (.struct fs) ∧ l = fs.toList.map fun f => (f.offset, f.type, sizeT P f.type) :=
  let ⟨fs, a, b, _⟩ := kind_struct' hk; ⟨fs, a, b⟩

theorem kind_array {t : TypeId} {n e} (hk : (ti P t).kind = .array n e) : P.underlying t = some (.array n e) := by
  unfold ti at hk
  split at hk
  · rename_i i d hi hd
    simp only at hk
    split at hk <;> (try split at hk) <;> simp at hk
    obtain ⟨rfl, rfl⟩ := hk; exact hd
  · simp at hk

theorem kind_slice {t : TypeId} {e} (hk : (ti P t).kind = .slice e) : P.underlying t = some (.slice e) := by
  unfold ti at hk
  split at hk
  · rename_i i d hi hd
    simp only at hk
    split at hk <;> (try split at hk) <;> simp at hk
    subst hk; exact hd
  · simp at hk

theorem kind_int {t : TypeId} {k} (hk : (ti P t).kind = .int k) : P.underlying t = some (.int k) := by
  unfold ti at hk
  split at hk
  · rename_i i d hi hd
    simp only at hk
    split at hk <;> (try split at hk) <;> simp at hk
    subst hk; exact hd
  · simp at hk

theorem run_sizeOf' {t : TypeId} {i : TypeInfo} (hi : P.info? t = some i) (w : World) : (sizeOf t).run P w = .ok i.size w := by
  simp [sizeOf, typeInfo, hi]

theorem run_isAgg' {t : TypeId} {d : TypeDesc} (hd : P.underlying t = some d) (w : World) :
    (isAgg t).run P w = .ok (isAggD d) w := by
  simp only [isAgg, Sem.run_bind, run_underlying hd, Result.andThen_ok]
  cases d <;> rfl


theorem add_none (b o n : Nat) : (⟨b, o, none⟩ : Addr).add n = ⟨b, o + n, none⟩ := by
  unfold Addr.add; split <;> simp_all

/-- A variable is read. -/
theorem loadVar_run {t : TypeId} {b o c : Nat} {l : List AV} {tv : TV} {vs : List Value} (hp : partOf (ti P t) l c = some tv) (hl : LRep m V w vs l)
    (hc : ∀ j v, vs[j]? = some v → w.cell? ⟨b, o + j, none⟩ = some v) : ∃ v, (loadVar t ⟨b, o + c, none⟩).run P w = .ok v w ∧ TRep m V w v tv := by
  unfold partOf at hp
  split at hp
  · rename_i hok
    obtain ⟨i, d, hi, hd, h1, _, h3⟩ := ti_ok hok
    split at hp
    · rename_i hagg
      split at hp
      · rename_i hle
        cases hp
        have hlen : ((vs.drop c).take (ti P t).size).length = (ti P t).size := by
          rw [List.length_take, List.length_drop, hl.length]; omega
        refine ⟨.agg ((vs.drop c).take (ti P t).size).toArray, ?_, .agg (by simpa using (hl.drop c).take _)⟩
        have hr := run_loadCells_list (P := P) w ⟨b, o + c, none⟩ ((vs.drop c).take (ti P t).size) (fun j v hj => by
          rw [add_none, Nat.add_assoc]
          refine hc (c + j) v ?_
          rw [List.getElem?_take] at hj
          split at hj
          · simpa [List.getElem?_drop] using hj
          · cases hj)
        rw [hlen, h1] at hr
        simp only [loadVar, Sem.run_bind, run_isAgg' hd, Result.andThen_ok]
        rw [h3] at hagg
        rw [hagg]
        simp [run_sizeOf' hi, hr, h1]
      · cases hp
    · rename_i hagg
      simp only [Option.map_eq_some_iff] at hp
      obtain ⟨a, ha, rfl⟩ := hp
      obtain ⟨v, hv, hrep⟩ := hl.get c a ha
      refine ⟨v, ?_, .c hrep⟩
      simp only [loadVar, Sem.run_bind, run_isAgg' hd, Result.andThen_ok]
      rw [h3] at hagg
      simp only [Bool.not_eq_true] at hagg
      rw [hagg]
      have := hc c v hv
      simp [this]
  · cases hp

/-- A part of an aggregate. -/
theorem part_run {t : TypeId} {c : Nat} {l : List AV} {tv : TV} {cs : Array Value} (hp : partOf (ti P t) l c = some tv) (hl : LRep m V w cs.toList l) :
    ∃ v, (part t cs c).run P w = .ok v w ∧ TRep m V w v tv := by
  unfold partOf at hp
  split at hp
  · rename_i hok
    obtain ⟨i, d, hi, hd, h1, _, h3⟩ := ti_ok hok
    split at hp
    · rename_i hagg
      split at hp
      · rename_i hle
        cases hp
        refine ⟨.agg (cs.extract c (c + (ti P t).size)), ?_, .agg ?_⟩
        · rw [h3] at hagg
          simp only [part, Sem.run_bind, run_isAgg' hd, Result.andThen_ok, hagg]
          simp [run_sizeOf' hi, h1]
        · rw [Array.toList_extract, List.extract_eq_take_drop]
          have : c + (ti P t).size - c = (ti P t).size := by omega
          rw [this]
          exact (hl.drop c).take _
      · cases hp
    · rename_i hagg
      simp only [Option.map_eq_some_iff] at hp
      obtain ⟨a, ha, rfl⟩ := hp
      obtain ⟨v, hv, hrep⟩ := hl.get c a ha
      refine ⟨v, ?_, .c hrep⟩
      rw [h3] at hagg
      simp only [Bool.not_eq_true] at hagg
      simp only [part, Sem.run_bind, run_isAgg' hd, Result.andThen_ok, hagg]
      have : cs[c]? = some v := by simpa using hv
      simp [this]
  · cases hp

theorem CellsRep.list {arr : Array Value} {o : Nat} {row : List PV} (hr : CellsRep V w arr o row) : ∃ vs : List Value, PsRep V w vs row ∧ ∀ j v, vs[j]? = some v → arr[o + j]? = some v := by
  induction row generalizing o with
  | nil => exact ⟨[], .nil, by simp⟩
  | cons c row ih =>
    obtain ⟨v, hv, hp⟩ := hr 0 c rfl
    obtain ⟨vs, h1, h2⟩ := ih (o := o + 1) (fun j c hj => by
      obtain ⟨v, a, b⟩ := hr (j + 1) c (by simpa using hj)
      exact ⟨v, by rw [show o + 1 + j = o + (j + 1) by omega]; exact a, b⟩)
    refine ⟨v :: vs, .cons hp h1, fun j x hj => ?_⟩
    cases j with
    | zero => simp at hj; subst hj; simpa using hv
    | succ j => have := h2 j x (by simpa using hj); rwa [show o + (j + 1) = o + 1 + j by omega]

theorem cells_list {b o : Nat} {cells : List PV} {f : Nat → Value} (h1 : ∀ j, j < cells.length → w.cell? ⟨b, o + j, none⟩ = some (f j)) (h2 : ∀ j x, cells[j]? = some x → PRep V w (f j) x) :
    ∃ vs : List Value, PsRep V w vs cells ∧ ∀ j v, vs[j]? = some v → w.cell? ⟨b, o + j, none⟩ = some v := by
  induction cells generalizing o f with
  | nil => exact ⟨[], .nil, by simp⟩
  | cons c row ih =>
    obtain ⟨vs, g1, g2⟩ := ih (o := o + 1) (f := fun j => f (j + 1)) (fun j hj => by
      have := h1 (j + 1) (by simpa using hj)
      rwa [show o + (j + 1) = o + 1 + j by omega] at this) (fun j x hx => h2 (j + 1) x (by simpa using hx))
    refine ⟨f 0 :: vs, .cons (h2 0 c rfl) g1, fun j x hj => ?_⟩
    cases j with
    | zero => simp at hj; subst hj; simpa using h1 0 (by simp)
    | succ j => have := g2 j x (by simpa using hj); rwa [show o + (j + 1) = o + 1 + j by omega]

theorem load_sound (M : MRel G V0 L0 w0 U V m h w) {ρ : Operand → Value} {t : TypeId} {x : Operand} {tx : TV} {o : Oper} {g : Nat} {d : Dl} (ho : o.op = .load t x)
    (hx : TRep m V w (ρ x) tx) (hd : loadV (ti P t) h tx = some d) : Does P G V0 L0 w0 U V m h w (execOp ρ o) g d := by
  unfold loadV at hd
  split at hd
  · -- a local address
    rename_i k r c
    generalize hv : ρ x = v at hx
    cases hx with
    | c hx =>
    cases hx with
    | @ptr _ i b _ _ hm hb =>
      split at hd
      · -- a variable
        rename_i mu l hk
        split at hd
        · rename_i hr0
          subst hr0
          simp only [Option.map_eq_some_iff] at hd
          obtain ⟨tv, htv, rfl⟩ := hd
          obtain ⟨i', hm', hrep⟩ := M.heap _ _ hk
          rw [hm] at hm'; cases hm'
          cases hrep with
          | @box _ _ b' arr elem h0 hb' hh hl =>
            rw [hb] at hb'; cases hb'
            obtain ⟨v, hv1, hv2⟩ := loadVar_run (b := b) (o := 0) htv hl (fun j v hj => by rw [cell_of hh]; simpa using hj)
            refine Does.pure M (v := v) ?_ hv2
            simp only [h0, Nat.zero_mul, Nat.zero_add] at hv
            simp only [Nat.zero_add] at hv1
            simp [execOp, ho, Instr.loadAt, hv, Instr.sureAddr, hv1]
        · cases hd
      · -- a row of a slice
        rename_i mu W l hk
        simp only [Option.bind_eq_some_iff, Option.map_eq_some_iff] at hd
        obtain ⟨row, hrow, tv, htv, rfl⟩ := hd
        obtain ⟨i', hm', hrep⟩ := M.heap _ _ hk
        rw [hm] at hm'; cases hm'
        cases hrep with
        | nil => simp at hrow
        | @arr _ _ _ b' arr elem hw' hb' hh hs hc hr =>
          rw [hb] at hb'; cases hb'
          obtain ⟨_, hcr⟩ := hr r row hrow
          obtain ⟨vs, h1, h2⟩ := hcr.list
          obtain ⟨v, hv1, hv2⟩ := loadVar_run (b := b) (o := i.base + r * W) htv (h1.up (m := m)) (fun j v hj => by rw [cell_of hh]; exact h2 j v hj)
          refine Does.pure M (v := v) ?_ hv2
          rw [hw'] at hv
          simp [execOp, ho, Instr.loadAt, hv, Instr.sureAddr, hv1]
      · cases hd
  · -- memory that stays
    rename_i cells c
    generalize hv : ρ x = v at hx
    cases hx with
    | c hx =>
    cases hx with
    | @pb b o' _ _ f hV h1 h2 =>
      simp only [Option.map_eq_some_iff] at hd
      obtain ⟨tv, htv, rfl⟩ := hd
      obtain ⟨vs, g1, g2⟩ := cells_list h1 h2
      obtain ⟨v, hv1, hv2⟩ := loadVar_run (b := b) (o := o') htv (g1.up (m := m)) g2
      refine Does.pure M (v := v) ?_ hv2
      simp [execOp, ho, Instr.loadAt, hv, Instr.sureAddr, hv1]
  · cases hd

end
end Go.Sh
end
section
namespace Go.Sh

section
variable {P : Program} {G : Glob} {V0 : Nat → Prop} {L0 : List Nat} {w0 : World} {U V : Nat → Prop} {m : KM} {h : Key → Option Blk} {w : World} {ρ : Operand → Value} {o : Oper} {g : Nat} {d : Dl}

theorem val_eq {t : TV} (hd : val t = some d) : d = ⟨t, [], []⟩ := by simp [val] at hd; exact hd.symm


theorem TRep.int_eq {v k n} (hx : TRep m V w v (.c (.p (.int k n)))) : v = .int k n := by
  cases hx with | c hx => cases hx with | p hx => cases hx; rfl
theorem TRep.bool_eq {v b} (hx : TRep m V w v (.c (.p (.bool b)))) : v = .bool b := by
  cases hx with | c hx => cases hx with | p hx => cases hx; rfl
theorem TRep.asInt_eq {v t n} (hx : TRep m V w v t) (ht : asInt t = some n) : ∃ k, v = .int k n := by
  unfold asInt at ht
  split at ht
  · cases ht; exact ⟨_, hx.int_eq⟩
  · cases ht
theorem TRep.int {k n} : TRep m V w (.int k n) (.c (.p (.int k n))) := .c (.p (.int k n))
theorem TRep.bool {b} : TRep m V w (.bool b) (.c (.p (.bool b))) := .c (.p (.bool b))

theorem move_sound (M : MRel G V0 L0 w0 U V m h w) {x : Operand} {tx : TV} (ho : o.op = .move x ∨ o.op = .assign x) (hx : TRep m V w (ρ x) tx) (hd : val tx = some d) :
    Does P G V0 L0 w0 U V m h w (execOp ρ o) g d := by
  rw [val_eq hd]
  refine Does.pure M (v := ρ x) ?_ hx
  rcases ho with ho | ho <;> simp [execOp, ho]

theorem pick_sound (M : MRel G V0 L0 w0 U V m h w) {c a b : Operand} {tc ta tb : TV} (ho : o.op = .pick c a b) (hc : TRep m V w (ρ c) tc) (ha : TRep m V w (ρ a) ta) (hb : TRep m V w (ρ b) tb)
    (hd : (pickV tc ta tb).bind val = some d) : Does P G V0 L0 w0 U V m h w (execOp ρ o) g d := by
  simp only [Option.bind_eq_some_iff] at hd
  obtain ⟨t, ht, hd⟩ := hd
  rw [val_eq hd]
  unfold pickV at ht
  split at ht
  · rename_i x
    cases ht
    have e := hc.bool_eq
    cases x
    · exact Does.pure M (v := ρ b) (by simp [execOp, ho, e, asBool]) hb
    · exact Does.pure M (v := ρ a) (by simp [execOp, ho, e, asBool]) ha
  · cases ht

theorem nilCheck_sound (M : MRel G V0 L0 w0 U V m h w) {x : Operand} {tx : TV} (ho : o.op = .nilCheck x) (hx : TRep m V w (ρ x) tx)
    (hd : nilCheckV tx = some d) :
    Does P G V0 L0 w0 U V m h w (execOp ρ o) g d := by
  generalize hv : ρ x = v at hx
  unfold nilCheckV at hd
  split at hd
  · rw [val_eq hd]
    have hx' := hx
    cases hx with | c hx => cases hx with
    | ptr hm hb => exact Does.pure M (by simp [execOp, ho, hv]) hx'
  · rw [val_eq hd]
    have hx' := hx
    cases hx with | c hx => cases hx with
    | pb f h1 h2 h3 => exact Does.pure M (by simp [execOp, ho, hv]) hx'
  · cases hd

theorem unOp_sound (M : MRel G V0 L0 w0 U V m h w) {op : UnOp} {t : TypeId} {x : Operand} {tx : TV} (ho : o.op = .unOp op t x) (hx : TRep m V w (ρ x) tx)
    (hd : (unV op tx).bind val = some d) : Does P G V0 L0 w0 U V m h w (execOp ρ o) g d := by
  simp only [Option.bind_eq_some_iff] at hd
  obtain ⟨t, ht, hd⟩ := hd
  rw [val_eq hd]
  unfold unV at ht
  split at ht
  · cases ht; exact Does.pure M (by simp [execOp, ho, hx.int_eq, Op.unary, Op.intArith]) .int
  · cases ht; exact Does.pure M (by simp [execOp, ho, hx.int_eq, Op.unary, intBits_xor]) .int
  · cases ht; exact Does.pure M (by simp [execOp, ho, hx.bool_eq, Op.unary]) .bool
  · cases ht

theorem convert_sound (M : MRel G V0 L0 w0 U V m h w) {s t : TypeId} {x : Operand} {tx : TV} (ho : o.op = .convert s t x) (hx : TRep m V w (ρ x) tx)
    (hd : (convV (ti P s) (ti P t) tx).bind val = some d) : Does P G V0 L0 w0 U V m h w (execOp ρ o) g d := by
  simp only [Option.bind_eq_some_iff] at hd
  obtain ⟨t', ht, hd⟩ := hd
  rw [val_eq hd]
  unfold convV at ht
  split at ht
  · rename_i k k' n hk
    split at ht
    · rename_i hok
      cases ht
      obtain ⟨i, d', hi, hd', _⟩ := ti_ok hok
      have hu := kind_int hk
      refine Does.pure M (v := .int k (k.wrap n)) ?_ .int
      simp only [execOp, ho, hx.int_eq, Sem.run_bind, convert, run_underlying hd', run_underlying hu, Result.andThen_ok]
      cases d' <;> simp [Conv.intToInt]
    · cases ht
  · cases ht

theorem extract_sound (M : MRel G V0 L0 w0 U V m h w) {x : Operand} {i : Nat} {tx : TV} (ho : o.op = .extract x i) (hx : TRep m V w (ρ x) tx)
    (hd : (extractV tx i).bind val = some d) : Does P G V0 L0 w0 U V m h w (execOp ρ o) g d := by
  simp only [Option.bind_eq_some_iff] at hd
  obtain ⟨t, ht, hd⟩ := hd
  rw [val_eq hd]
  unfold extractV at ht
  split at ht
  · rename_i l
    generalize hv : ρ x = v at hx
    cases hx with
    | @tup vs _ hs hh =>
      have hlt : i < vs.size := by
        rw [hs]
        exact (List.getElem?_eq_some_iff.1 ht).1
      have hvi : vs[i]? = some vs[i] := by simp [hlt]
      exact Does.pure M (v := vs[i]) (by simp [execOp, ho, hv, Instr.extract, hvi]) (hh i t _ ht hvi)
  · cases ht

theorem fieldAddr_sound (M : MRel G V0 L0 w0 U V m h w) {t : TypeId} {x : Operand} {f : Nat} {tx : TV} (ho : o.op = .fieldAddr t x f) (hx : TRep m V w (ρ x) tx)
    (hd : fieldAddrV (ti P t) f tx = some d) : Does P G V0 L0 w0 U V m h w (execOp ρ o) g d := by
  have go : ∀ (b o' : Nat) (l : List (Nat × TypeId × Nat)) (p : Nat × TypeId × Nat), (ti P t).kind = .struct l → l[f]? = some p → p.2.2 ≠ 0 → ρ x = .pointer (some ⟨b, o', none⟩) →
      (execOp ρ o).run P w = .ok (.value (.pointer (some ⟨b, o' + p.1, none⟩))) w := by
    intro b o' l p hk hl hp hv
    obtain ⟨fs, hu, rfl⟩ := kind_struct hk
    simp only [List.getElem?_map, Option.map_eq_some_iff] at hl
    obtain ⟨fd, hfd, rfl⟩ := hl
    have hfd' : fs[f]? = some fd := by simpa using hfd
    have hs : ∃ i, P.info? fd.type = some i ∧ i.size ≠ 0 := by
      simp only [sizeT] at hp
      cases hi : P.info? fd.type with
      | none => simp [hi] at hp
      | some i => exact ⟨i, rfl, by simpa [hi] using hp⟩
    obtain ⟨i, hi, hne⟩ := hs
    simp [execOp, ho, Instr.fieldAt, run_underlying hu, hfd', hv, Instr.sureAddr, fieldPlace, run_sizeOf' hi, hne, add_none]
  unfold fieldAddrV at hd
  split at hd
  · split at hd
    · rename_i k r c _ l hk
      simp only [Option.bind_eq_some_iff] at hd
      obtain ⟨p, hp, hd⟩ := hd
      split at hd
      · cases hd
      · rename_i hne
        rw [val_eq hd]
        generalize hv : ρ x = v at hx
        cases hx with | c hx => cases hx with
        | @ptr _ i b _ _ hm hb =>
          refine Does.pure M (go _ _ _ _ hk hp hne hv) ?_
          rw [show i.base + r * i.w + c + p.1 = i.base + r * i.w + (c + p.1) by omega]
          exact .c (.ptr hm hb)
    · cases hd
  · split at hd
    · rename_i cells c _ l hk
      simp only [Option.bind_eq_some_iff] at hd
      obtain ⟨p, hp, hd⟩ := hd
      split at hd
      · cases hd
      · rename_i hne
        rw [val_eq hd]
        generalize hv : ρ x = v at hx
        cases hx with | c hx => cases hx with
        | @pb b o' _ _ ff h1 h2 h3 =>
          refine Does.pure M (go _ _ _ _ hk hp hne hv) ?_
          rw [show o' + c + p.1 = o' + (c + p.1) by omega]
          exact .c (.pb ff h1 h2 h3)
    · cases hd
  · cases hd

theorem field_sound (M : MRel G V0 L0 w0 U V m h w) {t : TypeId} {x : Operand} {f : Nat} {tx : TV} (ho : o.op = .field t x f) (hx : TRep m V w (ρ x) tx)
    (hd : fieldV P (ti P t) f tx = some d) : Does P G V0 L0 w0 U V m h w (execOp ρ o) g d := by
  unfold fieldV at hd
  split at hd
  · split at hd
    · rename_i l _ fl hk
      simp only [Option.bind_eq_some_iff] at hd
      obtain ⟨p, hp, tv, htv, hd⟩ := hd
      rw [val_eq hd]
      obtain ⟨fs, hu, rfl⟩ := kind_struct hk
      simp only [List.getElem?_map, Option.map_eq_some_iff] at hp
      obtain ⟨fd, hfd, rfl⟩ := hp
      have hfd' : fs[f]? = some fd := by simpa using hfd
      generalize hv : ρ x = v at hx
      cases hx with
      | agg hl =>
        obtain ⟨v, h1, h2⟩ := part_run (P := P) htv hl
        exact Does.pure M (v := v) (by simp [execOp, ho, Instr.field, run_underlying hu, hfd', hv, asAgg, h1]) h2
    · cases hd
  · cases hd

theorem index_sound (M : MRel G V0 L0 w0 U V m h w) {t : TypeId} {x i : Operand} {tx ti' : TV} (ho : o.op = .index t x i) (hx : TRep m V w (ρ x) tx) (hi : TRep m V w (ρ i) ti')
    (hd : indexV P (ti P t) tx ti' = some d) : Does P G V0 L0 w0 U V m h w (execOp ρ o) g d := by
  unfold indexV at hd
  split at hd
  · rename_i n e l j hk hj
    split at hd
    · rename_i hb
      simp only [Option.bind_eq_some_iff] at hd
      obtain ⟨tv, htv, hd⟩ := hd
      rw [val_eq hd]
      have hu := kind_array hk
      obtain ⟨k, hki⟩ := hi.asInt_eq hj
      generalize hv : ρ x = v at hx
      cases hx with
      | agg hl =>
        have hok : (ti P e).ok = true := by unfold partOf at htv; split at htv; assumption; cases htv
        obtain ⟨ii, dd, hi1, _, hi3, _⟩ := ti_ok hok
        obtain ⟨v, h1, h2⟩ := part_run (P := P) htv hl
        rw [hi3] at h1
        exact Does.pure M (v := v) (by simp [execOp, ho, Instr.index, run_underlying hu, hv, hki, asIntOf, hb.1, hb.2, run_sizeOf' hi1, h1]) h2
    · cases hd
  · cases hd

theorem indexO_sound (M : MRel G V0 L0 w0 U V m h w) {t : TypeId} {x i : Operand} {tx ti' : TV} (ho : o.op = .index t x i) (hr : ∀ v, ρ (.const v) = v) (hx : TRep m V w (ρ x) tx) (hi : TRep m V w (ρ i) ti')
    (hd : indexO P t x tx ti' = some d) : Does P G V0 L0 w0 U V m h w (execOp ρ o) g d := by
  unfold indexO at hd
  split at hd
  · rename_i s
    split at hd
    · rename_i hu
      split at hd
      · rename_i n hj
        split at hd
        · rename_i hb
          rw [val_eq hd]
          obtain ⟨k, hki⟩ := hi.asInt_eq hj
          have hlt : n.toNat < s.size := by omega
          have hs : s[n.toNat]? = some s[n.toNat] := getElem?_pos s n.toNat hlt
          refine Does.pure M (v := .int .u8 (strAt s n)) ?_ (.c (.p (.int _ _)))
          simp [execOp, ho, Instr.index, run_underlying hu, hr, hki, asIntOf, hb.1, hs, strAt]
        · cases hd
      · cases hd
    · cases hd
  · exact index_sound M ho hx hi hd

end
end Go.Sh
end
section
namespace Go.Sh

theorem eqCells_split : ∀ (l r : List AV) (b : Bool) (s : Nat), eqCells l r = some b → ∃ b1 b2, eqCells (l.take s) (r.take s) = some b1 ∧ eqCells (l.drop s) (r.drop s) = some b2 ∧ b = (b1 && b2)
  | [], [], b, s, h => by simp [eqCells] at h; subst h; exact ⟨true, true, by simp [eqCells], by simp [eqCells], rfl⟩
  | [], _ :: _, b, s, h => by simp [eqCells] at h
  | _ :: _, [], b, s, h => by simp [eqCells] at h
  | x :: l, y :: r, b, 0, h => ⟨true, b, by simp [eqCells], by simpa using h, by simp⟩
  | x :: l, y :: r, b, s + 1, h => by
    simp only [eqCells, Option.bind_eq_some_iff, Option.map_eq_some_iff] at h
    obtain ⟨b0, h0, b', h', rfl⟩ := h
    obtain ⟨b1, b2, h1, h2, rfl⟩ := eqCells_split l r b' s h'
    exact ⟨b0 && b1, b2, by simp [eqCells, h0, h1], by simpa using h2, by simp [Bool.and_assoc]⟩

theorem eqCells_length : ∀ (l r : List AV) (b : Bool), eqCells l r = some b → l.length = r.length
  | [], [], _, _ => rfl
  | [], _ :: _, b, h => by simp [eqCells] at h
  | _ :: _, [], b, h => by simp [eqCells] at h
  | _ :: l, _ :: r, b, h => by
    simp only [eqCells, Option.bind_eq_some_iff, Option.map_eq_some_iff] at h
    obtain ⟨_, _, b', h', _⟩ := h
    simp [eqCells_length l r b' h']

section
variable {P : Program} {G : Glob} {V0 : Nat → Prop} {L0 : List Nat} {w0 : World} {U V : Nat → Prop} {m : KM} {h : Key → Option Blk} {w : World} {ρ : Operand → Value} {o : Oper} {g : Nat} {d : Dl}

theorem sizeT_eq {t : TypeId} {i : TypeInfo} (hi : P.info? t = some i) : sizeT P t = i.size := by simp [sizeT, hi]
theorem cellsOf_eq (t : TypeId) : P.cellsOf t = sizeT P t := rfl

theorem underlying_info {t : TypeId} {dd : TypeDesc} (h : P.underlying t = some dd) : ∃ i, P.info? t = some i := by
  unfold Program.underlying at h
  cases hi : P.info? t with
  | none => rw [hi] at h; cases h
  | some i => exact ⟨i, rfl⟩

theorem eqCell_run {v u : Value} {a c : AV} {b : Bool} {t : TypeId} {k' : IntKind} (hv : ARep m V w v a) (hu : ARep m V w u c) (he : eqCell a c = some b) (dd : Nat)
    (ht : P.underlying t = some (.int k')) : (Op.equalIn (dd + 1) t v u).run P w = .ok b w := by
  unfold eqCell at he
  split at he
  · rename_i k x k' y
    split at he
    · rename_i hkk
      cases he
      subst hkk
      cases hv with | p hv =>
      cases hu with | p hu =>
      cases hv
      cases hu
      exact run_equalIn_int w dd t k _ x y ht
    · cases he
  · cases he

/-- Two cells of a plain type. -/
theorem eq_plain {t : TypeId} {xs ys : Array Value} {l r : List AV} {off : Nat} {b : Bool} (hx : LRep m V w xs.toList l) (hy : LRep m V w ys.toList r)
    (he : eqCells ((l.drop off).take 1) ((r.drop off).take 1) = some b) (hl : off < l.length) (hr : off < r.length) {dsc : TypeDesc} (hu : P.underlying t = some dsc) (hd : isAggD dsc = false) :
    ∃ a c v u, l[off]? = some a ∧ r[off]? = some c ∧ (part t xs off).run P w = .ok v w ∧ (part t ys off).run P w = .ok u w ∧ ARep m V w v a ∧ ARep m V w u c ∧ eqCell a c = some b := by
  have ha : l[off]? = some l[off] := by simp [hl]
  have hc : r[off]? = some r[off] := by simp [hr]
  obtain ⟨v, hv, hva⟩ := hx.get _ _ ha
  obtain ⟨u, hu', hua⟩ := hy.get _ _ hc
  have hv' : xs[off]? = some v := by simpa using hv
  have hu'' : ys[off]? = some u := by simpa using hu'
  refine ⟨l[off], r[off], v, u, ha, hc, ?_, ?_, hva, hua, ?_⟩
  · simp only [part, Sem.run_bind, run_isAgg' hu, Result.andThen_ok, hd]
    simp [hv']
  · simp only [part, Sem.run_bind, run_isAgg' hu, Result.andThen_ok, hd]
    simp [hu'']
  · rw [List.drop_eq_getElem_cons hl, List.drop_eq_getElem_cons hr] at he
    simp only [List.take_succ_cons, List.take_zero, eqCells, Option.bind_eq_some_iff, Option.map_eq_some_iff] at he
    obtain ⟨x, hx, y, hy, hxy⟩ := he
    cases hy
    rw [Bool.and_true] at hxy
    rw [← hxy]; exact hx


/-- '==' of a type in the shadow and in the machine. -/
def EqOk (P : Program) (m : KM) (V : Nat → Prop) (w : World) (dd : Nat) (t : TypeId) : Prop :=
  ∀ (xs ys : Array Value) (l r : List AV) (off : Nat) (b : Bool), LRep m V w xs.toList l → LRep m V w ys.toList r → eqCells ((l.drop off).take (sizeT P t)) ((r.drop off).take (sizeT P t)) = some b →
    off + sizeT P t ≤ l.length → off + sizeT P t ≤ r.length → ∃ a c, (part t xs off).run P w = .ok a w ∧ (part t ys off).run P w = .ok c w ∧ (Op.equalIn dd t a c).run P w = .ok b w

theorem seg_take (l : List AV) (a s n : Nat) (h : s ≤ n) : ((l.drop a).take n).take s = (l.drop a).take s := by
  rw [List.take_take]; congr 1; omega

theorem eqFields_ok (dd : Nat) (xs ys : Array Value) (l r : List AV) (hx : LRep m V w xs.toList l) (hy : LRep m V w ys.toList r) : ∀ (fs : List Field) (n tot : Nat) (b : Bool),
    lined P n fs = some tot → (∀ f ∈ fs, f.name ≠ "_" ∧ EqOk P m V w dd f.type) → l.length = tot → r.length = tot → eqCells (l.drop n) (r.drop n) = some b → n ≤ tot →
    (Op.eqFields dd xs ys fs).run P w = .ok b w
  | [], n, tot, b, hl, _, h1, h2, he, _ => by
    simp [lined] at hl
    subst hl
    rw [List.drop_of_length_le (by omega), List.drop_of_length_le (by omega)] at he
    simp [eqCells] at he; subst he
    simp [Op.eqFields]
  | f :: fs, n, tot, b, hl, hall, h1, h2, he, hn => by
    simp only [lined] at hl
    split at hl
    · rename_i hoff
      have hle : ∀ (fs : List Field) (n tot : Nat), lined P n fs = some tot → n ≤ tot := by
        intro fs
        induction fs with
        | nil => intro n tot h; simp [lined] at h; omega
        | cons f fs ih =>
          intro n tot h
          simp only [lined] at h
          split at h
          · have := ih _ _ h; omega
          · cases h
      have hn' := hle _ _ _ hl
      obtain ⟨b1, b2, e1, e2, rfl⟩ := eqCells_split _ _ _ (sizeT P f.type) he
      obtain ⟨hnm, hf⟩ := hall f (by simp)
      obtain ⟨a, c, p1, p2, p3⟩ := hf xs ys l r n b1 hx hy e1 (by omega) (by omega)
      rw [List.drop_drop, List.drop_drop] at e2
      have ih := eqFields_ok dd xs ys l r hx hy fs _ tot b2 hl (fun g hg => hall g (by simp [hg])) h1 h2 e2 hn'
      rw [← hoff] at p1 p2
      simp only [Op.eqFields, hnm, ne_eq, not_false_eq_true, if_true, Sem.run_bind, p1, p2, p3, Result.andThen_ok]
      cases b1
      · simp
      · simpa using ih
    · cases hl

theorem eqItems_ok (dd : Nat) {e : TypeId} (xs ys : Array Value) (l r : List AV) (hx : LRep m V w xs.toList l) (hy : LRep m V w ys.toList r) (he : EqOk P m V w dd e) : ∀ (k s : Nat) (b : Bool),
    l.length = (s + k) * sizeT P e → r.length = (s + k) * sizeT P e → eqCells (l.drop (s * sizeT P e)) (r.drop (s * sizeT P e)) = some b →
    (Op.eqItems dd e (P.cellsOf e) xs ys (List.range' s k)).run P w = .ok b w
  | 0, s, b, h1, h2, hb => by
    rw [List.drop_of_length_le (by simpa using Nat.le_of_eq h1), List.drop_of_length_le (by simpa using Nat.le_of_eq h2)] at hb
    simp [eqCells] at hb; subst hb
    simp [Op.eqItems]
  | k + 1, s, b, h1, h2, hb => by
    obtain ⟨b1, b2, e1, e2, rfl⟩ := eqCells_split _ _ _ (sizeT P e) hb
    have hm : (s + (k + 1)) * sizeT P e = s * sizeT P e + sizeT P e + k * sizeT P e := by rw [Nat.add_mul, Nat.add_mul]; omega
    obtain ⟨a, c, p1, p2, p3⟩ := he xs ys l r (s * sizeT P e) b1 hx hy e1 (by omega) (by omega)
    rw [List.drop_drop, List.drop_drop] at e2
    have hs : s * sizeT P e + sizeT P e = (s + 1) * sizeT P e := by rw [Nat.add_mul]; omega
    rw [hs] at e2
    have ih := eqItems_ok dd xs ys l r hx hy he k (s + 1) b2 (by rw [h1]; congr 1; omega) (by rw [h2]; congr 1; omega) e2
    rw [List.range'_succ]
    simp only [Op.eqItems, cellsOf_eq, Sem.run_bind, p1, p2, p3, Result.andThen_ok]
    cases b1
    · simp
    · simpa [cellsOf_eq] using ih

theorem eqvT_ok : ∀ (n : Nat) (t : TypeId) (dd : Nat), eqvT P n t = true → n ≤ dd → EqOk P m V w dd t
  | 0, _, _, h, _ => by simp [eqvT] at h
  | n + 1, t, 0, _, hd => by omega
  | n + 1, t, dd + 1, h, hd => by
    intro xs ys l r off b hx hy he hl hr
    unfold eqvT at h
    split at h
    · rename_i k hu
      have hs : sizeT P t = 1 := by simpa using h
      rw [hs] at he hl hr
      obtain ⟨a, c, v, u, _, _, p1, p2, hva, hua, hc⟩ := eq_plain hx hy he (by omega) (by omega) hu rfl
      exact ⟨v, u, p1, p2, eqCell_run hva hua hc dd hu⟩
    · rename_i fs hu
      simp only [Bool.and_eq_true, Bool.not_eq_true', beq_iff_eq, List.all_eq_true, bne_iff_ne] at h
      obtain ⟨⟨hst, hln⟩, hall⟩ := h
      obtain ⟨i, hi⟩ := underlying_info hu
      have hsz := sizeT_eq hi
      have pr : ∀ (zs : Array Value), (part t zs off).run P w = .ok (.agg (zs.extract off (off + sizeT P t))) w := by
        intro zs
        simp only [part, Sem.run_bind, run_isAgg' hu, Result.andThen_ok, isAggD]
        simp [run_sizeOf' hi, hsz]
      refine ⟨_, _, pr xs, pr ys, ?_⟩
      have seg : ∀ (zs : Array Value) (q : List AV), LRep m V w zs.toList q → LRep m V w (zs.extract off (off + sizeT P t)).toList ((q.drop off).take (sizeT P t)) := by
        intro zs q hq
        rw [Array.toList_extract, List.extract_eq_take_drop, show off + sizeT P t - off = sizeT P t by omega]
        exact (hq.drop off).take _
      have hf : P.fieldsOf t = fs := by simp [Program.fieldsOf, hu]
      rw [run_equalIn_struct (P := P) w dd t _ _ (by rw [hf]; exact hu) hst, hf]
      refine eqFields_ok dd _ _ _ _ (seg xs l hx) (seg ys r hy) fs.toList 0 (sizeT P t) b hln (fun f hfm => ?_) ?_ ?_ (by simpa using he) (Nat.zero_le _)
      · exact ⟨(hall f hfm).1, eqvT_ok n f.type dd (hall f hfm).2 (by omega)⟩
      · rw [List.length_take, List.length_drop]; omega
      · rw [List.length_take, List.length_drop]; omega
    · rename_i k e hu
      simp only [Bool.and_eq_true, beq_iff_eq] at h
      obtain ⟨hsz', hE⟩ := h
      obtain ⟨i, hi⟩ := underlying_info hu
      have hsz := sizeT_eq hi
      have pr : ∀ (zs : Array Value), (part t zs off).run P w = .ok (.agg (zs.extract off (off + sizeT P t))) w := by
        intro zs
        simp only [part, Sem.run_bind, run_isAgg' hu, Result.andThen_ok, isAggD]
        simp [run_sizeOf' hi, hsz]
      refine ⟨_, _, pr xs, pr ys, ?_⟩
      have seg : ∀ (zs : Array Value) (q : List AV), LRep m V w zs.toList q → LRep m V w (zs.extract off (off + sizeT P t)).toList ((q.drop off).take (sizeT P t)) := by
        intro zs q hq
        rw [Array.toList_extract, List.extract_eq_take_drop, show off + sizeT P t - off = sizeT P t by omega]
        exact (hq.drop off).take _
      have hie : ∃ ie, P.info? e = some ie := by
        cases n with
        | zero => simp [eqvT] at hE
        | succ n =>
          unfold eqvT at hE
          split at hE
          · rename_i hu' ; exact underlying_info hu'
          · rename_i hu' ; exact underlying_info hu'
          · rename_i hu' ; exact underlying_info hu'
          · cases hE
      obtain ⟨ie, hie⟩ := hie
      rw [run_equalIn_array w dd _ _ hu hie, List.range_eq_range']
      refine eqItems_ok dd _ _ _ _ (seg xs l hx) (seg ys r hy) (eqvT_ok n e dd hE (by omega)) k 0 b ?_ ?_ (by simpa using he)
      · rw [List.length_take, List.length_drop]; simp; omega
      · rw [List.length_take, List.length_drop]; simp; omega
    · cases h

theorem eqvT_guard : ∀ (n : Nat) (t : TypeId) (dd : Nat), eqvT P n t = true → n ≤ dd → P.eqGuardType dd t = false
  | 0, _, _, h, _ => by simp [eqvT] at h
  | n + 1, t, 0, _, hd => by omega
  | n + 1, t, dd + 1, h, hd => by
    unfold eqvT at h
    unfold Program.eqGuardType
    split at h
    · rename_i hu; rw [hu]
    · rename_i fs hu
      rw [hu]
      simp only [Bool.and_eq_true, Bool.not_eq_true', beq_iff_eq, List.all_eq_true, bne_iff_ne] at h
      simp only
      rw [Array.any_eq_false']
      intro f hf
      have := h.2 f (by simpa using hf)
      simp [eqvT_guard n f.type dd this.2 (by omega)]
    · rename_i k e hu
      rw [hu]
      simp only [Bool.and_eq_true, beq_iff_eq] at h
      exact eqvT_guard n e dd h.2 (by omega)
    · cases h

theorem depth_big (P : Program) : 6 ≤ P.depth := by unfold Program.depth Made.depth; omega

theorem ti_eqv {t : TypeId} (hk : (ti P t).eqv = true) : eqvT P 6 t = true ∧ (ti P t).size = sizeT P t := by
  unfold ti at hk ⊢
  split at hk
  · rename_i i dd hi hd; exact ⟨hk, by simp [sizeT, hi]⟩
  · cases hk

theorem aggEq_run {t : TypeId} {xs ys : Array Value} {l r : List AV} {b : Bool} (hk : (ti P t).eqv = true) (hg : (ti P t).agg = true) (hl : l.length = (ti P t).size) (hx : LRep m V w xs.toList l) (hy : LRep m V w ys.toList r)
    (he : eqCells l r = some b) : (Op.equal t (.agg xs) (.agg ys)).run P w = .ok b w := by
  obtain ⟨h6, hsz⟩ := ti_eqv hk
  have hlr := eqCells_length _ _ _ he
  have hsx : xs.size = sizeT P t := by have := hx.length; simp at this; omega
  have hsy : ys.size = sizeT P t := by have := hy.length; simp at this; omega
  obtain ⟨a, c, p1, p2, p3⟩ := eqvT_ok (m := m) (V := V) (w := w) 6 t 10000 h6 (by omega) xs ys l r 0 b hx hy
    (by rw [List.drop_zero, List.drop_zero, List.take_of_length_le (by omega), List.take_of_length_le (by omega)]; exact he) (by omega) (by omega)
  have hok : (ti P t).ok = true := by
    unfold ti at hk ⊢
    split at hk
    · rfl
    · cases hk
  obtain ⟨i, dd, hi, hu, hs1, _, hs3⟩ := ti_ok hok
  rw [hs3] at hg
  have pr : ∀ (zs : Array Value), zs.size = sizeT P t → (part t zs 0).run P w = .ok (.agg zs) w := by
    intro zs hz
    simp only [part, Sem.run_bind, run_isAgg' hu, Result.andThen_ok, hg]
    rw [sizeT_eq hi] at hz
    simp [run_sizeOf' hi, ← hz]
  rw [pr xs hsx] at p1; rw [pr ys hsy] at p2
  cases p1; cases p2
  exact p3

theorem kind_bool {t : TypeId} (hk : (ti P t).kind.isBool = true) : P.underlying t = some .bool := by
  unfold ti at hk
  split at hk
  · rename_i i d hi hd
    simp only at hk
    split at hk <;> (try split at hk) <;> simp [TK.isBool] at hk
    exact hd
  · simp [TK.isBool] at hk

theorem kind_ptr {t : TypeId} (hk : (ti P t).kind.isPtr = true) : ∃ e, P.underlying t = some (.pointer e) := by
  unfold ti at hk
  split at hk
  · rename_i i d hi hd
    simp only at hk
    split at hk <;> (try split at hk) <;> simp [TK.isPtr] at hk
    exact ⟨_, hd⟩
  · simp [TK.isPtr] at hk

theorem run_equalIn_ptr (d : Nat) {t e : TypeId} (p : Option Addr) (hu : P.underlying t = some (.pointer e)) : (Op.equalIn (d + 1) t (.pointer p) (.pointer none)).run P w = .ok p.isNone w := by
  cases p <;> simp [Op.equalIn, run_underlying hu]

theorem ptr_eql {op : BinOp} {t u : TypeId} {x y : Operand} (ho : o.op = .binOp op t x y u) (hk : (ti P t).kind.isPtr = true) {p : Option Addr} (hx : ρ x = .pointer p) (hy : ρ y = .pointer none) (hop : op = .eql ∨ op = .neq) :
    (execOp ρ o).run P w = .ok (.value (.bool (if op = .eql then p.isNone else !p.isNone))) w := by
  obtain ⟨e, hu⟩ := kind_ptr hk
  have h1 : (Op.equalIn 10000 t (.pointer p) (.pointer none)).run P w = .ok p.isNone w := run_equalIn_ptr 9999 p hu
  rcases hop with rfl | rfl
  · simp only [execOp, ho, hx, hy, eqGuard, binOp, Op.equal, Op.maxDepth, Sem.run_bind]
    simp [h1]
  · simp only [execOp, ho, hx, hy, eqGuard, binOp, Op.equal, Op.maxDepth, Sem.run_bind]
    simp [h1]

theorem binOp_sound (M : MRel G V0 L0 w0 U V m h w) {op : BinOp} {t u : TypeId} {x y : Operand} {tx ty : TV} (ho : o.op = .binOp op t x y u) (hx : TRep m V w (ρ x) tx) (hy : TRep m V w (ρ y) ty)
    (hd : (binV (ti P t) op tx ty).bind val = some d) : Does P G V0 L0 w0 U V m h w (execOp ρ o) g d := by
  simp only [Option.bind_eq_some_iff] at hd
  obtain ⟨tv, ht, hd⟩ := hd
  rw [val_eq hd]
  unfold binV at ht
  split at ht
  · rename_i k a k' b
    split at ht
    · cases ht
    · rename_i hn
      cases ht
      exact Does.pure M (by simp [execOp, ho, hx.int_eq, hy.int_eq, eqGuard, binOp, Op.shift, hn, shlV]) .int
  · rename_i k a k' b
    split at ht
    · cases ht
    · rename_i hn
      cases ht
      exact Does.pure M (by simp [execOp, ho, hx.int_eq, hy.int_eq, eqGuard, binOp, Op.shift, hn, shrV]) .int
  · rename_i k a k' b hn1 hn2
    split at ht
    · rename_i hkk
      subst hkk
      simp only [Option.map_eq_some_iff] at ht
      obtain ⟨pv, hpv, rfl⟩ := ht
      have hr : ∃ v, (do eqGuard op t x y (.int k a) (.int k b); binOp op t (.int k a) (.int k b) : Sem Value).run P w = .ok v w ∧ PRep V w v pv := by
        unfold intOp at hpv
        split at hpv
        case h_4 => split at hpv; cases hpv; rename_i hb; cases hpv; exact ⟨_, by simp [eqGuard, binOp, Op.intDiv, hb], .int _ _⟩
        case h_5 => split at hpv; cases hpv; rename_i hb; cases hpv; exact ⟨_, by simp [eqGuard, binOp, Op.intDiv, hb], .int _ _⟩
        all_goals first | (cases hpv; done) | (cases hpv; refine ⟨_, by simp [eqGuard, binOp, Op.intArith, Op.intCmp, intBits_and, intBits_or, intBits_xor, intBits_andNot]; try rfl, ?_⟩; first | exact .int _ _ | exact .bool _)
      obtain ⟨v, h1, h2⟩ := hr
      exact Does.pure M (v := v) (by simp only [execOp, ho, hx.int_eq, hy.int_eq]; rw [Sem.run_bind, h1]; rfl) (.c (.p h2))
    · cases ht
  · split at ht
    · rename_i hb
      cases ht
      have e : ∀ a b, _ := fun a b => run_equalIn_bool' (P := P) w 9999 t a b (kind_bool hb)
      exact Does.pure M (by simp only [execOp, ho, hx.bool_eq, hy.bool_eq, eqGuard, binOp, Op.equal, Op.maxDepth, Sem.run_bind]; simp [e]) .bool
    · cases ht
  · split at ht
    · rename_i hb
      cases ht
      have e : ∀ a b, _ := fun a b => run_equalIn_bool' (P := P) w 9999 t a b (kind_bool hb)
      exact Does.pure M (by simp only [execOp, ho, hx.bool_eq, hy.bool_eq, eqGuard, binOp, Op.equal, Op.maxDepth, Sem.run_bind]; simp [e]) .bool
    · cases ht
  · split at ht
    · rename_i hk
      cases ht
      generalize hv : ρ x = v at hx
      generalize hv' : ρ y = v' at hy
      cases hx with | c hx => cases hx with | p hx =>
      cases hx
      cases hy with | c hy => cases hy with | p hy =>
      cases hy
      exact Does.pure M (ptr_eql ho hk hv hv' (.inl rfl)) .bool
    · cases ht
  · split at ht
    · rename_i hk
      cases ht
      generalize hv : ρ x = v at hx
      generalize hv' : ρ y = v' at hy
      cases hx with | c hx => cases hx with | p hx =>
      cases hx
      cases hy with | c hy => cases hy with | p hy =>
      cases hy
      exact Does.pure M (ptr_eql ho hk hv hv' (.inr rfl)) .bool
    · cases ht
  · split at ht
    · rename_i hk
      cases ht
      generalize hv : ρ x = v at hx
      generalize hv' : ρ y = v' at hy
      cases hx with | c hx => cases hx with | ptr _ _ =>
      cases hy with | c hy => cases hy with | p hy =>
      cases hy
      exact Does.pure M (ptr_eql ho hk hv hv' (.inl rfl)) .bool
    · cases ht
  · split at ht
    · rename_i hk
      cases ht
      generalize hv : ρ x = v at hx
      generalize hv' : ρ y = v' at hy
      cases hx with | c hx => cases hx with | ptr _ _ =>
      cases hy with | c hy => cases hy with | p hy =>
      cases hy
      exact Does.pure M (ptr_eql ho hk hv hv' (.inr rfl)) .bool
    · cases ht
  · split at ht
    · rename_i hc
      simp only [Option.map_eq_some_iff] at ht
      obtain ⟨b, hb, rfl⟩ := ht
      generalize hv : ρ x = v at hx
      generalize hv' : ρ y = v' at hy
      cases hx with | @agg xs _ hlx =>
      cases hy with | @agg ys _ hly =>
      have he := aggEq_run hc.1 hc.2.1 hc.2.2 hlx hly hb
      have hgd := run_eqGuard_agg (P := P) w .eql t x y xs ys (eqvT_guard 6 t P.depth (ti_eqv hc.1).1 (depth_big P))
      exact Does.pure M (v := .bool b) (by simp [execOp, ho, hv, hv', hgd, run_eql_struct, Op.equal, Op.maxDepth] at he ⊢; simp [he]) .bool
    · cases ht
  · split at ht
    · rename_i hc
      simp only [Option.map_eq_some_iff] at ht
      obtain ⟨b, hb, rfl⟩ := ht
      generalize hv : ρ x = v at hx
      generalize hv' : ρ y = v' at hy
      cases hx with | @agg xs _ hlx =>
      cases hy with | @agg ys _ hly =>
      have he := aggEq_run hc.1 hc.2.1 hc.2.2 hlx hly hb
      have hgd := run_eqGuard_agg (P := P) w .neq t x y xs ys (eqvT_guard 6 t P.depth (ti_eqv hc.1).1 (depth_big P))
      exact Does.pure M (v := .bool (!b)) (by simp [execOp, ho, hv, hv', hgd, run_neq_struct, Op.equal, Op.maxDepth] at he ⊢; simp [he]) .bool
    · cases ht
  · cases ht

end
end Go.Sh
end
section
namespace Go.Sh

section
variable {P : Program} {G : Glob} {V0 : Nat → Prop} {L0 : List Nat} {w0 : World} {U V : Nat → Prop} {m : KM} {h : Key → Option Blk} {w : World} {ρ : Operand → Value} {o : Oper} {g : Nat} {d : Dl}

theorem indexAddr_sound (M : MRel G V0 L0 w0 U V m h w) {t : TypeId} {x y : Operand} {tx ty : TV} (ho : o.op = .indexAddr t x y) (hx : TRep m V w (ρ x) tx) (hy : TRep m V w (ρ y) ty)
    (hd : indexAddrV P (ti P t) h tx ty = some d) : Does P G V0 L0 w0 U V m h w (execOp ρ o) g d := by
  have arr : ∀ (n : Nat) (e : TypeId) (b o' : Nat) (i : Int), (ti P t).kind = .array n e → (ti P e).ok = true → asInt ty = some i → 0 ≤ i → i < n → ρ x = .pointer (some ⟨b, o', none⟩) →
      (execOp ρ o).run P w = .ok (.value (.pointer (some ⟨b, o' + i.toNat * (ti P e).size, none⟩))) w := by
    intro n e b o' i hk hok hi h0 h1 hv
    have hu := kind_array hk
    obtain ⟨k, hki⟩ := hy.asInt_eq hi
    obtain ⟨ii, dd, hi1, _, hi3, _⟩ := ti_ok hok
    simp [execOp, ho, Instr.indexAt, run_underlying hu, hv, hki, asIntOf, Instr.sureAddr, h0, h1, run_sizeOf' hi1, hi3, add_none]
  have sli : ∀ (e : TypeId) (b o' n cap : Nat) (i : Int), (ti P t).kind = .slice e → (ti P e).ok = true → asInt ty = some i → 0 ≤ i → i < n → ρ x = .slice (some ⟨b, o', none⟩) n cap →
      (execOp ρ o).run P w = .ok (.value (.pointer (some ⟨b, o' + i.toNat * (ti P e).size, none⟩))) w := by
    intro e b o' n cap i hk hok hi h0 h1 hv
    have hu := kind_slice hk
    obtain ⟨k, hki⟩ := hy.asInt_eq hi
    obtain ⟨ii, dd, hi1, _, hi3, _⟩ := ti_ok hok
    simp [execOp, ho, Instr.indexAt, run_underlying hu, hv, hki, asIntOf, Instr.sureAddr, h0, h1, run_sizeOf' hi1, hi3, add_none]
  unfold indexAddrV at hd
  split at hd
  · rename_i n e k r c i hk hi
    split at hd
    · rename_i hc
      rw [val_eq hd]
      generalize hv : ρ x = v at hx
      cases hx with | c hx => cases hx with
      | @ptr _ ki b _ _ hm hb =>
        refine Does.pure M (arr n e _ _ i hk hc.2.2 hi hc.1 hc.2.1 hv) ?_
        rw [Nat.add_assoc]
        exact .c (.ptr hm hb)
    · cases hd
  · rename_i n e cells c i hk hi
    split at hd
    · rename_i hc
      rw [val_eq hd]
      generalize hv : ρ x = v at hx
      cases hx with | c hx => cases hx with
      | @pb b o' _ _ ff h1 h2 h3 =>
        refine Does.pure M (arr n e _ _ i hk hc.2.2 hi hc.1 hc.2.1 hv) ?_
        rw [Nat.add_assoc]
        exact .c (.pb ff h1 h2 h3)
    · cases hd
  · rename_i e l i hk hi
    split at hd
    · rename_i hc
      simp only [Option.bind_eq_some_iff] at hd
      obtain ⟨row, hrow, hd⟩ := hd
      split at hd
      · rename_i hlen
        rw [val_eq hd]
        generalize hv : ρ x = v at hx
        cases hx with | c hx => cases hx with | p hx => cases hx with
        | nil a cap => simp at hrow
        | rows b o' _ cap W ff hV hcap hw hcell hrep =>
          have hW : W = (ti P e).size := by rw [← hlen]; exact (hw _ _ hrow).symm
          refine Does.pure M (sli e _ _ _ _ i hk hc.2.2 hi hc.1 hc.2.1 hv) ?_
          rw [← hW]
          have hlt : i.toNat < l.length := (List.getElem?_eq_some_iff.1 hrow).1
          refine .c (.pb (b := b) (o := o' + i.toNat * W) (c := 0) (fun j => ff i.toNat j) hV (fun j hj => ?_) fun j y hj => hrep _ j row y hrow hj)
          exact hcell _ _ hlt (by rw [← hw _ _ hrow]; exact hj)
      · cases hd
    · cases hd
  · rename_i e k r n i hk hi
    split at hd
    · rename_i mu w' l' hh
      split at hd
      · rename_i hc
        cases hd
        generalize hv : ρ x = v at hx
        cases hx with | c hx => cases hx with
        | @ref _ ki a _ _ hm hr ha =>
          obtain ⟨ki', hm', hrep⟩ := M.heap _ _ hh
          rw [hm] at hm'; cases hm'
          have hlt : r < ki.cap := by have := hc.1; have := hc.2.1; omega
          have ha' := ha hlt
          have hkw : ki.w = w' := by cases hrep <;> assumption
          cases hrb : ki.rb with
          | none =>
            cases hrep with
            | nil _ _ hc0 => omega
            | arr _ hb _ _ _ _ => rw [hb] at hrb; cases hrb
          | some b =>
            rw [hrb] at ha'
            simp only [Option.map_some] at ha'
            subst ha'
            refine Does.pure M (sli e _ _ _ _ i hk hc.2.2.1 hi hc.1 hc.2.1 hv) ?_
            have : ki.base + r * ki.w + i.toNat * (ti P e).size = ki.base + (r + i.toNat) * ki.w + 0 := by
              rw [hkw, ← hc.2.2.2, Nat.add_mul]; omega
            rw [this]
            exact .c (.ptr hm hrb)
      · cases hd
    · cases hd
  · rename_i e k c n w' i hk hi
    split at hd
    · rename_i mu l' hh
      split at hd
      · rename_i hc
        cases hd
        generalize hv : ρ x = v at hx
        cases hx with | c hx => cases hx with
        | @cref _ ki b a _ _ _ cap hm hb hn ha =>
          have ha' := ha (by have := hc.1; have := hc.2.1; omega)
          subst ha'
          refine Does.pure M (sli e _ _ _ _ i hk hc.2.2.2 hi hc.1 hc.2.1 hv) ?_
          have : ki.base + c + i.toNat * (ti P e).size = ki.base + 0 * ki.w + (c + i.toNat * w') := by
            rw [hc.2.2.1]; omega
          rw [this]
          exact .c (.ptr hm hb)
      · cases hd
    · cases hd
  · cases hd

theorem len_sound (M : MRel G V0 L0 w0 U V m h w) {t : TypeId} {x : Operand} {tx : TV} {ts : Array TypeId} (ho : o.op = .call { callee := .builtin .len, args := #[x], argTypes := ts }) (ht : ts[0]? = some t)
    (hx : TRep m V w (ρ x) tx) (hd : ((lenV (ti P t) tx).bind fun n => val (.c (.p (.int .i64 n)))) = some d) : Does P G V0 L0 w0 U V m h w (execOp ρ o) g d := by
  simp only [Option.bind_eq_some_iff] at hd
  obtain ⟨n, hn, hd⟩ := hd
  rw [val_eq hd]
  have sl : ∀ (e : TypeId) (a : Option Addr) (n cap : Nat), (ti P t).kind = .slice e → ρ x = .slice a n cap → (execOp ρ o).run P w = .ok (.value (.int .i64 n)) w := by
    intro e a n cap hk hv
    have hu := kind_slice hk
    simp [execOp, ho, resolve, invoke, builtin, Builtin.len_, ht, run_underlying hu, hv, goInt]
  unfold lenV at hn
  split at hn
  · rename_i e l hk
    cases hn
    generalize hv : ρ x = v at hx
    cases hx with | c hx => cases hx with | p hx => cases hx with
    | nil a cap => exact Does.pure M (sl e _ _ _ hk hv) .int
    | rows b o' _ cap W ff hV hcap hw hcell hrep => exact Does.pure M (sl e _ _ _ hk hv) .int
  · rename_i e hk
    cases hn
    generalize hv : ρ x = v at hx
    cases hx with | c hx => cases hx with
    | nilS => exact Does.pure M (sl e _ _ _ hk hv) .int
  · rename_i e k r n' hk
    cases hn
    generalize hv : ρ x = v at hx
    cases hx with | c hx => cases hx with
    | ref hm hr ha => exact Does.pure M (sl e _ _ _ hk hv) .int
  · rename_i e k c n' e' hk
    cases hn
    generalize hv : ρ x = v at hx
    cases hx with | c hx => cases hx with
    | cref hm hb hn ha => exact Does.pure M (sl e _ _ _ hk hv) .int
  · rename_i n' e l hk
    cases hn
    have hu := kind_array hk
    exact Does.pure M (by simp [execOp, ho, resolve, invoke, builtin, Builtin.len_, ht, run_underlying hu, goInt]) .int
  · cases hn

theorem max_sound (M : MRel G V0 L0 w0 U V m h w) {x y : Operand} {tx ty : TV} {ts : Array TypeId} (ho : o.op = .call { callee := .builtin .max, args := #[x, y], argTypes := ts })
    (hx : TRep m V w (ρ x) tx) (hy : TRep m V w (ρ y) ty) (hd : (max2V tx ty).bind val = some d) : Does P G V0 L0 w0 U V m h w (execOp ρ o) g d := by
  simp only [Option.bind_eq_some_iff] at hd
  obtain ⟨t, ht, hd⟩ := hd
  rw [val_eq hd]
  unfold max2V at ht
  split at ht
  · cases ht
    exact Does.pure M (by simp [execOp, ho, resolve, invoke, builtin, Builtin.max_, Builtin.max2, hx.int_eq, hy.int_eq]) .int
  · cases ht

theorem min_sound (M : MRel G V0 L0 w0 U V m h w) {x y : Operand} {tx ty : TV} {ts : Array TypeId} (ho : o.op = .call { callee := .builtin .min, args := #[x, y], argTypes := ts })
    (hx : TRep m V w (ρ x) tx) (hy : TRep m V w (ρ y) ty) (hd : (min2V tx ty).bind val = some d) : Does P G V0 L0 w0 U V m h w (execOp ρ o) g d := by
  simp only [Option.bind_eq_some_iff] at hd
  obtain ⟨t, ht, hd⟩ := hd
  rw [val_eq hd]
  unfold min2V at ht
  split at ht
  · cases ht
    exact Does.pure M (by simp [execOp, ho, resolve, invoke, builtin, Builtin.min_, Builtin.min2, hx.int_eq, hy.int_eq]) .int
  · cases ht

theorem keysOf_spec : ∀ (ts : List TV) (ks : List Key), keysOf ts = some ks → ts = ks.map fun k => .c (.ptr k 0 0)
  | [], ks, h => by simp [keysOf] at h; subst h; rfl
  | t :: ts, ks, h => by
    simp only [keysOf, Option.bind_eq_some_iff, Option.map_eq_some_iff] at h
    obtain ⟨k, hk, ks', hks, rfl⟩ := h
    have : t = .c (.ptr k 0 0) := by
      unfold keyOf1 at hk
      split at hk <;> simp at hk
      rw [hk]
    rw [this]
    simp [keysOf_spec ts ks' hks]

theorem makeFunc_sound (M : MRel G V0 L0 w0 U V m h w) {f : Nat} {first caps : Array Operand} {tts : List TV} (ho : o.op = .makeFunc (.func f) first caps) (hc : first.toList.length = 0)
    (ht : ∀ (i : Nat) x t, caps.toList[i]? = some x → tts[i]? = some t → TRep m V w (ρ x) t) (hl : tts.length = caps.toList.length)
    (hd : ((keysOf tts).bind fun ks => val (.c (.fn f ks))) = some d) :
    Does P G V0 L0 w0 U V m h w (execOp ρ o) g d := by
  simp only [Option.bind_eq_some_iff] at hd
  obtain ⟨ks, hks, hd⟩ := hd
  rw [val_eq hd]
  have hspec := keysOf_spec _ _ hks
  have hf : first = #[] := by simpa using hc
  refine Does.pure M (v := .func (.func f) #[] (caps.map ρ)) (by simp [execOp, ho, Instr.makeFunc, hf]) (.c (.fn ?_ ?_))
  · rw [hspec] at hl; simp at hl ⊢; omega
  · intro i k hi
    have hti : tts[i]? = some (.c (.ptr k 0 0)) := by rw [hspec]; simp [hi]
    have hlt : i < caps.toList.length := by rw [← hl]; exact (List.getElem?_eq_some_iff.1 hti).1
    have hci : caps.toList[i]? = some (caps.toList[i]) := by simp [hlt]
    have hr := ht i _ _ hci hti
    have hcv : (caps.map ρ)[i]? = some (ρ caps.toList[i]) := by
      have : caps[i]? = some caps.toList[i] := by simpa using hci
      rw [Array.getElem?_map, this]; rfl
    generalize ρ caps.toList[i] = v at hr hcv
    cases hr with | c hr => cases hr with
    | @ptr _ x' b' _ _ hm hb => exact ⟨x', b', hm, hb, hcv⟩

end
end Go.Sh
end
section
namespace Go.Sh

section
variable {P : Program} {G : Glob} {V0 : Nat → Prop} {L0 : List Nat} {w0 : World} {U V : Nat → Prop} {m : KM} {h : Key → Option Blk} {w : World} {ρ : Operand → Value} {o : Oper} {g : Nat} {d : Dl}

/-- A bound of a slice expression that may be left out. -/
def BoundIs (x : Option Value) (d n : Nat) : Prop := x = none ∧ n = d ∨ ∃ k, x = some (.int k n)

theorem bounds_run (isS : Bool) (len cap : Nat) {lo hi : Option Value} {a b : Nat} (hlo : BoundIs lo 0 a) (hhi : BoundIs hi len b) (hab : a ≤ b) (hbc : b ≤ cap) :
    (Instr.sliceBounds isS len cap lo hi none).run P w = .ok (a, b, cap) w := by
  have h1 : (0 : Int) ≤ (b : Int) ∧ (b : Int) ≤ (cap : Int) := ⟨by omega, by omega⟩
  have h2 : (0 : Int) ≤ (a : Int) ∧ (a : Int) ≤ (b : Int) := ⟨by omega, by omega⟩
  rcases hlo with ⟨rfl, rfl⟩ | ⟨k, rfl⟩ <;> rcases hhi with ⟨rfl, rfl⟩ | ⟨k', rfl⟩ <;>
    simp [Instr.sliceBounds, Instr.sliceBound, asIntOf, hab, hbc]

theorem bound_of {x : Option Operand} {tx : Option TV} {dn : Nat} {n : Int} (hr : ∀ t, tx = some t → ∃ y, x = some y ∧ TRep m V w (ρ y) t) (hn : tx = none → x = none) (ho : optI tx dn = some n) (h0 : 0 ≤ n) :
    BoundIs (x.map ρ) dn n.toNat := by
  cases tx with
  | none => simp [optI] at ho; subst ho; exact .inl ⟨by rw [hn rfl]; rfl, by omega⟩
  | some t =>
    simp only [optI] at ho
    obtain ⟨y, rfl, hy⟩ := hr t rfl
    obtain ⟨k, hk⟩ := hy.asInt_eq ho
    refine .inr ⟨k, ?_⟩
    simp [hk]; omega

theorem allW_get {W : Nat} {l : List (List PV)} (ha : allW W l = true) {i : Nat} {row : List PV} (hi : l[i]? = some row) : row.length = W := by
  unfold allW at ha
  rw [List.all_eq_true] at ha
  simpa using ha row (List.mem_of_getElem? hi)

theorem slice_sound (M : MRel G V0 L0 w0 U V m h w) {t : TypeId} {x : Operand} {lo hi : Option Operand} {tx : TV} {tlo thi : Option TV} (ho : o.op = .slice t x lo hi none) (hx : TRep m V w (ρ x) tx)
    (hlo : ∀ u, tlo = some u → ∃ y, lo = some y ∧ TRep m V w (ρ y) u) (hlon : tlo = none → lo = none) (hhi : ∀ u, thi = some u → ∃ y, hi = some y ∧ TRep m V w (ρ y) u) (hhin : thi = none → hi = none)
    (hd : sliceV P (ti P t) h tx tlo thi = some d) : Does P G V0 L0 w0 U V m h w (execOp ρ o) g d := by
  have sl : ∀ (e : TypeId) (a : Option Addr) (n cap : Nat) (p q : Int), (ti P t).kind = .slice e → (ti P e).ok = true → optI tlo (0 : Nat) = some p → optI thi n = some q → 0 ≤ p → p ≤ q → q ≤ cap → ρ x = .slice a n cap →
      (execOp ρ o).run P w = .ok (.value (.slice (if cap = p.toNat then a else a.map (·.add (p.toNat * (ti P e).size))) (q.toNat - p.toNat) (cap - p.toNat))) w := by
    intro e a n cap p q hk hok hp hq h0 h1 h2 hv
    have hu := kind_slice hk
    obtain ⟨ii, dd, hi1, _, hi3, _⟩ := ti_ok hok
    have hb := bounds_run (P := P) (w := w) true n cap (bound_of hlo hlon hp h0) (bound_of hhi hhin hq (by omega)) (by omega) (by omega)
    simp [execOp, ho, Instr.sliceAt, Instr.slice, run_underlying hu, hv, hb, run_sizeOf' hi1, hi3]
  unfold sliceV at hd
  split at hd
  · -- rows that stay
    rename_i e l hk
    simp only [Option.bind_eq_some_iff] at hd
    obtain ⟨p, hp, q, hq, hd⟩ := hd
    split at hd
    · rename_i hc
      obtain ⟨c1, c2, c3, c4, c5⟩ := hc
      rw [val_eq hd]
      generalize hv : ρ x = v at hx
      cases hx with | c hx => cases hx with | p hx => cases hx with
      | nil a cap =>
        have hq0 : q = 0 := by simp at c3; omega
        have hp0 : p = 0 := by omega
        refine Does.pure M (sl e _ _ _ p q hk c4 hp hq c1 c2 (by omega) hv) ?_
        subst hp0; subst hq0
        simp only [List.take_nil, List.drop_nil]
        exact .c (.p (.nil _ _))
      | rows b o' _ cap W ff hV hcap hw hcell hrep =>
        refine Does.pure M (sl e _ _ _ p q hk c4 hp hq c1 c2 (by omega) hv) ?_
        by_cases hz : q.toNat - p.toNat = 0
        · have : (l.take q.toNat).drop p.toNat = [] := by
            rw [List.drop_eq_nil_iff, List.length_take]; omega
          rw [hz, this]
          exact .c (.p (.nil _ _))
        · have hne : ¬ cap = p.toNat := by omega
          rw [if_neg hne]
          simp only [Option.map_some, add_none]
          have hlen : ((l.take q.toNat).drop p.toNat).length = q.toNat - p.toNat := by
            rw [List.length_drop, List.length_take]; omega
          rw [← hlen]
          have hl0 : l[0]? = some l[0] := by simp
          have hW : W = (ti P e).size := by rw [← hw _ _ hl0]; exact allW_get c5 hl0
          have hget : ∀ i row, ((l.take q.toNat).drop p.toNat)[i]? = some row → l[p.toNat + i]? = some row := by
            intro i row hi
            rw [List.getElem?_drop, List.getElem?_take] at hi
            split at hi
            · exact hi
            · cases hi
          refine .c (.p (.rows b (o' + p.toNat * (ti P e).size) _ _ W (fun i j => ff (p.toNat + i) j) hV (by rw [hlen]; omega) (fun i row hi => hw _ _ (hget i row hi)) (fun i j hi hj => ?_) fun i j row c hi hj => hrep _ _ _ _ (hget i row hi) hj))
          have := hcell (p.toNat + i) j (by rw [hlen] at hi; omega) hj
          rw [← hW, show o' + p.toNat * W + i * W + j = o' + (p.toNat + i) * W + j by rw [Nat.add_mul]; omega]
          exact this
    · cases hd
  · -- nil
    rename_i e hk
    simp only [Option.bind_eq_some_iff] at hd
    obtain ⟨p, hp, q, hq, hd⟩ := hd
    split at hd
    · rename_i hc
      obtain ⟨rfl, rfl, c3⟩ := hc
      rw [val_eq hd]
      generalize hv : ρ x = v at hx
      cases hx with | c hx => cases hx with
      | nilS =>
        refine Does.pure M (sl e _ _ _ 0 0 hk c3 hp hq (by omega) (by omega) (by omega) hv) ?_
        exact .c .nilS
    · cases hd
  · -- a block of one's own
    rename_i e k r n hk
    split at hd
    · rename_i mu w' l hh
      simp only [Option.bind_eq_some_iff] at hd
      obtain ⟨p, hp, q, hq, hd⟩ := hd
      split at hd
      · rename_i hc
        obtain ⟨c1, c2, c3, c4, c5⟩ := hc
        cases hd
        generalize hv : ρ x = v at hx
        cases hx with | c hx => cases hx with
        | @ref _ ki a _ _ hm hr ha =>
          obtain ⟨ki', hm', hrep⟩ := M.heap _ _ hh
          rw [hm] at hm'; cases hm'
          have hkw : ki.w = w' := by cases hrep <;> assumption
          have hcapl : l.length ≤ ki.cap := by cases hrep with
            | nil _ _ _ => simp
            | arr _ _ _ _ hc _ => exact hc
          refine Does.pure M (sl e _ _ _ p q hk c4 hp hq c1 c2 (by omega) hv) ?_
          have e1 : ki.cap - r - p.toNat = ki.cap - (r + p.toNat) := by omega
          have e2 : q.toNat - p.toNat = (q - p).toNat := by omega
          rw [e1, e2]
          refine .c (.ref hm (by omega) fun hlt => ?_)
          rw [if_neg (by omega), ha (by omega)]
          cases ki.rb with
          | none => rfl
          | some b =>
            simp only [Option.map_some, add_none, Option.some.injEq, Addr.mk.injEq, and_true, true_and]
            rw [hkw, ← c5, Nat.add_mul]; omega
      · cases hd
    · cases hd
  · -- an array
    rename_i n e k c hk
    simp only [Option.bind_eq_some_iff] at hd
    obtain ⟨p, hp, q, hq, hd⟩ := hd
    split at hd
    · rename_i hc
      obtain ⟨c1, c2, c3, c4⟩ := hc
      rw [val_eq hd]
      have hu := kind_array hk
      obtain ⟨ii, dd, hi1, _, hi3, _⟩ := ti_ok c4
      generalize hv : ρ x = v at hx
      cases hx with | c hx => cases hx with
      | @ptr _ ki b _ _ hm hb =>
        have hbr := bounds_run (P := P) (w := w) false n n (bound_of hlo hlon hp c1) (bound_of hhi hhin hq (by omega)) (by omega) (by omega)
        refine Does.pure M (by simp [execOp, ho, Instr.sliceAt, run_underlying hu, hv, Instr.sureAddr, hbr, run_sizeOf' hi1]; rfl) ?_
        have e2 : q.toNat - p.toNat = (q - p).toNat := by omega
        rw [e2]
        refine .c (.cref hm hb (by omega) fun h0 => ?_)
        rw [if_neg (by omega), add_none, hi3]
        congr 2; omega
    · cases hd
  · cases hd

theorem bounds3_run (len cap : Nat) {lo : Option Value} {kb kc : IntKind} {a b c : Nat} (hlo : BoundIs lo 0 a) (hab : a ≤ b) (hbc : b ≤ c) (hcc : c ≤ cap) :
    (Instr.sliceBounds true len cap lo (some (.int kb b)) (some (.int kc c))).run P w = .ok (a, b, c) w := by
  have h1 : (0 : Int) ≤ (b : Int) ∧ (b : Int) ≤ (c : Int) := ⟨by omega, by omega⟩
  have h2 : (0 : Int) ≤ (a : Int) ∧ (a : Int) ≤ (b : Int) := ⟨by omega, by omega⟩
  have h3 : (0 : Int) ≤ (c : Int) ∧ (c : Int) ≤ (cap : Int) := ⟨by omega, by omega⟩
  rcases hlo with ⟨rfl, rfl⟩ | ⟨k, rfl⟩ <;>
    simp [Instr.sliceBounds, Instr.sliceBound, asIntOf, hab, hbc, hcc]

theorem slice3_sound (M : MRel G V0 L0 w0 U V m h w) {t : TypeId} {x hi mx : Operand} {lo : Option Operand} {tx thi tmx : TV} {tlo : Option TV} (ho : o.op = .slice t x lo (some hi) (some mx)) (hx : TRep m V w (ρ x) tx)
    (hlo : ∀ u, tlo = some u → ∃ y, lo = some y ∧ TRep m V w (ρ y) u) (hlon : tlo = none → lo = none) (hhi : TRep m V w (ρ hi) thi) (hmx : TRep m V w (ρ mx) tmx)
    (hd : slice3V P (ti P t) h tx tlo thi tmx = some d) : Does P G V0 L0 w0 U V m h w (execOp ρ o) g d := by
  unfold slice3V at hd
  split at hd
  · rename_i e k r n hk
    split at hd
    · rename_i mu w' l hh
      simp only [Option.bind_eq_some_iff] at hd
      obtain ⟨p, hp, q, hq, z, hz, hd⟩ := hd
      split at hd
      · rename_i hc
        obtain ⟨c1, c2, c3, c6, c4, c5⟩ := hc
        cases hd
        have hu := kind_slice hk
        obtain ⟨ii, dd, hi1, _, hi3, _⟩ := ti_ok c5
        obtain ⟨kb, hqv⟩ := hhi.asInt_eq hq
        obtain ⟨kc, hzv⟩ := hmx.asInt_eq hz
        obtain ⟨q', rfl⟩ := Int.eq_ofNat_of_zero_le (show 0 ≤ q by omega)
        obtain ⟨z', rfl⟩ := Int.eq_ofNat_of_zero_le (show 0 ≤ z by omega)
        generalize hv : ρ x = v at hx
        cases hx with | c hx => cases hx with
        | @ref _ ki a _ _ hm hr ha =>
          obtain ⟨ki', hm', hrep⟩ := M.heap _ _ hh
          rw [hm] at hm'; cases hm'
          have hcapl : l.length ≤ ki.cap := by cases hrep with
            | nil _ _ _ => simp
            | arr _ _ _ _ hc _ => exact hc
          have hb := bounds3_run (P := P) (w := w) (kb := kb) (kc := kc) n (ki.cap - r) (bound_of hlo hlon hp c1) (b := q') (c := z') (by omega) (by omega) (by omega)
          exact Does.pure M (v := .slice (if z' = p.toNat then a else a.map (·.add (p.toNat * ii.size))) (q' - p.toNat) (z' - p.toNat))
            (by simp [execOp, ho, Instr.sliceAt, Instr.slice, run_underlying hu, hv, hqv, hzv, hb, run_sizeOf' hi1]) (.c (.p (.any _ rfl)))
      · cases hd
    · cases hd
  · cases hd


theorem fold_set (off : Nat) : ∀ (xs : List Value) (k : Nat) (cs : Array Value), off + k + xs.length ≤ cs.size →
    ((xs.zipIdx k).foldl (fun (cs : Array Value) (p : Value × Nat) => cs.setIfInBounds (off + p.2) p.1) cs).toList = cs.toList.take (off + k) ++ xs ++ cs.toList.drop (off + k + xs.length)
  | [], k, cs, _ => by simp
  | v :: xs, k, cs, hl => by
    rw [List.zipIdx_cons, List.foldl_cons]
    have ih := fold_set off xs (k + 1) (cs.setIfInBounds (off + k) v) (by simp at hl ⊢; omega)
    rw [ih]
    have e := list_seg_step cs.toList (off + k) v xs (by simp at hl ⊢; omega)
    simpa [Array.toList_setIfInBounds, Nat.add_assoc] using e

theorem fill_ok {place : Nat → Option (Nat × Nat)} : ∀ (ps : List (Nat × Value)) (tps : List (Nat × TV)) (cells : Array Value) (l l' : List AV), ps.length = tps.length →
    (∀ (i : Nat) p tp, ps[i]? = some p → tps[i]? = some tp → p.1 = tp.1 ∧ TRep m V w p.2 tp.2) → LRep m V w cells.toList l → buildL place l tps = some l' →
    ∃ cells', Instr.fill place cells ps = some cells' ∧ LRep m V w cells'.toList l'
  | [], [], cells, l, l', _, _, hl, hb => by simp [buildL] at hb; subst hb; exact ⟨cells, rfl, hl⟩
  | [], _ :: _, _, _, _, hlen, _, _, _ => by simp at hlen
  | _ :: _, [], _, _, _, hlen, _, _, _ => by simp at hlen
  | (i, v) :: ps, (j, t) :: tps, cells, l, l', hlen, hr, hl, hb => by
    obtain ⟨hij, hv⟩ := hr 0 _ _ rfl rfl
    simp only at hij hv
    subst hij
    unfold buildL at hb
    split at hb
    · rename_i off n cs hp hc
      split at hb
      · rename_i hcond
        have hcs := hv.cells hc
        have hsz : v.cells.size = n := by have := hcs.length; simp at this; omega
        have hcl := hl.length
        simp only [Array.length_toList] at hcl
        have key : (v.cells.zipIdx.foldl (fun (cs : Array Value) (c, j) => cs.setIfInBounds (off + j) c) cells).toList = cells.toList.take off ++ v.cells.toList ++ cells.toList.drop (off + v.cells.toList.length) := by
          have := fold_set off v.cells.toList 0 cells (by simp; omega)
          simp only [Nat.add_zero] at this
          rw [← this, ← Array.foldl_toList, Array.toList_zipIdx]
        have hnew : LRep m V w (v.cells.zipIdx.foldl (fun (cs : Array Value) (c, j) => cs.setIfInBounds (off + j) c) cells).toList (setAt l off cs) := by
          rw [key]
          exact hl.setAt hcs off
        obtain ⟨cells', h1, h2⟩ := fill_ok ps tps _ _ _ (by simpa using hlen) (fun i p tp a b => hr (i + 1) p tp (by simpa using a) (by simpa using b)) hnew hb
        refine ⟨cells', ?_, h2⟩
        unfold Instr.fill
        simp only [hp]
        rw [if_neg (by simp; omega)]
        exact h1
      · cases hb
    · cases hb

theorem ti_zero {t : TypeId} (hok : (ti P t).ok = true) (hz : (ti P t).zero.length = (ti P t).size) : ∃ i z, P.info? t = some i ∧ i.zero = some z ∧ zcells z.cells.toList = some (ti P t).zero := by
  obtain ⟨i, d, hi, hd, h1, _⟩ := ti_ok hok
  have hzero : (ti P t).zero = (match i.zero.bind fun v => zcells v.cells.toList with | some l => l | none => List.replicate (i.size + 1) .nilS) := by
    simp only [ti, hi, hd] <;> rfl
  rw [h1] at hz
  cases hzz : i.zero with
  | none => rw [hzero, hzz] at hz; simp at hz
  | some z =>
    cases hc : zcells z.cells.toList with
    | none => rw [hzero, hzz] at hz; simp [hc] at hz
    | some l => exact ⟨i, z, hi, hzz, by rw [hzero, hzz]; simp [hc]⟩

theorem places_some : ∀ (fs : List Field), (∀ f ∈ fs, (P.info? f.type).isSome = true) →
    fs.mapM (fun f => (P.info? f.type).map fun i => (f.offset, i.size)) = some (fs.map fun f => (f.offset, sizeT P f.type))
  | [], _ => by simp
  | f :: fs, h => by
    have ih := places_some fs fun g hg => h g (by simp [hg])
    have hf := h f (by simp)
    cases hi : P.info? f.type with
    | none => rw [hi] at hf; cases hf
    | some i => simp [hi, ih, sizeT_eq hi]

theorem run_zero {t : TypeId} {i : TypeInfo} {z : Value} (hi : P.info? t = some i) (hz : i.zero = some z) (w : World) : (zeroValue t).run P w = .ok z w := by
  simp [zeroValue, typeInfo, hi, hz]

theorem build_sound (M : MRel G V0 L0 w0 U V m h w) {t : TypeId} {ps : Array (Nat × Operand)} {tps : List (Nat × TV)} (ho : o.op = .build t ps) (hl : tps.length = ps.toList.length)
    (hr : ∀ (i : Nat) p tp, ps.toList[i]? = some p → tps[i]? = some tp → p.1 = tp.1 ∧ TRep m V w (ρ p.2) tp.2) (hd : buildV P (ti P t) tps = some d) :
    Does P G V0 L0 w0 U V m h w (execOp ρ o) g d := by
  have hr' : ∀ (i : Nat) p tp, (ps.toList.map fun p => (p.1, ρ p.2))[i]? = some p → tps[i]? = some tp → p.1 = tp.1 ∧ TRep m V w p.2 tp.2 := by
    intro i p tp h1 h2
    simp only [List.getElem?_map, Option.map_eq_some_iff] at h1
    obtain ⟨q, hq, rfl⟩ := h1
    exact hr i q tp hq h2
  unfold buildV at hd
  split at hd
  · rename_i hz
    split at hd
    · rename_i fs hk
      simp only [Option.bind_eq_some_iff] at hd
      obtain ⟨l, hb, hd⟩ := hd
      rw [val_eq hd]
      obtain ⟨i, z, hi, hzz, hzc⟩ := ti_zero (ti_kind (by rw [hk]; simp)) hz
      obtain ⟨fs', hu, rfl, hall⟩ := kind_struct' hk
      obtain ⟨cells', h1, h2⟩ := fill_ok (m := m) (V := V) (w := w) _ tps z.cells _ _ (by simp [hl]) hr' (zcells_rep _ _ hzc) hb
      refine Does.pure M (v := .agg cells') ?_ (.agg h2)
      have hp := Go.run_places (P := P) w fs'.toList _ (places_some fs'.toList hall)
      have h1' : Instr.fill (fun x => Option.map (fun f => (f.offset, sizeT P f.type)) fs'[x]?) z.cells (List.map (fun x => (x.fst, ρ x.snd)) ps.toList) = some cells' := by
        rw [← h1]
        congr 1
        funext i
        simp
        rfl
      simp [execOp, ho, Instr.build, run_zero hi hzz, run_underlying hu, Array.mapM_eq_mapM_toList, hp, h1']
    · rename_i n e hk
      split at hd
      · rename_i hok
        simp only [Option.bind_eq_some_iff] at hd
        obtain ⟨l, hb, hd⟩ := hd
        rw [val_eq hd]
        obtain ⟨i, z, hi, hzz, hzc⟩ := ti_zero (ti_kind (by rw [hk]; simp)) hz
        have hu := kind_array hk
        obtain ⟨ii, dd, hi1, _, hi3, _⟩ := ti_ok hok
        obtain ⟨cells', h1, h2⟩ := fill_ok (m := m) (V := V) (w := w) _ tps z.cells _ _ (by simp [hl]) hr' (zcells_rep _ _ hzc) hb
        refine Does.pure M (v := .agg cells') ?_ (.agg h2)
        rw [hi3] at h1
        simp [execOp, ho, Instr.build, run_zero hi hzz, run_underlying hu, run_sizeOf' hi1, h1]
      · cases hd
    · cases hd
  · cases hd

end
end Go.Sh
end
section
namespace Go.Sh

section
variable {P : Program} {G : Glob} {V0 : Nat → Prop} {L0 : List Nat} {w0 : World} {U V : Nat → Prop} {m : KM} {h : Key → Option Blk} {w : World} {ρ : Operand → Value} {o : Oper} {s g : Nat} {d : Dl}

/-- A new variable with these cells. -/
theorem newBox (M : MRel G V0 L0 w0 U V m h w) (hu : ¬ U g) {sem : Sem Next} {cs : Array Value} {t : TypeId} {l : List AV} (hl : LRep m V w cs.toList l)
    (hr : sem.run P w = .ok (.value (.pointer (some ⟨w.heap.size, 0, none⟩))) (w.alloc (.cells cs t))) :
    Does P G V0 L0 w0 U V m h w sem g ⟨.c (.ptr ⟨s, g⟩ 0 0), [(⟨s, g⟩, some (.box true l))], []⟩ := by
  let i : KI := ⟨some w.heap.size, 0, 0, 0⟩
  have hkp : Kept V w (w.alloc (.cells cs t)) := kept_alloc (fun b hb => (M.vsz b hb).1) _
  have hmk : m ⟨s, g⟩ = none := by
    cases e : m ⟨s, g⟩ with
    | none => rfl
    | some i => exact absurd (M.gen _ i e) hu
  have hx := ext_add (i := i) hmk
  obtain ⟨M', _, _⟩ := M.alloc (k := ⟨s, g⟩) (i := i) (blk := .box true l) hu cs t rfl (.box rfl rfl (alloc_new w _) (hl.mono hx (fun _ h => h) hkp)) rfl
  refine ⟨_, _, _, V, _, hr, .inl rfl, ?_, by simpa [putH] using M', hx, fun _ h => h, hkp⟩
  exact .c (.ptr (i := i) (r := 0) (c := 0) (by simp [addK]) rfl)

theorem alloc_sound (M : MRel G V0 L0 w0 U V m h w) (hu : ¬ U g) {t : TypeId} (ho : o.op = .alloc t) (hd : allocV (ti P t) s g = some d) : Does P G V0 L0 w0 U V m h w (execOp ρ o) g d := by
  unfold allocV at hd
  simp only at hd
  split at hd
  · rename_i hz
    cases hd
    obtain ⟨i, z, hi, hzz, hzc⟩ := ti_zero hz.1 hz.2
    refine newBox M hu (cs := z.cells) (t := t) (zcells_rep _ _ hzc) ?_
    simp [execOp, ho, Instr.alloc, run_zero hi hzz, newVar, newRow, newObj]
    rfl
  · cases hd

theorem box_sound (M : MRel G V0 L0 w0 U V m h w) (hu : ¬ U g) {t : TypeId} {x : Operand} {tx : TV} (ho : o.op = .box t x) (hx : TRep m V w (ρ x) tx) (hd : boxV (ti P t) s g tx = some d) :
    Does P G V0 L0 w0 U V m h w (execOp ρ o) g d := by
  unfold boxV at hd
  simp only at hd
  split at hd
  · rename_i cs hc
    split at hd
    · cases hd
      refine newBox M hu (cs := (ρ x).cells) (t := t) (hx.cells hc) ?_
      simp [execOp, ho, Instr.box, newVar, newRow, newObj]
      rfl
    · cases hd
  · cases hd

theorem setAt_get {α : Type} (l xs : List α) (c j : Nat) (h : c + xs.length ≤ l.length) :
    (setAt l c xs)[j]? = if j < c then l[j]? else if j < c + xs.length then xs[j - c]? else l[j]? := by
  unfold setAt
  rw [List.getElem?_append, List.length_take, Nat.min_eq_left (by omega)]
  by_cases h1 : j < c
  · rw [if_pos h1, if_pos h1, List.getElem?_take, if_pos h1]
  · rw [if_neg h1, if_neg h1, List.getElem?_append]
    by_cases h2 : j < c + xs.length
    · rw [if_pos (by omega), if_pos h2]
    · rw [if_neg (by omega), if_neg h2, List.getElem?_drop]
      congr 1; omega

theorem mem_setAt {α : Type} {l xs : List α} {c : Nat} {x : α} (h : x ∈ setAt l c xs) : x ∈ l ∨ x ∈ xs := by
  unfold setAt at h
  rcases List.mem_append.1 h with h | h
  · exact .inl (List.mem_of_mem_take h)
  · rcases List.mem_append.1 h with h | h
    · exact .inr h
    · exact .inl (List.mem_of_mem_drop h)

/-- Room stays room. -/
theorem Room.setAt {arr : Array Value} {base cap W : Nat} (hs : Room arr base cap W) {xs : List Value} {c : Nat} (hle : c + xs.length ≤ arr.size) (h1 : ∀ v ∈ xs, v.oneCell' = true) :
    Room (setAt arr.toList c xs).toArray base cap W := by
  refine ⟨?_, hs.pos, fun v hv => ?_⟩
  · have : (Go.Sh.setAt arr.toList c xs).length = arr.toList.length := by unfold Go.Sh.setAt; simp; omega
    simp only [List.size_toArray, this, Array.length_toList]; exact hs.le
  · rcases mem_setAt (l := arr.toList) (by simpa using hv) with h | h
    · exact hs.one v h
    · exact h1 v h

theorem setAt_length {α : Type} (l xs : List α) (c : Nat) (h : c + xs.length ≤ l.length) : (setAt l c xs).length = l.length := by
  unfold setAt; simp; omega

/-- One row of a block is turned. -/
theorem RowsRep.setRow {arr : Array Value} {base W cap r c : Nat} {l : List (List PV)} {row ps : List PV} {vs : List Value} {w' : World} (hk : Kept V w w') (hr : RowsRep V w arr base W l) (hrow : l[r]? = some row)
    (hp : PsRep V w vs ps) (hle : c + ps.length ≤ row.length) (hs : base + cap * W ≤ arr.size) (hcap : l.length ≤ cap) :
    RowsRep V w' (setAt arr.toList (base + r * W + c) vs).toArray base W (l.set r (setAt row c ps)) := by
  have hvl := hp.length
  obtain ⟨hrw, hcr⟩ := hr r row hrow
  have hrl : r < l.length := (List.getElem?_eq_some_iff.1 hrow).1
  have hbound : r * W + W ≤ cap * W := by
    have : (r + 1) * W ≤ cap * W := Nat.mul_le_mul_right _ (by omega)
    rwa [Nat.add_mul, Nat.one_mul] at this
  have hget := fun j => setAt_get arr.toList vs (base + r * W + c) j (by simp; omega)
  intro i row' hi
  rw [List.getElem?_set] at hi
  split at hi
  · rename_i hri
    subst hri
    simp only [hrl, if_true, Option.some.injEq] at hi
    subst hi
    refine ⟨by rw [setAt_length _ _ _ hle]; exact hrw, fun j x hj => ?_⟩
    rw [setAt_get _ _ _ _ hle] at hj
    rw [List.getElem?_toArray, hget]
    by_cases h1 : j < c
    · rw [if_pos h1] at hj
      obtain ⟨v, a, b⟩ := hcr j x hj
      exact ⟨v, by rw [if_pos (by omega)]; simpa using a, b.mono (fun _ h => h) hk⟩
    · rw [if_neg h1] at hj
      by_cases h2 : j < c + ps.length
      · rw [if_pos h2] at hj
        obtain ⟨v, a, b⟩ := hp.get _ _ hj
        refine ⟨v, ?_, b.mono (fun _ h => h) hk⟩
        rw [if_neg (by omega), if_pos (by omega), show base + r * W + j - (base + r * W + c) = j - c by omega]
        exact a
      · rw [if_neg h2] at hj
        obtain ⟨v, a, b⟩ := hcr j x hj
        exact ⟨v, by rw [if_neg (by omega), if_neg (by omega)]; simpa using a, b.mono (fun _ h => h) hk⟩
  · rename_i hne
    obtain ⟨hw', hc'⟩ := hr i row' hi
    refine ⟨hw', fun j x hj => ?_⟩
    obtain ⟨v, a, b⟩ := hc' j x hj
    have hjW : j < W := by rw [← hw']; exact (List.getElem?_eq_some_iff.1 hj).1
    refine ⟨v, ?_, b.mono (fun _ h => h) hk⟩
    rw [List.getElem?_toArray, hget]
    rcases Nat.lt_or_ge i r with hlt | hge
    · have : (i + 1) * W ≤ r * W := Nat.mul_le_mul_right _ hlt
      rw [Nat.add_mul, Nat.one_mul] at this
      rw [if_pos (by omega)]; simpa using a
    · have hlt : r < i := by omega
      have : (r + 1) * W ≤ i * W := Nat.mul_le_mul_right _ hlt
      rw [Nat.add_mul, Nat.one_mul] at this
      rw [if_neg (by omega), if_neg (by omega)]; simpa using a

theorem storeVar_run {t : TypeId} {b o' : Nat} {v : Value} {arr : Array Value} {elem : TypeId} {i : TypeInfo} (hi : P.info? t = some i) (hs : v.cells.size = i.size) (hh : w.heap[b]? = some (.cells arr elem (0, 0)))
    (hle : o' + v.cells.size ≤ arr.size) (h1 : ∀ x ∈ v.cells.toList, x.oneCell' = true) :
    (storeVar t ⟨b, o', none⟩ v).run P w = .ok () (w.setRow b (arr.toList.take o' ++ v.cells.toList ++ arr.toList.drop (o' + v.cells.toList.length)).toArray) := by
  have := run_storeCells_at P b o' elem v.cells.toList 0 arr w hh (by simpa using hle) h1
  simp [storeVar, run_sizeOf' hi, hs] at this ⊢
  exact this

theorem store_sound (M : MRel G V0 L0 w0 U V m h w) {t : TypeId} {x y : Operand} {tx ty : TV} (ho : o.op = .store t x y) (hx : TRep m V w (ρ x) tx) (hy : TRep m V w (ρ y) ty)
    (hd : storeV (ti P t) h ty tx = some d) : Does P G V0 L0 w0 U V m h w (execOp ρ o) g d := by
  unfold storeV at hd
  split at hd
  · rename_i k r c
    split at hd
    · -- a variable
      rename_i l cs hk hc
      split at hd
      · rename_i hcond
        obtain ⟨hok, hr0, hlen, hle⟩ := hcond
        subst hr0
        cases hd
        obtain ⟨i, dd, hi, _, hi3, _⟩ := ti_ok hok
        have hcells := hy.cells hc
        have hvs : (ρ y).cells.size = i.size := by have := hcells.length; simp at this; omega
        generalize hv : ρ x = v at hx
        cases hx with | c hx => cases hx with
        | @ptr _ ki b _ _ hm hb =>
          obtain ⟨ki', hm', hrep⟩ := M.heap _ _ hk
          rw [hm] at hm'; cases hm'
          cases hrep with
          | @box _ _ b' arr elem h0 hb' hh hl =>
            rw [hb] at hb'; cases hb'
            have harr := hl.length
            simp only [Array.length_toList] at harr
            have hrun := storeVar_run (P := P) (t := t) (o' := c) (v := ρ y) hi hvs hh (by have := hcells.length; simp at this; omega) hcells.one
            have hkp : Kept V w (w.setRow b _) := kept_setRow (M.mine k _ ki b hk rfl hm hb).1 (arr.toList.take c ++ (ρ y).cells.toList ++ arr.toList.drop (c + (ρ y).cells.toList.length)).toArray
            obtain ⟨M', _⟩ := M.write hk rfl hm hb (arr.toList.take c ++ (ρ y).cells.toList ++ arr.toList.drop (c + (ρ y).cells.toList.length)).toArray
              (blk := .box true (setAt l c cs)) (.box h0 hb (setRow_heap w b arr _ elem _ hh) (by
                have := (hl.setAt hcells c).mono (fun _ _ h => h) (fun _ h => h) hkp
                simpa using this)) rfl
            refine ⟨.skip, undef, _, V, m, ?_, .inr ⟨rfl, rfl⟩, .tup rfl (by simp), by simpa [putH] using M'.used fun _ h => .inl h, fun _ _ h => h, fun _ h => h, hkp⟩
            simp only [h0, Nat.zero_mul, Nat.zero_add] at hv
            simp [execOp, ho, Instr.storeAt, hv, Instr.sureAddr, hrun]
      · cases hd
    · -- a row of a slice
      rename_i W l cs hk hc
      split at hd
      · rename_i row ps hrow hps
        split at hd
        · rename_i hcond
          obtain ⟨hok, hlen, hle⟩ := hcond
          cases hd
          obtain ⟨i, dd, hi, _, hi3, _⟩ := ti_ok hok
          have hcells := hy.cells hc
          have hpure := hcells.pure hps
          have hvs : (ρ y).cells.size = i.size := by have := hpure.length; simp at this; omega
          have hvl : (ρ y).cells.size = ps.length := by have := hpure.length; simpa using this
          generalize hv : ρ x = v at hx
          cases hx with | c hx => cases hx with
          | @ptr _ ki b _ _ hm hb =>
            obtain ⟨ki', hm', hrep⟩ := M.heap _ _ hk
            rw [hm] at hm'; cases hm'
            cases hrep with
            | nil => simp at hrow
            | @arr _ _ _ b' arr elem hw' hb' hh hs hcap hr =>
              rw [hb] at hb'; cases hb'
              obtain ⟨hrw, hcr⟩ := hr r row hrow
              have hrl : r < l.length := (List.getElem?_eq_some_iff.1 hrow).1
              have hbound : r * W + W ≤ ki.cap * W := by
                have : (r + 1) * W ≤ ki.cap * W := Nat.mul_le_mul_right _ (by omega)
                rwa [Nat.add_mul, Nat.one_mul] at this
              have hsle := hs.le
              have hrun := storeVar_run (P := P) (t := t) (o' := ki.base + r * W + c) (v := ρ y) hi hvs hh (by omega) hcells.one
              have hnew : (arr.toList.take (ki.base + r * W + c) ++ (ρ y).cells.toList ++ arr.toList.drop (ki.base + r * W + c + (ρ y).cells.toList.length)) = setAt arr.toList (ki.base + r * W + c) (ρ y).cells.toList := by
                rw [List.append_assoc]; rfl
              rw [hnew] at hrun
              have hsz' : (setAt arr.toList (ki.base + r * W + c) (ρ y).cells.toList).toArray.size = arr.size := by
                rw [List.size_toArray, setAt_length _ _ _ (by simp; omega)]; simp
              have hkp : Kept V w (w.setRow b (setAt arr.toList (ki.base + r * W + c) (ρ y).cells.toList).toArray) := kept_setRow (M.mine k _ ki b hk rfl hm hb).1 _
              obtain ⟨M', _⟩ := M.write hk rfl hm hb (setAt arr.toList (ki.base + r * W + c) (ρ y).cells.toList).toArray (blk := .arr true W (l.set r (setAt row c ps)))
                (.arr hw' hb (setRow_heap w b arr _ elem _ hh) (hs.setAt (by simp; omega) hpure.one) (by simpa using hcap) (hr.setRow hkp hrow hpure hle hs.le hcap)) rfl
              refine ⟨.skip, undef, _, V, m, ?_, .inr ⟨rfl, rfl⟩, .tup rfl (by simp), by simpa [putH] using M'.used fun _ h => .inl h, fun _ _ h => h, fun _ h => h, hkp⟩
              rw [hw'] at hv
              simp [execOp, ho, Instr.storeAt, hv, Instr.sureAddr, hrun]
        · cases hd
      · cases hd
    · cases hd
  · cases hd

end
end Go.Sh
end
section
namespace Go.Sh

section
variable {P : Program} {G : Glob} {V0 : Nat → Prop} {L0 : List Nat} {w0 : World} {U V : Nat → Prop} {m : KM} {h : Key → Option Blk} {w : World} {ρ : Operand → Value} {o : Oper} {s g : Nat} {d : Dl}

theorem CellsRep.append {arr : Array Value} {o : Nat} {a b : List PV} : CellsRep V w arr o (a ++ b) ↔ CellsRep V w arr o a ∧ CellsRep V w arr (o + a.length) b := by
  constructor
  · intro hc
    refine ⟨fun j c hj => hc j c ?_, fun j c hj => ?_⟩
    · rw [List.getElem?_append_left (List.getElem?_eq_some_iff.1 hj).1]; exact hj
    · have := hc (a.length + j) c (by rw [List.getElem?_append_right (by omega)]; simpa using hj)
      rwa [← Nat.add_assoc] at this
  · rintro ⟨h1, h2⟩ j c hj
    by_cases hlt : j < a.length
    · exact h1 j c (by rwa [List.getElem?_append_left hlt] at hj)
    · rw [List.getElem?_append_right (by omega)] at hj
      have := h2 _ _ hj
      rwa [show o + a.length + (j - a.length) = o + j by omega] at this

theorem RowsRep.flat {arr : Array Value} {W : Nat} : ∀ {l : List (List PV)} {o : Nat}, RowsRep V w arr o W l → CellsRep V w arr o l.flatten ∧ allW W l = true
  | [], o, _ => ⟨fun j c hj => by simp at hj, rfl⟩
  | row :: l, o, hr => by
    obtain ⟨h1, h2⟩ := hr 0 row rfl
    have ht : RowsRep V w arr (o + W) W l := fun i r hi => by
      have := hr (i + 1) r (by simpa using hi)
      rwa [show o + (i + 1) * W = o + W + i * W by rw [Nat.add_mul]; omega] at this
    obtain ⟨h3, h4⟩ := RowsRep.flat ht
    refine ⟨?_, by simp [allW, h1] at h4 ⊢; exact h4⟩
    rw [List.flatten_cons, CellsRep.append]
    exact ⟨by simpa using h2, by rw [h1]; exact h3⟩

theorem RowsRep.of_flat {arr : Array Value} {W : Nat} : ∀ {l : List (List PV)} {o : Nat}, CellsRep V w arr o l.flatten → allW W l = true → RowsRep V w arr o W l
  | [], o, _, _ => fun i r hi => by simp at hi
  | row :: l, o, hc, ha => by
    simp only [allW, List.all_cons, Bool.and_eq_true, beq_iff_eq] at ha
    rw [List.flatten_cons, CellsRep.append] at hc
    have ih := RowsRep.of_flat (l := l) (o := o + W) (by rw [← ha.1]; exact hc.2) ha.2
    intro i r hi
    cases i with
    | zero => simp at hi; subst hi; exact ⟨ha.1, by simpa using hc.1⟩
    | succ i =>
      have := ih i r (by simpa using hi)
      rwa [show o + (i + 1) * W = o + W + i * W by rw [Nat.add_mul]; omega]

theorem flat_length {W : Nat} : ∀ {l : List (List PV)}, allW W l = true → l.flatten.length = l.length * W
  | [], _ => by simp
  | row :: l, ha => by
    simp only [allW, List.all_cons, Bool.and_eq_true, beq_iff_eq] at ha
    rw [List.flatten_cons, List.length_append, ha.1, flat_length (l := l) ha.2, List.length_cons, Nat.add_mul]; omega

theorem flat_take {W : Nat} : ∀ {l : List (List PV)} (n : Nat), allW W l = true → (l.take n).flatten = l.flatten.take (n * W)
  | [], n, _ => by simp
  | row :: l, 0, _ => by simp
  | row :: l, n + 1, ha => by
    simp only [allW, List.all_cons, Bool.and_eq_true, beq_iff_eq] at ha
    rw [List.take_succ_cons, List.flatten_cons, List.flatten_cons, flat_take n ha.2, List.take_append, ha.1]
    have e1 : row.take ((n + 1) * W) = row := List.take_of_length_le (by rw [ha.1, Nat.add_mul]; omega)
    rw [e1, show (n + 1) * W - W = n * W by rw [Nat.add_mul]; omega]

theorem flat_drop {W : Nat} : ∀ {l : List (List PV)} (n : Nat), allW W l = true → (l.drop n).flatten = l.flatten.drop (n * W)
  | [], n, _ => by simp
  | row :: l, 0, _ => by simp
  | row :: l, n + 1, ha => by
    simp only [allW, List.all_cons, Bool.and_eq_true, beq_iff_eq] at ha
    rw [List.drop_succ_cons, List.flatten_cons, flat_drop n ha.2, List.drop_append, ha.1]
    have e1 : row.drop ((n + 1) * W) = [] := List.drop_of_length_le (by rw [ha.1, Nat.add_mul]; omega)
    rw [e1, show (n + 1) * W - W = n * W by rw [Nat.add_mul]; omega, List.nil_append]

theorem allW_take {W : Nat} {l : List (List PV)} (n : Nat) (ha : allW W l = true) : allW W (l.take n) = true := by
  unfold allW at *; rw [List.all_eq_true] at *; exact fun x hx => ha x (List.mem_of_mem_take hx)
theorem allW_drop {W : Nat} {l : List (List PV)} (n : Nat) (ha : allW W l = true) : allW W (l.drop n) = true := by
  unfold allW at *; rw [List.all_eq_true] at *; exact fun x hx => ha x (List.mem_of_mem_drop hx)
theorem allW_append {W : Nat} {l r : List (List PV)} (ha : allW W l = true) (hb : allW W r = true) : allW W (l ++ r) = true := by
  unfold allW at *; rw [List.all_append, ha, hb]; rfl
theorem allW_setAt {W : Nat} {l xs : List (List PV)} (c : Nat) (ha : allW W l = true) (hb : allW W xs = true) : allW W (setAt l c xs) = true :=
  allW_append (allW_take _ ha) (allW_append hb (allW_drop _ ha))

theorem flat_setAt {W : Nat} {l xs : List (List PV)} (c : Nat) (ha : allW W l = true) (hb : allW W xs = true) : (setAt l c xs).flatten = setAt l.flatten (c * W) xs.flatten := by
  unfold setAt
  rw [List.flatten_append, List.flatten_append, flat_take _ ha, flat_drop _ ha, flat_length hb, Nat.add_mul]

theorem CellsRep.mono {V V' : Nat → Prop} {w w' : World} (hV : ∀ b, V b → V' b) (hk : Kept V w w') {arr : Array Value} {o l} (hc : CellsRep V w arr o l) : CellsRep V' w' arr o l :=
  fun j c hj => let ⟨v, a, b⟩ := hc j c hj; ⟨v, a, b.mono hV hk⟩

/-- Cells are turned. -/
theorem CellsRep.setAt {arr : Array Value} {o c : Nat} {l ps : List PV} {vs : List Value} (hc : CellsRep V w arr o l) (hp : PsRep V w vs ps) (hle : c + ps.length ≤ l.length) (hs : o + l.length ≤ arr.size) :
    CellsRep V w (setAt arr.toList (o + c) vs).toArray o (setAt l c ps) := by
  have hvl := hp.length
  intro j x hj
  rw [setAt_get _ _ _ _ hle] at hj
  rw [List.getElem?_toArray, setAt_get _ _ _ _ (by simp; omega)]
  by_cases h1 : j < c
  · rw [if_pos h1] at hj
    rw [if_pos (by omega)]
    obtain ⟨v, a, b⟩ := hc j x hj
    exact ⟨v, by simpa using a, b⟩
  · rw [if_neg h1] at hj
    rw [if_neg (by omega)]
    by_cases h2 : j < c + ps.length
    · rw [if_pos h2] at hj
      rw [if_pos (by omega), show o + j - (o + c) = j - c by omega]
      exact hp.get _ _ hj
    · rw [if_neg h2] at hj
      rw [if_neg (by omega)]
      obtain ⟨v, a, b⟩ := hc j x hj
      exact ⟨v, by simpa using a, b⟩

theorem PsRep.append {vs us : List Value} {ps qs : List PV} (hp : PsRep V w vs ps) (hq : PsRep V w us qs) : PsRep V w (vs ++ us) (ps ++ qs) := by
  induction hp with
  | nil => exact hq
  | cons h _ ih => exact .cons h ih

/-- Cells that lie in the world, row by row. -/
theorem rows_list {W b : Nat} : ∀ {l : List (List PV)} {o : Nat} {f : Nat → Nat → Value}, (∀ i j, i < l.length → j < W → w.cell? ⟨b, o + i * W + j, none⟩ = some (f i j)) →
    (∀ (i : Nat) (row : List PV), l[i]? = some row → row.length = W) → (∀ (i j : Nat) (row : List PV) (c : PV), l[i]? = some row → row[j]? = some c → PRep V w (f i j) c) →
    ∃ cs : List Value, PsRep V w cs l.flatten ∧ ∀ j x, cs[j]? = some x → w.cell? ⟨b, o + j, none⟩ = some x
  | [], o, f, _, _, _ => ⟨[], .nil, by simp⟩
  | row :: l, o, f, h1, h2, h3 => by
    have hw := h2 0 row rfl
    obtain ⟨vs, a1, a2⟩ := cells_list (V := V) (w := w) (b := b) (o := o) (cells := row) (f := f 0) (fun j hj => by have := h1 0 j (by simp) (by omega); simpa using this) (fun j x hx => h3 0 j row x rfl hx)
    obtain ⟨cs, b1, b2⟩ := rows_list (W := W) (b := b) (l := l) (o := o + W) (f := fun i j => f (i + 1) j) (fun i j hi hj => by
        have := h1 (i + 1) j (by simpa using hi) hj
        rwa [show o + (i + 1) * W + j = o + W + i * W + j by rw [Nat.add_mul]; omega] at this)
      (fun i r hi => h2 (i + 1) r (by simpa using hi)) (fun i j r c hi hj => h3 (i + 1) j r c (by simpa using hi) hj)
    have hl := a1.length
    refine ⟨vs ++ cs, ?_, fun j x hj => ?_⟩
    · rw [List.flatten_cons]
      exact a1.append b1
    · by_cases hlt : j < vs.length
      · rw [List.getElem?_append_left hlt] at hj; exact a2 j x hj
      · rw [List.getElem?_append_right (by omega)] at hj
        have := b2 _ _ hj
        rwa [show o + W + (j - vs.length) = o + j by omega] at this

theorem PsRep.take {vs : List Value} {ps : List PV} (hp : PsRep V w vs ps) : ∀ n, PsRep V w (vs.take n) (ps.take n) := by
  induction hp with
  | nil => intro n; simp; exact .nil
  | cons h _ ih => intro n; cases n with
    | zero => exact .nil
    | succ n => exact .cons h (ih n)
theorem PsRep.drop {vs : List Value} {ps : List PV} (hp : PsRep V w vs ps) : ∀ n, PsRep V w (vs.drop n) (ps.drop n) := by
  induction hp with
  | nil => intro n; simp; exact .nil
  | cons h t ih => intro n; cases n with
    | zero => exact .cons h t
    | succ n => exact ih n
theorem PsRep.mono {V V' : Nat → Prop} {w w' : World} (hV : ∀ b, V b → V' b) (hk : Kept V w w') {vs : List Value} {ps : List PV} (hp : PsRep V w vs ps) : PsRep V' w' vs ps := by
  induction hp with
  | nil => exact .nil
  | cons h _ ih => exact .cons (h.mono hV hk) ih
theorem PsRep.cells {vs : List Value} {ps : List PV} (hp : PsRep V w vs ps) {arr : Array Value} {o : Nat} (ha : ∀ j x, vs[j]? = some x → arr[o + j]? = some x) : CellsRep V w arr o ps := fun j c hj =>
  let ⟨v, a, b⟩ := hp.get j c hj; ⟨v, ha j v a, b⟩

theorem chunk_flat (W : Nat) : ∀ (n : Nat) (l : List PV), l.length = n * W → (chunk W n l).flatten = l ∧ allW W (chunk W n l) = true ∧ (chunk W n l).length = n
  | 0, l, hl => by simp at hl; subst hl; exact ⟨rfl, rfl, rfl⟩
  | n + 1, l, hl => by
    have hl' : l.length = n * W + W := by rw [hl, Nat.add_mul]; omega
    obtain ⟨h1, h2, h3⟩ := chunk_flat W n (l.drop W) (by rw [List.length_drop]; omega)
    refine ⟨by simp [chunk, h1], ?_, by simp [chunk, h3]⟩
    simp only [chunk, allW, List.all_cons, Bool.and_eq_true, beq_iff_eq]
    exact ⟨by rw [List.length_take]; omega, h2⟩

theorem pureL_length : ∀ (l : List AV) (ps : List PV), pureL l = some ps → ps.length = l.length
  | [], ps, h => by simp [pureL] at h; subst h; rfl
  | a :: l, ps, h => by
    cases a <;> simp only [pureL, Option.map_eq_some_iff] at h <;> first | (cases h; done) | (obtain ⟨q, hq, rfl⟩ := h; simp [pureL_length l q hq])

/-- A slice is read: its rows, cell by cell. -/
theorem rows_read (M : MRel G V0 L0 w0 U V m h w) {v : Value} {tx : TV} {W : Nat} {rs : List (List PV)} {ks : List Key} (hx : TRep m V w v tx) (hr : rowsOf h tx = some (rs, ks)) (ha : allW W rs = true) :
    ∃ a cap cs, v = .slice a rs.length cap ∧ rs.length ≤ cap ∧ PsRep V w cs rs.flatten ∧ ∀ n, n ≤ rs.length → (Builtin.firstCells W n v).run P w = .ok (cs.take (n * W)).toArray w := by
  have fin : ∀ (b o n cap : Nat) (cs : List Value), cs.length = rs.length * W → (∀ j x, cs[j]? = some x → w.cell? ⟨b, o + j, none⟩ = some x) → n ≤ rs.length →
      (Builtin.firstCells W n (.slice (some ⟨b, o, none⟩) rs.length cap)).run P w = .ok (cs.take (n * W)).toArray w := by
    intro b o n cap cs hl hc hn
    have hlen : (cs.take (n * W)).length = n * W := by
      rw [List.length_take, hl]; exact Nat.min_eq_left (Nat.mul_le_mul_right _ hn)
    have := run_loadCells_list (P := P) w ⟨b, o, none⟩ (cs.take (n * W)) (fun j x hj => by
      rw [add_none]
      rw [List.getElem?_take] at hj
      split at hj
      · exact hc j x hj
      · cases hj)
    rw [hlen] at this
    simpa [Builtin.firstCells] using this
  unfold rowsOf at hr
  split at hr
  · cases hr
    cases hx with | c hx => cases hx with | p hx => cases hx with
    | nil a cap =>
      refine ⟨a, cap, [], rfl, by simp, .nil, fun n hn => ?_⟩
      have : n = 0 := by simpa using hn
      subst this
      cases a <;> simp [Builtin.firstCells, loadCells, loadCellsFrom]
    | rows b o' _ cap W' ff hV hcap hw hcell hrep =>
      obtain ⟨cs, h1, h2⟩ := rows_list (W := W') (b := b) hcell hw hrep
      refine ⟨_, cap, cs, rfl, hcap, h1, fun n hn => fin b o' n cap cs ?_ h2 hn⟩
      rw [h1.length, flat_length ha]
  · cases hr
    cases hx with | c hx => cases hx with
    | nilS =>
      refine ⟨none, 0, [], rfl, by simp, .nil, fun n hn => ?_⟩
      have : n = 0 := by simpa using hn
      subst this
      simp [Builtin.firstCells]
  · rename_i k r n
    split at hr
    · rename_i mu W' l hh
      split at hr
      · rename_i hle
        cases hr
        cases hx with | c hx => cases hx with
        | @ref _ ki a _ _ hm hrc hae =>
          obtain ⟨ki', hm', hrep⟩ := M.heap _ _ hh
          rw [hm] at hm'; cases hm'
          have hlen : ((l.drop r).take n).length = n := by rw [List.length_take, List.length_drop]; omega
          by_cases hn0 : n = 0
          · subst hn0
            refine ⟨a, ki.cap - r, [], by simp, by simp, by simpa using .nil, fun n hn => ?_⟩
            have : n = 0 := by simpa using hn
            subst this
            cases a <;> simp [Builtin.firstCells, loadCells, loadCellsFrom]
          · cases hrep with
            | nil => simp at hle; omega
            | @arr _ _ _ b arr elem hw' hb hh' hs hcap hrr =>
              have hWW : W' = W := by
                have : (l.drop r).take n ≠ [] := by intro e; rw [e] at hlen; simp at hlen; omega
                obtain ⟨row, hrow⟩ : ∃ row, ((l.drop r).take n)[0]? = some row := ⟨_, List.getElem?_eq_getElem (by rw [hlen]; omega)⟩
                have h1 := allW_get ha hrow
                rw [List.getElem?_take] at hrow
                split at hrow
                · rw [List.getElem?_drop] at hrow
                  rw [← (hrr _ _ hrow).1, h1]
                · cases hrow
              subst hWW
              obtain ⟨hcells, hall⟩ := hrr.flat
              have haddr := hae (by omega)
              rw [hb] at haddr
              simp only [Option.map_some] at haddr
              rw [haddr, hw']
              have hsub : CellsRep V w arr (ki.base + r * W') (((l.drop r).take n).flatten) := by
                rw [flat_take _ (allW_drop r hall), flat_drop _ hall]
                intro j c hj
                rw [List.getElem?_take] at hj
                split at hj
                · rw [List.getElem?_drop] at hj
                  have := hcells _ _ hj
                  rwa [← Nat.add_assoc] at this
                · cases hj
              obtain ⟨cs, c1, c2⟩ := hsub.list
              refine ⟨some ⟨b, ki.base + r * W', none⟩, ki.cap - r, cs, by rw [hlen], by rw [hlen]; omega, c1, fun n' hn' => ?_⟩
              have := fin b (ki.base + r * W') n' (ki.cap - r) cs (by rw [c1.length, flat_length ha]) (fun j x hj => by rw [cell_of hh']; exact c2 j x hj) hn'
              rwa [hlen] at this
      · cases hr
    · cases hr
  · rename_i k c n W'
    split at hr
    · rename_i mu l hh
      split at hr
      · rename_i hle
        simp only [Option.map_eq_some_iff] at hr
        obtain ⟨ps, hps, hr⟩ := hr
        cases hr
        have hpl := pureL_length _ _ hps
        rw [List.length_take, List.length_drop, Nat.min_eq_left (by omega)] at hpl
        obtain ⟨f1, f2, f3⟩ := chunk_flat W' n ps hpl
        cases hx with | c hx => cases hx with
        | @cref _ ki b a _ _ _ cap hm hb hn hae =>
          obtain ⟨ki', hm', hrep⟩ := M.heap _ _ hh
          rw [hm] at hm'; cases hm'
          by_cases hn0 : n = 0
          · subst hn0
            refine ⟨a, cap, [], by simp [chunk], by simp [chunk], by simpa [chunk] using .nil, fun n hn => ?_⟩
            have : n = 0 := by simpa [chunk] using hn
            subst this
            cases a <;> simp [Builtin.firstCells, loadCells, loadCellsFrom]
          · cases hrep with
            | @box _ _ b' arr elem h0 hb' hh' hl =>
              rw [hb] at hb'; cases hb'
              have hWW : W' = W := by
                obtain ⟨row, hrow⟩ : ∃ row, (chunk W' n ps)[0]? = some row := ⟨_, List.getElem?_eq_getElem (by rw [f3]; omega)⟩
                rw [← allW_get f2 hrow, allW_get ha hrow]
              subst hWW
              have hp := ((hl.drop c).take (n * W')).pure hps
              have haddr := hae (by omega)
              rw [haddr]
              refine ⟨some ⟨b, ki.base + c, none⟩, cap, _, by rw [f3], by rw [f3]; exact hn, by rw [f1]; exact hp, fun n' hn' => ?_⟩
              have := fin b (ki.base + c) n' cap _ (by rw [hp.length, hpl, f3]) (fun j x hj => by
                rw [cell_of hh', h0, Nat.zero_add]
                rw [List.getElem?_take] at hj
                split at hj
                · simpa [List.getElem?_drop] using hj
                · cases hj) hn'
              rwa [f3] at this
      · cases hr
    · cases hr
  · cases hr

end
end Go.Sh
end
section
namespace Go.Sh

section
variable {P : Program} {G : Glob} {V0 : Nat → Prop} {L0 : List Nat} {w0 : World} {U V : Nat → Prop} {m : KM} {h : Key → Option Blk} {w : World} {ρ : Operand → Value} {o : Oper} {s g : Nat} {d : Dl}

/-- A new block of rows. -/
theorem newRows (M : MRel G V0 L0 w0 U V m h w) (hu : ¬ U g) {arr : Array Value} {t : TypeId} {W cap : Nat} {rs : List (List PV)} (hc : CellsRep V w arr 0 rs.flatten) (ha : allW W rs = true)
    (hs : cap * W ≤ arr.size) (h1 : ∀ v ∈ arr.toList, v.oneCell' = true) (hl : rs.length ≤ cap) :
    ∃ m', MRel G V0 L0 w0 (fun x => U x ∨ x = g) V m' (updH h ⟨s, g⟩ (some (.arr true W rs))) (w.alloc (.cells arr t)) ∧ Ext m m' ∧ Kept V w (w.alloc (.cells arr t)) ∧
      ∀ n, n ≤ cap → TRep m' V (w.alloc (.cells arr t)) (.slice (some ⟨w.heap.size, 0, none⟩) n cap) (.c (.ref ⟨s, g⟩ 0 n)) := by
  by_cases hc0 : cap = 0
  · subst hc0
    have hrs : rs = [] := List.length_eq_zero_iff.1 (by omega)
    subst hrs
    let i : KI := ⟨none, 0, W, 0⟩
    obtain ⟨M1, hkp⟩ := M.grow (.cells arr t)
    have hk : m ⟨s, g⟩ = none := by
      cases e : m ⟨s, g⟩ with
      | none => rfl
      | some i => exact absurd (M.gen _ i e) hu
    obtain ⟨M2, hx⟩ := (M1.used (U' := fun x => U x ∨ x = g) fun _ h => .inl h).adopt (k := ⟨s, g⟩) (i := i) (blk := .arr true W []) (.inr rfl) hk (.nil rfl rfl rfl) rfl (fun r hr => by simp [i] at hr)
    refine ⟨_, M2, hx, hkp, fun n hn => ?_⟩
    have hn0 : n = 0 := by omega
    subst hn0
    have : ARep (addK m ⟨s, g⟩ i) V (w.alloc (.cells arr t)) (.slice (some ⟨w.heap.size, 0, none⟩) 0 (i.cap - 0)) (.ref ⟨s, g⟩ 0 0) :=
      .ref (i := i) (by simp [addK]) (by simp [i]) (fun hlt => by simp [i] at hlt)
    simpa [i] using TRep.c this
  let i : KI := ⟨some w.heap.size, 0, W, cap⟩
  have hkp : Kept V w (w.alloc (.cells arr t)) := kept_alloc (fun b hb => (M.vsz b hb).1) _
  have hrows : RowsRep V (w.alloc (.cells arr t)) arr 0 W rs := RowsRep.of_flat (hc.mono (fun _ h => h) hkp) ha
  obtain ⟨M', hx, _⟩ := M.alloc (k := ⟨s, g⟩) (i := i) (blk := .arr true W rs) hu arr t rfl (.arr rfl rfl (alloc_new w _) ⟨by simpa [i] using hs, by simp [i]; omega, h1⟩ hl hrows) rfl
  refine ⟨_, M', hx, hkp, fun n hn => ?_⟩
  have : ARep (addK m ⟨s, g⟩ i) V (w.alloc (.cells arr t)) (.slice (some ⟨w.heap.size, 0, none⟩) n (i.cap - 0)) (.ref ⟨s, g⟩ 0 n) :=
    .ref (i := i) (by simp [addK]) (by simpa [i] using hn) (fun _ => by simp [i])
  simpa [i] using TRep.c this

theorem growBy_le (need : Nat) : ∀ r c, Builtin.growBy need r c ≤ max c (need + (need + 768) / 4)
  | 0, c => by simp [Builtin.growBy]; omega
  | r + 1, c => by
    unfold Builtin.growBy
    split
    · omega
    · have := growBy_le need r (c + (c + 768) / 4)
      omega

theorem nextcap_le (need cap : Nat) (hc : cap < need) : Builtin.nextslicecap need cap ≤ 2 * need + 192 := by
  unfold Builtin.nextslicecap
  split
  · omega
  · split
    · omega
    · have := growBy_le need 4 cap
      omega

theorem zeroCells_size (z : Array Value) (n : Nat) : (Builtin.zeroCells z n).size = n * z.size := by simp [Builtin.zeroCells]

theorem PsRep.left {vs : List Value} {ps : List PV} (hp : PsRep V w vs ps) (rest : List Value) : CellsRep V w (vs ++ rest).toArray 0 ps := by
  intro j c hj
  obtain ⟨v, a, b⟩ := hp.get j c hj
  exact ⟨v, by simp only [List.getElem?_toArray, Nat.zero_add]; rw [List.getElem?_append_left (List.getElem?_eq_some_iff.1 a).1]; exact a, b⟩

theorem PsRep.first {vs rest : List Value} {ps : List PV} {arr : Array Value} (hp : PsRep V w vs ps) (he : arr.toList = vs ++ rest) : CellsRep V w arr 0 ps := by
  have := hp.left rest
  rw [← he] at this
  simpa using this

theorem drew_kept (w : World) : Kept V w w.drew := ⟨fun _ _ => rfl⟩

theorem kind_notInt {u : TypeId} (hok : (ti P u).ok = true) (hk : (ti P u).kind.isInt = false) : ∃ dsc, P.underlying u = some dsc ∧ (∀ k, dsc ≠ .int k) := by
  obtain ⟨i, dsc, hi, hd, _⟩ := ti_ok hok
  refine ⟨dsc, hd, fun k e => ?_⟩
  subst e
  simp [ti, hi, hd, TK.isInt] at hk

/-- append, where it must grow. -/
theorem append_grow {t u ty e : TypeId} {i : TypeInfo} {z : Value} {dsc : TypeDesc} {vy : Value} {base : Option Addr} {n mm cap : Nat} {old new : Array Value} (ht : P.underlying t = some (.slice e))
    (hi : P.info? e = some i) (hz : i.zero = some z) (hu : P.underlying u = some dsc) (hni : ∀ k, dsc ≠ .int k) (hlen : (Builtin.lenOf vy).run P w = .ok mm w) (hgrow : cap < n + mm)
    (hb : (n + mm) * i.bytes ≤ maxRows) (hb' : n + mm ≤ maxRows) (hold : (Builtin.firstCells i.size n (.slice base n cap)).run P w.drew = .ok old w.drew)
    (hnew : (Builtin.firstCells i.size mm vy).run P w.drew = .ok new w.drew) :
    ∃ nc, n + mm ≤ nc ∧ (Builtin.append_ #[t, u] ty #[.slice base n cap, vy]).run P w =
      .ok (.slice (some ⟨w.heap.size, 0, none⟩) (n + mm) nc) (w.drew.alloc (.cells (old ++ new ++ Builtin.zeroCells z.cells (nc - (n + mm))) e)) := by
  refine ⟨(Question.appendCap (n + mm) cap e).cut (w.tape w.drawn (.appendCap (n + mm) cap e)), by simp [Question.cut], ?_⟩
  have hz0 : (match dsc with | .int _ => true | _ => false) = false := by
    cases dsc <;> first | rfl | exact absurd rfl (hni _)
  have hbig : ¬ (2 ^ 48 < Builtin.nextslicecap (n + mm) cap * i.bytes) := by
    have h1 := nextcap_le (n + mm) cap hgrow
    have h2 : Builtin.nextslicecap (n + mm) cap * i.bytes ≤ (2 * (n + mm) + 192) * i.bytes := Nat.mul_le_mul_right _ h1
    have h3 : (2 * (n + mm) + 192) * i.bytes = 2 * ((n + mm) * i.bytes) + 192 * i.bytes := by rw [Nat.add_mul, Nat.mul_assoc]
    have h4 : i.bytes ≤ (n + mm) * i.bytes := Nat.le_mul_of_pos_left _ (by omega)
    unfold maxRows at hb
    omega
  have hmax : ¬ (((n + mm : Nat) : Int) > IntKind.i64.max) := by
    have : IntKind.i64.max = 9223372036854775807 := by decide
    unfold maxRows at hb'
    omega
  have hne : ¬ (n + mm ≤ cap) := by omega
  have hmax' : ¬ (9223372036854775807 < (n : Int) + (mm : Int)) := by
    unfold maxRows at hb'
    omega
  simp [Builtin.append_, run_underlying ht, run_underlying hu, run_sizeOf' hi, hlen, hne, hmax', typeInfo, hi, hbig, Question.forced, zeroValue, hz, hold, hnew, newRow, newObj]
  rfl

/-- append, where there is room. -/
theorem append_fits {t u ty e : TypeId} {i : TypeInfo} {dsc : TypeDesc} {vy : Value} {b o' n mm cap : Nat} {new arr : Array Value} {elem : TypeId} (ht : P.underlying t = some (.slice e))
    (hi : P.info? e = some i) (hu : P.underlying u = some dsc) (hni : ∀ k, dsc ≠ .int k) (hlen : (Builtin.lenOf vy).run P w = .ok mm w) (hfit : n + mm ≤ cap)
    (hnew : (Builtin.firstCells i.size mm vy).run P w = .ok new w) (hh : w.heap[b]? = some (.cells arr elem (0, 0))) (hle : o' + n * i.size + new.size ≤ arr.size) (h1 : ∀ x ∈ new.toList, x.oneCell' = true) :
    (Builtin.append_ #[t, u] ty #[.slice (some ⟨b, o', none⟩) n cap, vy]).run P w =
      .ok (.slice (some ⟨b, o', none⟩) (n + mm) cap) (w.setRow b (setAt arr.toList (o' + n * i.size) new.toList).toArray) := by
  have hz0 : (match dsc with | .int _ => true | _ => false) = false := by
    cases dsc <;> first | rfl | exact absurd rfl (hni _)
  have := run_storeCells_at P b (o' + n * i.size) elem new.toList 0 arr w hh (by simpa using hle) h1
  rw [Nat.add_zero, List.append_assoc] at this
  have e2 : (storeCells ⟨b, o' + n * i.size, none⟩ new.toList).run P w = .ok () (w.setRow b (setAt arr.toList (o' + n * i.size) new.toList).toArray) := this
  simp [Builtin.append_, run_underlying ht, run_underlying hu, run_sizeOf' hi, hlen, hfit, hnew, add_none, e2]

theorem lenOf_run (a : Option Addr) (n cap : Nat) (w : World) : (Builtin.lenOf (.slice a n cap)).run P w = .ok n w := by simp [Builtin.lenOf]

theorem append_sound (M : MRel G V0 L0 w0 U V m h w) (hug : ¬ U g) {t u : TypeId} {x y : Operand} {tx ty : TV} (ho : o.op = .call { callee := .builtin .append, args := #[x, y], argTypes := #[t, u] })
    (hx : TRep m V w (ρ x) tx) (hy : TRep m V w (ρ y) ty) (huok : (ti P u).ok = true) (huk : (ti P u).kind.isInt = false) (hd : appendV P (ti P t) h s g tx ty = some d) :
    Does P G V0 L0 w0 U V m h w (execOp ρ o) g d := by
  obtain ⟨dsc, hu, hni⟩ := kind_notInt huok huk
  have lift : ∀ {v w'}, (Builtin.append_ #[t, u] o.type #[ρ x, ρ y]).run P w = .ok v w' → (execOp ρ o).run P w = .ok (.value v) w' := by
    intro v w' e
    simp [execOp, ho, resolve, invoke, builtin, e]
  unfold appendV at hd
  split at hd
  · rename_i e hk
    have ht := kind_slice hk
    simp only [Option.bind_eq_some_iff] at hd
    obtain ⟨⟨src, ks⟩, hsrc, hd⟩ := hd
    simp only at hd
    split at hd
    · rename_i hc
      obtain ⟨hok, hzl, hall⟩ := hc
      obtain ⟨i, z, hi, hz, hzc⟩ := ti_zero hok hzl
      obtain ⟨i', dd, hi', _, hsz, hby, _⟩ := ti_ok hok
      rw [hi] at hi'; cases hi'
      rw [hsz] at hall
      have hzs : z.cells.size = i.size := by
        have := (zcells_rep (m := m) (V := V) (w := w) _ _ hzc).length
        simp at this; omega
      have hzone : ∀ q v, v ∈ (Builtin.zeroCells z.cells q).toList → v.oneCell' = true := by
        intro q v hv
        have hz1 := (zcells_rep (m := m) (V := V) (w := w) _ _ hzc).one
        simp only [Builtin.zeroCells, Array.toList_map, List.mem_map] at hv
        obtain ⟨j, hj, rfl⟩ := hv
        have hpos : 0 < z.cells.size := by
          rcases Nat.eq_zero_or_pos z.cells.size with h0 | h0
          · simp [h0] at hj
          · exact h0
        have hlt : j % z.cells.size < z.cells.size := Nat.mod_lt _ hpos
        rw [getElem!_pos z.cells _ hlt]
        exact hz1 _ (by simp)
      -- what is appended, now and behind a draw
      obtain ⟨ay, capy, cs, hvy, hcapy, hps, hread⟩ := rows_read (P := P) M hy hsrc hall
      have hcl : cs.length = src.length * i.size := by rw [hps.length, flat_length hall]
      have hnew := hread src.length (Nat.le_refl _)
      rw [List.take_of_length_le (by omega)] at hnew
      have hlen : (Builtin.lenOf (ρ y)).run P w = .ok src.length w := by rw [hvy]; exact lenOf_run _ _ _ _
      have M1 : MRel G V0 L0 w0 U V m h w.drew := M.same rfl rfl rfl rfl
      have hy1 : TRep m V w.drew (ρ y) ty := hy.mono (fun _ _ h => h) (fun _ h => h) (drew_kept w)
      obtain ⟨ay1, capy1, cs1, _, _, hps1, hread1⟩ := rows_read (P := P) M1 hy1 hsrc hall
      have hcl1 : cs1.length = src.length * i.size := by rw [hps1.length, flat_length hall]
      have hnewd := hread1 src.length (Nat.le_refl _)
      rw [List.take_of_length_le (by omega)] at hnewd
      rw [hsz, hby] at hd
      unfold appendTo at hd
      split at hd
      · -- a nil slice
        generalize hv : ρ x = v at hx
        cases hx with | c hx => cases hx with
        | nilS =>
          unfold appendNil at hd
          by_cases h0 : src.length = 0
          · split at hd
            · rename_i hb
              cases hd
              have hsn : src = [] := List.length_eq_zero_iff.1 h0
              let i0 : KI := ⟨none, 0, i.size, 0⟩
              have hk0 : m ⟨s, g⟩ = none := by
                cases e : m ⟨s, g⟩ with
                | none => rfl
                | some i => exact absurd (M.gen _ i e) hug
              obtain ⟨M2, hx2⟩ := (M.used (U' := fun x => U x ∨ x = g) fun _ h => .inl h).adopt (k := ⟨s, g⟩) (i := i0) (blk := .arr true i.size []) (.inr rfl) hk0 (.nil rfl rfl rfl) rfl (fun r hr => by simp [i0] at hr)
              refine ⟨_, .slice none 0 0, w, V, addK m ⟨s, g⟩ i0, lift ?_, .inl rfl, ?_, by rw [hsn]; simpa [putH] using M2, hx2, fun _ h => h, ⟨fun _ _ => rfl⟩⟩
              · rw [h0] at hlen hnew
                rw [hv]
                simp [Builtin.append_, run_underlying ht, run_underlying hu, run_sizeOf' hi, hlen, hnew]
              · have : ARep (addK m ⟨s, g⟩ i0) V w (.slice none 0 (i0.cap - 0)) (.ref ⟨s, g⟩ 0 0) :=
                  .ref (i := i0) (by simp [addK]) (by simp [i0]) (fun hlt => by simp [i0] at hlt)
                rw [h0]
                exact .c (by simpa [i0] using this)
            · cases hd
          · split at hd
            · rename_i hb
              cases hd
              obtain ⟨nc, hnc, hrun⟩ := append_grow (P := P) (w := w) (ty := o.type) (base := none) (n := 0) (cap := 0) ht hi hz hu hni hlen (by omega) (by simpa using hb.1) (by simpa using hb.2)
                (old := #[]) (by simp [Builtin.firstCells]) hnewd
              obtain ⟨m', M', hx', hkp, hrep⟩ := newRows (s := s) (t := e) (arr := #[] ++ cs1.toArray ++ Builtin.zeroCells z.cells (nc - (0 + src.length))) M1 hug (cap := nc) (W := i.size)
                (hps1.first (rest := (Builtin.zeroCells z.cells (nc - (0 + src.length))).toList) (by simp)) hall
                (by simp [zeroCells_size, hzs, hcl1]; rw [← Nat.add_mul]; exact Nat.mul_le_mul_right _ (by omega))
                (by
                  intro v hv
                  simp only [Array.empty_append, Array.toList_append, List.mem_append] at hv
                  rcases hv with hv | hv
                  · exact hps1.one v (by simpa using hv)
                  · exact hzone _ v hv) (by omega)
              refine ⟨_, _, _, V, m', lift ?_, .inl rfl, hrep src.length (by omega), by simpa [putH] using M', hx', fun _ h => h, ⟨fun b hb => (hkp.same b hb)⟩⟩
              rw [hv, hrun]
              simp
            · cases hd
      · -- a block of one's own
        rename_i k r n
        split at hd
        · rename_i W l hh
          generalize hv : ρ x = v at hx
          cases hx with | c hx => cases hx with
          | @ref _ ki a _ _ hm hrc hae =>
            obtain ⟨ki', hm', hrep⟩ := M.heap _ _ hh
            rw [hm] at hm'; cases hm'
            unfold appendRef at hd
            split at hd
            · rename_i hwl
              obtain ⟨rfl, hrn⟩ := hwl
              have hkw : ki.w = i.size := by cases hrep <;> assumption
              have hcapl : l.length ≤ ki.cap := by cases hrep with
                | nil _ _ _ => simp
                | arr _ _ _ _ hc _ => exact hc
              have hrows : ∃ b arr elem, (ki.rb = some b ∧ w.heap[b]? = some (.cells arr elem (0, 0)) ∧ Room arr ki.base ki.cap i.size ∧ RowsRep V w arr ki.base i.size l) ∨ (ki.cap = 0 ∧ l = []) := by
                cases hrep with
                | nil _ _ hc => exact ⟨0, #[], 0, .inr ⟨hc, rfl⟩⟩
                | arr _ hb hh hs _ hr => exact ⟨_, _, _, .inl ⟨hb, hh, hs, hr⟩⟩
              obtain ⟨b, arr, elem, hrows⟩ := hrows
              by_cases hroom : src.length = 0
              · -- nothing is appended
                have hsn : src = [] := List.length_eq_zero_iff.1 hroom
                by_cases hat : r + n < l.length ∨ 0 < r
                rotate_left
                · -- the block goes on under another name
                  have hr0 : r = 0 := by omega
                  have hnl : n = l.length := by omega
                  subst hr0
                  rw [if_neg (fun h => hat h.1)] at hd
                  split at hd
                  · cases hd
                    have e1 : (l.drop 0).take n ++ src = l := by rw [hsn, hnl]; simp
                    have hcs : cs = [] := by rw [← List.length_eq_zero_iff, hcl, hroom]; simp
                    obtain ⟨M2, hx2⟩ := M.rekey (k := k) (k' := ⟨s, g⟩) (i' := ki) (blk := .arr true i.size l) hug hh rfl hm rfl (match hrep with
                      | .nil hw hb hc => .nil hw hb hc
                      | .arr hw hb hh hs hc hr => .arr hw hb hh hs hc hr) rfl
                    refine ⟨_, .slice a n (ki.cap - 0), w, V, _, lift ?_, .inl rfl, ?_, by rw [e1]; simpa [putH] using M2, hx2, fun _ h => h, ⟨fun _ _ => rfl⟩⟩
                    · rw [hroom] at hlen hnew
                      have hfit : n ≤ ki.cap := by omega
                      rw [hv]
                      cases a <;> simp [Builtin.append_, run_underlying ht, run_underlying hu, run_sizeOf' hi, hlen, hnew, hfit, hcs, storeCells]
                    · rw [hroom]
                      exact .c (.ref (i := ki) (by simp [addK]) hrc hae)
                  · cases hd
                rw [if_pos ⟨hat, by omega⟩] at hd
                cases hd
                have e1 : setAt l (r + n) src = l := by rw [hsn]; simp [setAt]
                have e2 : updH h k (some (.arr true i.size (setAt l (r + n) src))) = h := by
                  rw [e1]; funext j; unfold updH; split
                  · rename_i e; rw [e, hh]
                  · rfl
                have hcs : cs = [] := by rw [← List.length_eq_zero_iff, hcl, hroom]; simp
                refine ⟨_, .slice a n (ki.cap - r), w, V, m, lift ?_, .inl rfl, ?_, by simpa only [putH, e2] using M.used fun _ h => .inl h, fun _ _ h => h, fun _ h => h, ⟨fun _ _ => rfl⟩⟩
                · rw [hroom] at hlen hnew
                  have hfit : n ≤ ki.cap - r := by omega
                  rw [hv]
                  cases a <;> simp [Builtin.append_, run_underlying ht, run_underlying hu, run_sizeOf' hi, hlen, hnew, hfit, hcs, storeCells]
                · rw [hroom]; exact .c (.ref hm hrc hae)
              · by_cases hin : r + n + src.length ≤ l.length
                · -- over known rows
                  rw [if_pos ⟨by omega, hin⟩] at hd
                  cases hd
                  rcases hrows with ⟨hb, hheap, hs, hr⟩ | ⟨hc0, hl0⟩
                  · have haddr := hae (by omega)
                    rw [hb, hkw] at haddr
                    simp only [Option.map_some] at haddr
                    have hsle := hs.le
                    have hle : ki.base + r * i.size + n * i.size + cs.toArray.size ≤ arr.size := by
                      have : (r + n + src.length) * i.size ≤ ki.cap * i.size := Nat.mul_le_mul_right _ (by omega)
                      rw [Nat.add_mul, Nat.add_mul] at this
                      simp [hcl]; omega
                    have hrun := append_fits (P := P) (w := w) (ty := o.type) (o' := ki.base + r * i.size) (n := n) (cap := ki.cap - r) ht hi hu hni hlen (by omega) hnew hheap hle (by simpa using hps.one)
                    obtain ⟨hcells, hallw⟩ := hr.flat
                    have hkp : Kept V w (w.setRow b (setAt arr.toList (ki.base + r * i.size + n * i.size) cs).toArray) := kept_setRow (M.mine k _ ki b hh rfl hm hb).1 _
                    have hlenf : l.flatten.length = l.length * i.size := flat_length hallw
                    have hcl' : src.flatten.length = src.length * i.size := flat_length hall
                    have hmul : (r + n + src.length) * i.size ≤ l.length * i.size := Nat.mul_le_mul_right _ hin
                    have hmul2 : l.length * i.size ≤ ki.cap * i.size := Nat.mul_le_mul_right _ hcapl
                    rw [Nat.add_mul] at hmul
                    have hnewcells := hcells.setAt (c := (r + n) * i.size) hps (by omega) (by omega)
                    rw [← flat_setAt _ hallw hall, show ki.base + (r + n) * i.size = ki.base + r * i.size + n * i.size by rw [Nat.add_mul]; omega] at hnewcells
                    obtain ⟨M', _⟩ := M.write hh rfl hm hb (setAt arr.toList (ki.base + r * i.size + n * i.size) cs).toArray (blk := .arr true i.size (setAt l (r + n) src))
                      (.arr hkw hb (setRow_heap w b arr _ elem _ hheap) (hs.setAt (by simpa using hle) hps.one) (by rw [setAt_length _ _ _ hin]; exact hcapl)
                        ((RowsRep.of_flat hnewcells (allW_setAt _ hallw hall)).mono (fun _ h => h) hkp)) rfl
                    refine ⟨_, _, _, V, m, lift (by rw [hv, haddr]; exact hrun), .inl rfl, ?_, by simpa [putH] using M'.used fun _ h => .inl h, fun _ _ h => h, fun _ h => h, hkp⟩
                    exact .c (.ref hm (by omega) fun _ => by rw [hb, hkw]; rfl)
                  · have hl00 : l.length = 0 := by rw [hl0]; rfl
                    omega
                · rw [if_neg (fun h => hin h.2)] at hd
                  split at hd
                  · rename_i hbd
                    cases hd
                    have hgk : k.g ≠ g := fun e => hug (e ▸ M.gen k ki hm)
                    have hsub : allW i.size ((l.drop r).take n) = true ∧ ((l.drop r).take n).length = n := by
                      refine ⟨?_, by rw [List.length_take, List.length_drop]; omega⟩
                      rcases hrows with ⟨_, _, _, hr⟩ | ⟨_, hl0⟩
                      · exact allW_take _ (allW_drop _ hr.flat.2)
                      · rw [hl0]; simp [allW]
                    obtain ⟨hsubW, hsubl⟩ := hsub
                    by_cases hfit : n + src.length ≤ ki.cap - r
                    · -- there is room
                      rcases hrows with ⟨hb, hheap, hs, hr⟩ | ⟨hc0, hl0⟩
                      · have haddr := hae (by omega)
                        rw [hb, hkw] at haddr
                        simp only [Option.map_some] at haddr
                        have hcapm : (r + n + src.length) * i.size ≤ ki.cap * i.size := Nat.mul_le_mul_right _ (by omega)
                        rw [Nat.add_mul, Nat.add_mul] at hcapm
                        have hsle := hs.le
                        have hle : ki.base + r * i.size + n * i.size + cs.toArray.size ≤ arr.size := by simp [hcl]; omega
                        have hrun := append_fits (P := P) (w := w) (ty := o.type) (o' := ki.base + r * i.size) (n := n) (cap := ki.cap - r) ht hi hu hni hlen hfit hnew hheap hle (by simpa using hps.one)
                        obtain ⟨hcells, hallw⟩ := hr.flat
                        have hkp : Kept V w (w.setRow b (setAt arr.toList (ki.base + r * i.size + n * i.size) cs).toArray) := kept_setRow (M.mine k _ ki b hh rfl hm hb).1 _
                        have hsz2 : (setAt arr.toList (ki.base + r * i.size + n * i.size) cs).toArray.size = arr.size := by
                          rw [List.size_toArray, setAt_length _ _ _ (by simpa using hle)]; simp
                        -- the rows that go on
                        have hnewcells : CellsRep V w (setAt arr.toList (ki.base + r * i.size + n * i.size) cs).toArray (ki.base + r * i.size) (((l.drop r).take n ++ src).flatten) := by
                          rw [List.flatten_append, CellsRep.append]
                          have hfl : ((l.drop r).take n).flatten.length = n * i.size := by rw [flat_length hsubW, hsubl]
                          constructor
                          · intro j c hj
                            have hjl : j < n * i.size := by rw [← hfl]; exact (List.getElem?_eq_some_iff.1 hj).1
                            rw [flat_take _ (allW_drop _ hallw), flat_drop _ hallw, List.getElem?_take, if_pos hjl, List.getElem?_drop] at hj
                            obtain ⟨v, a1, a2⟩ := hcells _ _ hj
                            refine ⟨v, ?_, a2⟩
                            rw [List.getElem?_toArray, setAt_get _ _ _ _ (by simpa using hle), if_pos (by omega)]
                            rw [show ki.base + r * i.size + j = ki.base + (r * i.size + j) by omega]
                            simpa using a1
                          · rw [hfl]
                            exact hps.cells fun j x hj => by
                              have hjl := (List.getElem?_eq_some_iff.1 hj).1
                              rw [List.getElem?_toArray, setAt_get _ _ _ _ (by simpa using hle), if_neg (by omega), if_pos (by omega)]
                              rw [show ki.base + r * i.size + n * i.size + j - (ki.base + r * i.size + n * i.size) = j by omega]
                              exact hj
                        have hnewrows := (RowsRep.of_flat hnewcells (allW_append hsubW hall)).mono (fun _ h => h) hkp
                        obtain ⟨M', _⟩ := M.write hh rfl hm hb (setAt arr.toList (ki.base + r * i.size + n * i.size) cs).toArray (blk := .arr true i.size [])
                          (.arr hkw hb (setRow_heap w b arr _ elem _ hheap) (hs.setAt (by simpa using hle) hps.one) (by simp) (fun i row hi => by simp at hi)) rfl
                        let ki2 : KI := ⟨some b, ki.base + r * i.size, i.size, ki.cap - r⟩
                        have hkn : updH h k (some (.arr true i.size [])) k = some (.arr true i.size []) := by simp [updH]
                        obtain ⟨M2, hx2⟩ := M'.rekey (k := k) (k' := ⟨s, g⟩) (i' := ki2) (blk := .arr true i.size ((l.drop r).take n ++ src)) hug hkn rfl hm (by rw [hb])
                          (.arr rfl rfl (setRow_heap w b arr _ elem _ hheap) ⟨by
                            rw [hsz2]
                            have : (ki.cap - r) * i.size = ki.cap * i.size - r * i.size := by rw [Nat.sub_mul]
                            simp only [ki2]; omega, by simp only [ki2]; omega, (hs.setAt (by simpa using hle) hps.one).one⟩ (by rw [List.length_append, hsubl]; exact hfit) hnewrows) rfl
                        have hheq : updH (updH (updH h k (some (.arr true i.size []))) k none) ⟨s, g⟩ (some (.arr true i.size ((l.drop r).take n ++ src))) =
                            updH (updH h k none) ⟨s, g⟩ (some (.arr true i.size ((l.drop r).take n ++ src))) := by
                          funext j; simp only [updH]; split <;> first | rfl | (split <;> rfl)
                        rw [hheq] at M2
                        refine ⟨_, _, _, V, _, lift (by rw [hv, haddr]; exact hrun), .inl rfl, ?_, by simpa [putH] using M2, hx2, fun _ h => h, hkp⟩
                        have : ARep (addK m ⟨s, g⟩ ki2) V (w.setRow b (setAt arr.toList (ki.base + r * i.size + n * i.size) cs).toArray)
                            (.slice (some ⟨b, ki.base + r * i.size, none⟩) (n + src.length) (ki2.cap - 0)) (.ref ⟨s, g⟩ 0 (n + src.length)) :=
                          .ref (i := ki2) (by simp [addK]) (by simp only [ki2]; omega) (fun _ => by simp [ki2])
                        exact .c (by simpa [ki2] using this)
                      · omega
                    · -- it grows
                      have hx1 : TRep m V w.drew (ρ x) (.c (.ref k r n)) := by rw [hv]; exact .c ((ARep.ref hm hrc hae).mono (fun _ _ h => h) (fun _ h => h) (drew_kept w))
                      have hro : rowsOf h (.c (.ref k r n)) = some ((l.drop r).take n, [k]) := by
                        simp only [rowsOf, hh, if_pos hrn]
                      obtain ⟨ax, capx, cs0, hvx, _, hps0, hread0⟩ := rows_read (P := P) M1 hx1 hro hsubW
                      have hcl0 : cs0.length = n * i.size := by rw [hps0.length, flat_length hsubW, hsubl]
                      have hold := hread0 n (by omega)
                      rw [List.take_of_length_le (by omega), hv] at hold
                      obtain ⟨nc, hnc, hrun⟩ := append_grow (P := P) (w := w) (ty := o.type) (base := a) (n := n) (cap := ki.cap - r) ht hi hz hu hni hlen (by omega) hbd.1 hbd.2 hold hnewd
                      obtain ⟨m', M', hx', hkp, hrep'⟩ := newRows (s := s) (t := e) (arr := cs0.toArray ++ cs1.toArray ++ Builtin.zeroCells z.cells (nc - (n + src.length))) (M1.drop k) hug (cap := nc) (W := i.size)
                        (rs := (l.drop r).take n ++ src)
                        (by rw [List.flatten_append]; exact (hps0.append hps1).first (rest := (Builtin.zeroCells z.cells (nc - (n + src.length))).toList) (by simp)) (allW_append hsubW hall)
                        (by simp [zeroCells_size, hzs, hcl1, hcl0]; rw [← Nat.add_mul, ← Nat.add_mul]; exact Nat.mul_le_mul_right _ (by omega))
                        (by
                          intro v hv
                          simp only [Array.toList_append, List.mem_append] at hv
                          rcases hv with (hv | hv) | hv
                          · exact hps0.one v (by simpa using hv)
                          · exact hps1.one v (by simpa using hv)
                          · exact hzone _ v hv) (by rw [List.length_append, hsubl]; omega)
                      refine ⟨_, _, _, V, m', lift (by rw [hv]; exact hrun), .inl rfl, hrep' _ (by omega), by simpa [putH] using M', hx', fun _ h => h, ⟨fun b hb => (hkp.same b hb)⟩⟩
                  · cases hd
            · cases hd
        · cases hd
      · cases hd
    · cases hd
  · cases hd

end
end Go.Sh
end
section
namespace Go.Sh

section
variable {P : Program} {G : Glob} {V0 : Nat → Prop} {L0 : List Nat} {w0 : World} {U V : Nat → Prop} {m : KM} {h : Key → Option Blk} {w : World} {ρ : Operand → Value} {o : Oper} {s g : Nat} {d : Dl}

theorem setAt_nil {α : Type} (l : List α) (c : Nat) : setAt l c [] = l := by simp [setAt]

theorem updH_self {k : Key} {b : Blk} (hk : h k = some b) : updH h k (some b) = h := by
  funext j; unfold updH; split
  · rename_i e; rw [e, hk]
  · rfl

theorem copy_run {t u ty e : TypeId} {i : TypeInfo} {vy : Value} {b o' n mm cap : Nat} {new arr : Array Value} {elem : TypeId} (ht : P.underlying t = some (.slice e)) (hi : P.info? e = some i)
    (hlen : (Builtin.lenOf vy).run P w = .ok mm w) (hnew : (Builtin.firstCells i.size (min mm n) vy).run P w = .ok new w) (hh : w.heap[b]? = some (.cells arr elem (0, 0))) (hle : o' + new.size ≤ arr.size)
    (h1 : ∀ x ∈ new.toList, x.oneCell' = true) :
    (Builtin.copy_ #[t, u] ty #[.slice (some ⟨b, o', none⟩) n cap, vy]).run P w = .ok (.int .i64 (min mm n : Nat)) (w.setRow b (setAt arr.toList o' new.toList).toArray) := by
  have := run_storeCells_at P b o' elem new.toList 0 arr w hh (by simpa using hle) h1
  rw [Nat.add_zero, List.append_assoc] at this
  have e2 : (storeCells ⟨b, o', none⟩ new.toList).run P w = .ok () (w.setRow b (setAt arr.toList o' new.toList).toArray) := this
  have hn' : (Builtin.firstCells i.size (mm.min n) vy).run P w = .ok new w := hnew
  simp [Builtin.copy_, run_underlying ht, run_sizeOf' hi, hlen, hn', e2, goInt]

theorem copy_run0 {t u ty e : TypeId} {i : TypeInfo} {vy : Value} {a : Option Addr} {n mm cap : Nat} (ht : P.underlying t = some (.slice e)) (hi : P.info? e = some i)
    (hlen : (Builtin.lenOf vy).run P w = .ok mm w) (hnew : (Builtin.firstCells i.size 0 vy).run P w = .ok #[] w) (h0 : min mm n = 0) :
    (Builtin.copy_ #[t, u] ty #[.slice a n cap, vy]).run P w = .ok (.int .i64 0) w := by
  have h0' : mm.min n = 0 := h0
  cases a <;> simp [Builtin.copy_, run_underlying ht, run_sizeOf' hi, hlen, h0', hnew, goInt, storeCells]

theorem copy_sound (M : MRel G V0 L0 w0 U V m h w) {t u : TypeId} {x y : Operand} {tx ty : TV} (ho : o.op = .call { callee := .builtin .copy, args := #[x, y], argTypes := #[t, u] })
    (hx : TRep m V w (ρ x) tx) (hy : TRep m V w (ρ y) ty) (hd : copyV P (ti P t) h tx ty = some d) : Does P G V0 L0 w0 U V m h w (execOp ρ o) g d := by
  have lift : ∀ {v w'}, (Builtin.copy_ #[t, u] o.type #[ρ x, ρ y]).run P w = .ok v w' → (execOp ρ o).run P w = .ok (.value v) w' := by
    intro v w' e
    simp [execOp, ho, resolve, invoke, builtin, e]
  unfold copyV at hd
  split at hd
  · rename_i e hk
    have ht := kind_slice hk
    simp only [Option.bind_eq_some_iff] at hd
    obtain ⟨⟨src, ks⟩, hsrc, hd⟩ := hd
    simp only at hd
    split at hd
    · rename_i hc
      obtain ⟨hok, hall⟩ := hc
      obtain ⟨i, dd, hi, _, hsz, _⟩ := ti_ok hok
      rw [hsz] at hall hd
      obtain ⟨ay, capy, cs, hvy, hcapy, hps, hread⟩ := rows_read (P := P) M hy hsrc hall
      have hcl : cs.length = src.length * i.size := by rw [hps.length, flat_length hall]
      have hlen : (Builtin.lenOf (ρ y)).run P w = .ok src.length w := by rw [hvy]; exact lenOf_run _ _ _ _
      have hnone : (Builtin.firstCells i.size 0 (ρ y)).run P w = .ok #[] w := by simpa using hread 0 (by omega)
      unfold copyTo at hd
      split at hd
      · cases hd
        generalize hv : ρ x = v at hx
        cases hx with | c hx => cases hx with
        | nilS => exact Does.pure M (lift (by rw [hv]; exact copy_run0 ht hi hlen hnone (by simp))) .int
      · rename_i k r n
        split at hd
        · rename_i W l hh
          split at hd
          · rename_i hwl
            obtain ⟨rfl, hrn⟩ := hwl
            cases hd
            generalize hv : ρ x = v at hx
            cases hx with | c hx => cases hx with
            | @ref _ ki a _ _ hm hrc hae =>
              obtain ⟨ki', hm', hrep⟩ := M.heap _ _ hh
              rw [hm] at hm'; cases hm'
              by_cases h0 : min src.length n = 0
              · have e1 : src.take n = [] := by
                  rw [← List.length_eq_zero_iff, List.length_take]; omega
                rw [e1, setAt_nil, h0]
                refine ⟨_, .int .i64 0, w, V, m, lift (by rw [hv]; exact copy_run0 ht hi hlen hnone h0), .inl rfl, .int, by simpa only [putH, updH_self hh] using M.used fun _ h => .inl h, fun _ _ h => h, fun _ h => h, ⟨fun _ _ => rfl⟩⟩
              · cases hrep with
                | nil => simp at hrn; omega
                | @arr _ _ _ b arr elem hkw hb hheap hs hcap hr =>
                  have haddr := hae (by omega)
                  rw [hb, hkw] at haddr
                  simp only [Option.map_some] at haddr
                  have hnew := hread (min src.length n) (Nat.min_le_left _ _)
                  have htk : (src.take n) = src.take (min src.length n) := by rw [Nat.min_comm, ← List.take_take, List.take_length]
                  have hpt : PsRep V w (cs.take (min src.length n * i.size)) (src.take n).flatten := by
                    rw [htk, flat_take _ hall]; exact hps.take _
                  have hallt : allW i.size (src.take n) = true := allW_take _ hall
                  have hpl : (cs.take (min src.length n * i.size)).length = min src.length n * i.size := by
                    rw [List.length_take, hcl]; exact Nat.min_eq_left (Nat.mul_le_mul_right _ (Nat.min_le_left _ _))
                  obtain ⟨hcells, hallw⟩ := hr.flat
                  have hlf := flat_length hallw
                  have hm1 : (r + min src.length n) * i.size ≤ l.length * i.size := Nat.mul_le_mul_right _ (by omega)
                  have hm2 : l.length * i.size ≤ ki.cap * i.size := Nat.mul_le_mul_right _ hcap
                  rw [Nat.add_mul] at hm1
                  have hsle := hs.le
                  have hle : ki.base + r * i.size + (cs.take (min src.length n * i.size)).toArray.size ≤ arr.size := by
                    rw [List.size_toArray, hpl]; omega
                  have hrun := copy_run (P := P) (w := w) (u := u) (ty := o.type) (o' := ki.base + r * i.size) (n := n) (cap := ki.cap - r) ht hi hlen hnew hheap hle (by simpa using hpt.one)
                  have hkp : Kept V w (w.setRow b (setAt arr.toList (ki.base + r * i.size) (cs.take (min src.length n * i.size))).toArray) := kept_setRow (M.mine k _ ki b hh rfl hm hb).1 _
                  have hnc := hcells.setAt (c := r * i.size) hpt (by rw [flat_length hallt, List.length_take, Nat.min_comm, hlf]; omega) (by omega)
                  rw [← flat_setAt _ hallw hallt] at hnc
                  have hsl : (setAt l r (src.take n)).length = l.length := setAt_length _ _ _ (by rw [List.length_take]; omega)
                  obtain ⟨M', _⟩ := M.write hh rfl hm hb (setAt arr.toList (ki.base + r * i.size) (cs.take (min src.length n * i.size))).toArray (blk := .arr true i.size (setAt l r (src.take n)))
                    (.arr hkw hb (setRow_heap w b arr _ elem _ hheap) (hs.setAt (by simpa using hle) hpt.one) (by rw [hsl]; exact hcap)
                      ((RowsRep.of_flat hnc (allW_setAt _ hallw hallt)).mono (fun _ h => h) hkp)) rfl
                  exact ⟨_, _, _, V, m, lift (by rw [hv, haddr]; exact hrun), .inl rfl, .int, by simpa [putH] using M'.used fun _ h => .inl h, fun _ _ h => h, fun _ h => h, hkp⟩
          · cases hd
        · cases hd
      · rename_i k c n W
        split at hd
        · rename_i l hh
          split at hd
          · rename_i hwl
            obtain ⟨rfl, hrn⟩ := hwl
            cases hd
            generalize hv : ρ x = v at hx
            cases hx with | c hx => cases hx with
            | @cref _ ki b a _ _ _ cap hm hb hn hae =>
              obtain ⟨ki', hm', hrep⟩ := M.heap _ _ hh
              rw [hm] at hm'; cases hm'
              by_cases h0 : min src.length n = 0
              · have e1 : src.take n = [] := by
                  rw [← List.length_eq_zero_iff, List.length_take]; omega
                rw [e1, h0]
                simp only [List.flatten_nil, List.map_nil, setAt_nil]
                refine ⟨_, .int .i64 0, w, V, m, lift (by rw [hv]; exact copy_run0 ht hi hlen hnone h0), .inl rfl, .int, by simpa only [putH, updH_self hh] using M.used fun _ h => .inl h, fun _ _ h => h, fun _ h => h, ⟨fun _ _ => rfl⟩⟩
              · cases hrep with
                | @box _ _ b' arr elem hb0 hb' hheap hl =>
                  rw [hb] at hb'; cases hb'
                  have haddr := hae (by omega)
                  rw [hb0, Nat.zero_add] at haddr
                  have hnew := hread (min src.length n) (Nat.min_le_left _ _)
                  have htk : (src.take n) = src.take (min src.length n) := by rw [Nat.min_comm, ← List.take_take, List.take_length]
                  have hpt : PsRep V w (cs.take (min src.length n * i.size)) (src.take n).flatten := by
                    rw [htk, flat_take _ hall]; exact hps.take _
                  have hallt : allW i.size (src.take n) = true := allW_take _ hall
                  have hpl : (cs.take (min src.length n * i.size)).length = min src.length n * i.size := by
                    rw [List.length_take, hcl]; exact Nat.min_eq_left (Nat.mul_le_mul_right _ (Nat.min_le_left _ _))
                  have hlen' := hl.length
                  simp only [Array.length_toList] at hlen'
                  have hm1 : min src.length n * i.size ≤ n * i.size := Nat.mul_le_mul_right _ (Nat.min_le_right _ _)
                  have hle : c + (cs.take (min src.length n * i.size)).toArray.size ≤ arr.size := by
                    rw [List.size_toArray, hpl]; omega
                  have hrun := copy_run (P := P) (w := w) (u := u) (ty := o.type) (o' := c) (n := n) (cap := cap) ht hi hlen hnew hheap hle (by simpa using hpt.one)
                  have hkp : Kept V w (w.setRow b (setAt arr.toList c (cs.take (min src.length n * i.size))).toArray) := kept_setRow (M.mine k _ ki b hh rfl hm hb).1 _
                  have hnl : LRep m V w (setAt arr.toList c (cs.take (min src.length n * i.size))) (setAt l c ((src.take n).flatten.map .p)) := by
                    have := hl.setAt (hpt.up (m := m)) c
                    rwa [List.append_assoc] at this
                  obtain ⟨M', _⟩ := M.write hh rfl hm hb (setAt arr.toList c (cs.take (min src.length n * i.size))).toArray (blk := .box true (setAt l c ((src.take n).flatten.map .p)))
                    (.box hb0 hb (setRow_heap w b arr _ elem _ hheap) (by simpa using hnl.mono (fun _ _ h => h) (fun _ h => h) hkp)) rfl
                  exact ⟨_, _, _, V, m, lift (by rw [hv, haddr]; exact hrun), .inl rfl, .int, by simpa [putH] using M'.used fun _ h => .inl h, fun _ _ h => h, fun _ h => h, hkp⟩
          · cases hd
        · cases hd
      · cases hd
    · cases hd
  · cases hd

theorem zero_rows {z : Value} {zl : List PV} (hp : PsRep V w z.cells.toList zl) : ∀ (n : Nat), CellsRep V w ((Array.range (n * zl.length)).map fun i => z.cells[i % z.cells.size]!) 0 (List.replicate n zl).flatten ∧ allW zl.length (List.replicate n zl) = true := by
  intro n
  have hl := hp.length
  simp only [Array.length_toList] at hl
  have hall : allW zl.length (List.replicate n zl) = true := by
    unfold allW; rw [List.all_eq_true]; intro x hx; simp [List.eq_of_mem_replicate hx]
  refine ⟨?_, hall⟩
  have hr : RowsRep V w ((Array.range (n * zl.length)).map fun i => z.cells[i % z.cells.size]!) 0 zl.length (List.replicate n zl) := by
    intro i row hi
    rw [List.getElem?_replicate] at hi
    split at hi
    · rename_i hin
      cases hi
      refine ⟨rfl, fun j c hj => ?_⟩
      obtain ⟨v, a, b⟩ := hp.get j c hj
      have hjl := (List.getElem?_eq_some_iff.1 hj).1
      have hlt : i * zl.length + j < n * zl.length := by
        have : (i + 1) * zl.length ≤ n * zl.length := Nat.mul_le_mul_right _ hin
        rw [Nat.add_mul, Nat.one_mul] at this; omega
      refine ⟨v, ?_, b⟩
      rw [Nat.zero_add, Array.getElem?_map, Array.getElem?_range, if_pos hlt]
      simp only [Option.map_some, Option.some.injEq]
      have hmod : (i * zl.length + j) % z.cells.size = j := by
        rw [hl, Nat.mul_comm, Nat.mul_add_mod, Nat.mod_eq_of_lt hjl]
      rw [hmod]
      have hv : z.cells[j]? = some v := by simpa using a
      rw [getElem!_def, hv]
    · cases hi
  exact hr.flat.1

theorem zero_mem {z : Array Value} {q : Nat} {v : Value} (hv : v ∈ ((Array.range (q * z.size)).map fun i => z[i % z.size]!).toList) : v ∈ z.toList := by
  simp only [Array.toList_map, List.mem_map] at hv
  obtain ⟨j, hj, rfl⟩ := hv
  have hpos : 0 < z.size := by
    rcases Nat.eq_zero_or_pos z.size with h0 | h0
    · simp [h0] at hj
    · exact h0
  have hlt : j % z.size < z.size := Nat.mod_lt _ hpos
  rw [getElem!_pos z _ hlt]
  simp

theorem makeSlice_sound (M : MRel G V0 L0 w0 U V m h w) (hug : ¬ U g) {t : TypeId} {x y : Operand} {tx ty : TV} (ho : o.op = .makeSlice t x y) (hx : TRep m V w (ρ x) tx) (hy : TRep m V w (ρ y) ty)
    (hd : makeSliceV P (ti P t) s g tx ty = some d) : Does P G V0 L0 w0 U V m h w (execOp ρ o) g d := by
  unfold makeSliceV at hd
  split at hd
  · rename_i e n c zl hk hn hc hz
    split at hd
    · rename_i hcond
      obtain ⟨h0, h1, h2, h3, h4, h5⟩ := hcond
      cases hd
      have ht := kind_slice hk
      rw [hk] at hz
      simp only at hz
      obtain ⟨i, z, hi, hzz, hzc⟩ := ti_zero h5 (by rw [← pureL_length _ _ hz, h4])
      obtain ⟨i', dd, hi', _, hsz, hby, _⟩ := ti_ok h5
      rw [hi] at hi'; cases hi'
      have hp : PsRep V w z.cells.toList zl := (zcells_rep (m := m) _ _ hzc).pure hz
      have hzl : zl.length = i.size := by rw [h4, hsz]
      obtain ⟨kx, hvx⟩ := hx.asInt_eq hn
      obtain ⟨ky, hvy⟩ := hy.asInt_eq hc
      have hcap := (zero_rows hp c.toNat).1
      obtain ⟨m', M', hx', hkp, hrep⟩ := newRows (s := s) (t := e) (arr := (Array.range (c.toNat * zl.length)).map fun i => z.cells[i % z.cells.size]!) M hug (cap := c.toNat) (W := zl.length)
        (rs := List.replicate n.toNat zl) (by
          intro j x hj
          refine hcap j x ?_
          have hsp : (List.replicate c.toNat zl) = List.replicate n.toNat zl ++ List.replicate (c.toNat - n.toNat) zl := by
            rw [List.replicate_append_replicate]; congr 1; omega
          rw [hsp, List.flatten_append, List.getElem?_append_left (List.getElem?_eq_some_iff.1 hj).1]
          exact hj) (zero_rows hp n.toNat).2 (by simp) (fun v hv => by rw [show zl.length = z.cells.size by have := hp.length; simp at this; omega] at hv; exact hp.one v (zero_mem hv)) (by simp; omega)
      refine ⟨_, _, _, V, m', ?_, .inl rfl, hrep n.toNat (by omega), by rw [← h4]; simpa [putH] using M', hx', fun _ h => h, hkp⟩
      have wr : ∀ q : Int, 0 ≤ q → q ≤ c → IntKind.i64.wrap q = q := by
        intro q hq0 hq1
        unfold maxRows at h3
        exact IntWalk.i64_in q ⟨by omega, by omega⟩
      have wn := wr n h0 h1
      have wc := wr c (by omega) (Int.le_refl _)
      have hb1 : ¬ ((i.bytes : Int) * c > 2 ^ 48) := by
        rw [hby, Int.mul_comm] at h2
        unfold maxRows at h2
        omega
      have hb1' : ¬ (281474976710656 < (i.bytes : Int) * c) := by simpa using hb1
      have hc0 : ¬ (c < 0) := by omega
      have hn0 : ¬ (n < 0) := by omega
      have hnc : ¬ (c < n) := by omega
      by_cases hz0 : c.toNat * i.size = 0
      · have harr : ((Array.range (c.toNat * zl.length)).map fun i => z.cells[i % z.cells.size]!) = #[] := by
          rw [hzl, hz0]; simp
        rw [harr]
        simp [execOp, ho, hvx, hvy, Instr.makeSlice, run_underlying ht, Go.asInt, asIntOf, typeInfo, hi, wn, wc, hb1', hc0, hn0, hnc, run_sizeOf' hi, newRow, newObj]
        have e0 : Array.map (fun _ : Nat => (default : Value)) (Array.range (c.toNat * i.size)) = #[] := by rw [hz0]; simp
        rw [if_pos hz0, e0]; rfl
      · rw [hzl]
        simp [execOp, ho, hvx, hvy, Instr.makeSlice, run_underlying ht, Go.asInt, asIntOf, typeInfo, hi, wn, wc, hb1', hc0, hn0, hnc, run_sizeOf' hi, newRow, newObj]
        rw [if_neg hz0, run_zero hi hzz]; rfl
    · cases hd
  · cases hd

/-- The rows of a slice literal. -/
theorem fill_rows {W : Nat} : ∀ (ps : List (Nat × Value)) (tps : List (Nat × TV)) (cells : Array Value) (l l' : List (List PV)), ps.length = tps.length →
    (∀ (i : Nat) p tp, ps[i]? = some p → tps[i]? = some tp → p.1 = tp.1 ∧ TRep m V w p.2 tp.2) → CellsRep V w cells 0 l.flatten → allW W l = true → l.length * W ≤ cells.size → buildRows W l tps = some l' →
    ∃ cells', Instr.fill (fun i => some (i * W, W)) cells ps = some cells' ∧ CellsRep V w cells' 0 l'.flatten ∧ allW W l' = true ∧ cells'.size = cells.size ∧ l'.length = l.length ∧ ((∀ v ∈ cells.toList, v.oneCell' = true) → ∀ v ∈ cells'.toList, v.oneCell' = true)
  | [], [], cells, l, l', _, _, hl, ha, _, hb => by simp [buildRows] at hb; subst hb; exact ⟨cells, rfl, hl, ha, rfl, rfl, fun h => h⟩
  | [], _ :: _, _, _, _, hlen, _, _, _, _, _ => by simp at hlen
  | _ :: _, [], _, _, _, hlen, _, _, _, _, _ => by simp at hlen
  | (i, v) :: ps, (j, t) :: tps, cells, l, l', hlen, hr, hl, ha, hs, hb => by
    obtain ⟨hij, hv⟩ := hr 0 _ _ rfl rfl
    simp only at hij hv
    subst hij
    unfold buildRows at hb
    split at hb
    · rename_i row hc
      split at hb
      · rename_i hcond
        simp only [Option.bind_eq_some_iff] at hc
        obtain ⟨cs, hcs, hpure⟩ := hc
        have hp := (hv.cells hcs).pure hpure
        have hpl := hp.length
        simp only [Array.length_toList] at hpl
        have hb1 : i * W + W ≤ l.length * W := by
          have : (i + 1) * W ≤ l.length * W := Nat.mul_le_mul_right _ hcond.2
          rwa [Nat.add_mul, Nat.one_mul] at this
        have hset : l.set i row = setAt l i [row] := by
          apply List.ext_getElem?
          intro q
          rw [setAt_get _ _ _ _ (by simp; omega), List.getElem?_set]
          by_cases h1 : i = q
          · subst h1; simp [hcond.2]
          · rw [if_neg h1]
            by_cases h2 : q < i
            · rw [if_pos h2]
            · rw [if_neg h2, if_neg (by simp; omega)]
        have hrow : allW W [row] = true := by simp [allW, hcond.1]
        have hnc := hl.setAt (c := i * W) hp (by rw [flat_length ha]; omega) (by rw [flat_length ha]; omega)
        rw [Nat.zero_add] at hnc
        have hfl : setAt l.flatten (i * W) row = (l.set i row).flatten := by rw [hset, flat_setAt _ ha hrow]; simp
        rw [hfl] at hnc
        have key : (v.cells.zipIdx.foldl (fun (cs : Array Value) (c, j) => cs.setIfInBounds (i * W + j) c) cells).toList = setAt cells.toList (i * W) v.cells.toList := by
          have := fold_set (i * W) v.cells.toList 0 cells (by simp; omega)
          simp only [Nat.add_zero] at this
          rw [List.append_assoc] at this
          rw [← Array.foldl_toList, Array.toList_zipIdx]
          exact this
        have key' : (v.cells.zipIdx.foldl (fun (cs : Array Value) (c, j) => cs.setIfInBounds (i * W + j) c) cells) = (setAt cells.toList (i * W) v.cells.toList).toArray := by
          rw [← key]
        have hsz : (setAt cells.toList (i * W) v.cells.toList).toArray.size = cells.size := by
          rw [List.size_toArray, setAt_length _ _ _ (by simp; omega)]; simp
        obtain ⟨cells', h1, h2, h3, h4, h5, h6⟩ := fill_rows ps tps _ _ _ (by simpa using hlen) (fun i p tp a b => hr (i + 1) p tp (by simpa using a) (by simpa using b)) hnc (by rw [hset]; exact allW_setAt _ ha hrow)
          (by rw [hsz]; simpa using hs) hb
        refine ⟨cells', ?_, h2, h3, by rw [h4, hsz], by rw [h5]; simp, fun h0 => h6 fun x hx => ?_⟩
        rotate_left
        · rcases mem_setAt (l := cells.toList) (by simpa using hx) with h7 | h7
          · exact h0 x h7
          · exact hp.one x h7
        unfold Instr.fill
        simp only
        rw [if_neg (by simp; omega), key']
        exact h1
      · cases hb
    · cases hb

theorem buildSlice_sound (M : MRel G V0 L0 w0 U V m h w) (hug : ¬ U g) {t : TypeId} {n : Nat} {ps : Array (Nat × Operand)} {tps : List (Nat × TV)} (ho : o.op = .buildSlice t n ps) (hl : tps.length = ps.toList.length)
    (hr : ∀ (i : Nat) p tp, ps.toList[i]? = some p → tps[i]? = some tp → p.1 = tp.1 ∧ TRep m V w (ρ p.2) tp.2) (hd : buildSliceV P (ti P t) s g n tps = some d) :
    Does P G V0 L0 w0 U V m h w (execOp ρ o) g d := by
  have hr' : ∀ (i : Nat) p tp, (ps.toList.map fun p => (p.1, ρ p.2))[i]? = some p → tps[i]? = some tp → p.1 = tp.1 ∧ TRep m V w p.2 tp.2 := by
    intro i p tp h1 h2
    simp only [List.getElem?_map, Option.map_eq_some_iff] at h1
    obtain ⟨q, hq, rfl⟩ := h1
    exact hr i q tp hq h2
  unfold buildSliceV at hd
  split at hd
  · rename_i e hk
    split at hd
    · rename_i zl hz
      split at hd
      · rename_i hcond
        obtain ⟨h4, h6, h5⟩ := hcond
        simp only [Option.map_eq_some_iff] at hd
        obtain ⟨l, hb, rfl⟩ := hd
        have ht := kind_slice hk
        obtain ⟨i, z, hi, hzz, hzc⟩ := ti_zero h5 (by rw [← pureL_length _ _ hz, h4])
        obtain ⟨i', dd, hi', _, hsz, hby, _⟩ := ti_ok h5
        rw [hi] at hi'; cases hi'
        have hp : PsRep V w z.cells.toList zl := (zcells_rep (m := m) _ _ hzc).pure hz
        have hzl : zl.length = i.size := by rw [h4, hsz]
        obtain ⟨hz1, hz2⟩ := zero_rows hp n
        rw [hsz] at hb h6
        rw [hzl] at hz1 hz2
        obtain ⟨cells', f1, f2, f3, f4, f5, f6⟩ := fill_rows (m := m) (V := V) (w := w) _ tps _ _ _ (by simp [hl]) hr' hz1 hz2 (by simp) hb
        simp only [Array.size_map, Array.size_range] at f4
        rw [List.length_replicate] at f5
        obtain ⟨m', M', hx', hkp, hrep⟩ := newRows (s := s) (t := e) (arr := cells') M hug (cap := n) (W := i.size) (rs := l) f2 f3 (by omega)
          (f6 fun v hv => by rw [show i.size = z.cells.size by have := hp.length; simp at this; omega] at hv; exact hp.one v (zero_mem hv)) (by omega)
        refine ⟨_, _, _, V, m', ?_, .inl rfl, hrep n (Nat.le_refl _), by rw [hsz]; simpa [putH] using M', hx', fun _ h => h, hkp⟩
        have h6' : ¬ (16777216 < n * i.size) := by omega
        by_cases hz0 : n * i.size = 0
        · have e0 : ((Array.range (n * i.size)).map fun i => z.cells[i % z.cells.size]!) = ((Array.range (n * i.size)).map fun x => (default : Value)) := by rw [hz0]; simp
          rw [e0] at f1
          simp [execOp, ho, Instr.buildSlice, run_underlying ht, run_sizeOf' hi, h6', hz0, newRow, newObj]
          rw [hz0] at f1
          rw [f1]; rfl
        · simp [execOp, ho, Instr.buildSlice, run_underlying ht, run_sizeOf' hi, h6', hz0, newRow, newObj, run_zero hi hzz]
          rw [f1]; rfl
      · cases hd
    · cases hd
  · cases hd

theorem PsRep.of_cells {arr : Array Value} {ps : List PV} (hc : CellsRep V w arr 0 ps) (hs : arr.size = ps.length) : PsRep V w arr.toList ps := by
  have key : ∀ (vs : List Value) (l : List PV), vs.length = l.length → (∀ (j : Nat) (c : PV), l[j]? = some c → ∃ v, vs[j]? = some v ∧ PRep V w v c) → PsRep V w vs l := by
    intro vs
    induction vs with
    | nil => intro l hl _; cases l with | nil => exact .nil | cons a l => simp at hl
    | cons v vs ih =>
      intro l hl hr
      cases l with
      | nil => simp at hl
      | cons a l =>
        obtain ⟨v', e, r⟩ := hr 0 a rfl
        simp at e; subst e
        exact .cons r (ih l (by simpa using hl) fun j c hj => by simpa using hr (j + 1) c (by simpa using hj))
  exact key _ _ (by simpa using hs) fun j c hj => let ⟨v, e, r⟩ := hc j c hj; ⟨v, by simpa using e, r⟩

theorem clear_sound (M : MRel G V0 L0 w0 U V m h w) {t : TypeId} {x : Operand} {tx : TV} (ho : o.op = .call { callee := .builtin .clear, args := #[x], argTypes := #[t] })
    (hx : TRep m V w (ρ x) tx) (hd : clearV P (ti P t) h tx = some d) : Does P G V0 L0 w0 U V m h w (execOp ρ o) g d := by
  have lift : ∀ {v w'}, (Builtin.clear_ #[t] o.type #[ρ x]).run P w = .ok v w' → (execOp ρ o).run P w = .ok (.value v) w' := by
    intro v w' e
    simp [execOp, ho, resolve, invoke, builtin, e]
  unfold clearV at hd
  split at hd
  · rename_i e hk
    have ht := kind_slice hk
    split at hd
    · rename_i zl hz
      split at hd
      · rename_i hcond
        obtain ⟨h5, h4⟩ := hcond
        obtain ⟨i, z, hi, hzz, hzc⟩ := ti_zero h5 (by rw [← pureL_length _ _ hz, h4])
        obtain ⟨i', dd, hi', _, hsz, hby, _⟩ := ti_ok h5
        rw [hi] at hi'; cases hi'
        have hp : PsRep V w z.cells.toList zl := (zcells_rep (m := m) _ _ hzc).pure hz
        have hzl : zl.length = i.size := by rw [h4, hsz]
        split at hd
        · cases hd
          generalize hv : ρ x = v at hx
          cases hx with | c hx =>
          cases hx
          exact Does.pure M (v := .tuple #[]) (lift (by rw [hv]; simp [Builtin.clear_, run_underlying ht])) (.tup rfl (by simp))
        · rename_i k r n
          split at hd
          · rename_i W l hh
            split at hd
            · rename_i hwl
              obtain ⟨rfl, hrn⟩ := hwl
              cases hd
              generalize hv : ρ x = v at hx
              cases hx with | c hx => cases hx with
              | @ref _ ki a _ _ hm hrc hae =>
                obtain ⟨ki', hm', hrep⟩ := M.heap _ _ hh
                rw [hm] at hm'; cases hm'
                by_cases h0 : n = 0
                · subst h0
                  simp only [List.replicate_zero, setAt_nil]
                  refine ⟨_, .tuple #[], w, V, m, lift (by rw [hv]; cases a <;> simp [Builtin.clear_, run_underlying ht]), .inl rfl, .tup rfl (by simp), by simpa only [putH, updH_self hh] using M.used fun _ h => .inl h, fun _ _ h => h, fun _ h => h, ⟨fun _ _ => rfl⟩⟩
                · cases hrep with
                  | nil => simp at hrn; omega
                  | @arr _ _ _ b arr elem hkw hb hheap hs hcap hr =>
                    have haddr := hae (by omega)
                    rw [hb, hkw, hsz] at haddr
                    simp only [Option.map_some] at haddr
                    rw [hsz] at hkw hr hs ⊢
                    obtain ⟨hcells, hallw⟩ := hr.flat
                    have hlf := flat_length hallw
                    obtain ⟨hz1, hz2⟩ := zero_rows hp n
                    have hzcl : zl.length = z.cells.size := by have := hp.length; simp at this; omega
                    have hnl : (List.replicate n zl).flatten.length = n * i.size := by rw [flat_length hz2, List.length_replicate, hzl]
                    have hpt : PsRep V w (Builtin.zeroCells z.cells n).toList (List.replicate n zl).flatten := by
                      refine PsRep.of_cells ?_ ?_
                      · rw [hzcl] at hz1; exact hz1
                      · rw [zeroCells_size, hnl, ← hzcl, hzl]
                    have hcs : (Builtin.zeroCells z.cells n).toList.length = n * i.size := by rw [hpt.length, hnl]
                    have hm1 : (r + n) * i.size ≤ l.length * i.size := Nat.mul_le_mul_right _ (by omega)
                    have hm2 : l.length * i.size ≤ ki.cap * i.size := Nat.mul_le_mul_right _ hcap
                    rw [Nat.add_mul] at hm1
                    have hsle := hs.le
                    have hle : ki.base + r * i.size + (Builtin.zeroCells z.cells n).toList.length ≤ arr.size := by omega
                    have hst := run_storeCells_at P b (ki.base + r * i.size) elem (Builtin.zeroCells z.cells n).toList 0 arr w hheap (by simpa using hle) hpt.one
                    rw [Nat.add_zero, List.append_assoc] at hst
                    have hst' : (storeCells ⟨b, ki.base + r * i.size, none⟩ (Builtin.zeroCells z.cells n).toList).run P w = .ok () (w.setRow b (setAt arr.toList (ki.base + r * i.size) (Builtin.zeroCells z.cells n).toList).toArray) := hst
                    have hrun : (Builtin.clear_ #[t] o.type #[.slice (some ⟨b, ki.base + r * i.size, none⟩) n (ki.cap - r)]).run P w = .ok (.tuple #[]) (w.setRow b (setAt arr.toList (ki.base + r * i.size) (Builtin.zeroCells z.cells n).toList).toArray) := by
                      cases n with
                      | zero => exact absurd rfl h0
                      | succ n => simp [Builtin.clear_, run_underlying ht, run_zero hi hzz, hst']
                    have hkp : Kept V w (w.setRow b (setAt arr.toList (ki.base + r * i.size) (Builtin.zeroCells z.cells n).toList).toArray) := kept_setRow (M.mine k _ ki b hh rfl hm hb).1 _
                    rw [hzl] at hz2
                    have hnc := hcells.setAt (c := r * i.size) hpt (by omega) (by omega)
                    rw [← flat_setAt _ hallw hz2] at hnc
                    have hsl : (setAt l r (List.replicate n zl)).length = l.length := setAt_length _ _ _ (by simpa using hrn)
                    obtain ⟨M', _⟩ := M.write hh rfl hm hb (setAt arr.toList (ki.base + r * i.size) (Builtin.zeroCells z.cells n).toList).toArray (blk := .arr true i.size (setAt l r (List.replicate n zl)))
                      (.arr hkw hb (setRow_heap w b arr _ elem _ hheap) (hs.setAt (by simpa using hle) hpt.one) (by rw [hsl]; exact hcap)
                        ((RowsRep.of_flat hnc (allW_setAt _ hallw hz2)).mono (fun _ h => h) hkp)) rfl
                    exact ⟨_, _, _, V, m, lift (by rw [hv, haddr]; exact hrun), .inl rfl, .tup rfl (by simp), by simpa [putH] using M'.used fun _ h => .inl h, fun _ _ h => h, fun _ h => h, hkp⟩
            · cases hd
          · cases hd
        · cases hd
      · cases hd
    · cases hd
  · cases hd

end
end Go.Sh
end
section
namespace Go.Sh

section
variable {P : Program} {G : Glob} {V0 : Nat → Prop} {L0 : List Nat} {w0 : World} {U V : Nat → Prop} {m : KM} {w : World}

theorem pairs_rep {e : Nat → TV} {a : Act} (hev : ∀ x, TRep m V w (a.eval x) (ev G e x)) (ps : Array (Nat × Operand)) :
    ∀ (i : Nat) p tp, ps.toList[i]? = some p → (ps.toList.map fun p => (p.1, ev G e p.2))[i]? = some tp → p.1 = tp.1 ∧ TRep m V w (a.eval p.2) tp.2 := by
  intro i p tp h1 h2
  rw [List.getElem?_map, h1] at h2
  simp only [Option.map_some, Option.some.injEq] at h2
  subst h2
  exact ⟨rfl, hev _⟩

theorem opt_rep {e : Nat → TV} {a : Act} (hev : ∀ x, TRep m V w (a.eval x) (ev G e x)) (lo : Option Operand) :
    (∀ u, lo.map (ev G e) = some u → ∃ y, lo = some y ∧ TRep m V w (a.eval y) u) ∧ (lo.map (ev G e) = none → lo = none) := by
  cases lo with
  | none => simp
  | some y => refine ⟨fun u hu => ⟨y, rfl, ?_⟩, by simp⟩; simp at hu; subst hu; exact hev y

theorem stepF_sound {S : St} {a : Act} {o : Oper} {idx g : Nat} {d : Dl} (M : MRel G V0 L0 w0 U V m S.heap w) (E : ERel m V w a.tmps S.env) (hu : ¬ U g) (hd : stepF P G o idx g S = some d) :
    Does P G V0 L0 w0 U V m S.heap w (execOp a.eval o) g d := by
  have hev : ∀ x, TRep m V w (a.eval x) (ev G S.env x) := fun x => ev_rep E M.glob x
  unfold stepF at hd
  split at hd
  · exact move_sound M (.inl ‹_›) (hev _) hd
  · exact move_sound M (.inr ‹_›) (hev _) hd
  · exact pick_sound M ‹_› (hev _) (hev _) (hev _) hd
  · exact alloc_sound M hu ‹_› hd
  · exact box_sound M hu ‹_› (hev _) hd
  · exact build_sound M ‹_› (by simp) (pairs_rep hev _) hd
  · exact buildSlice_sound M hu ‹_› (by simp) (pairs_rep hev _) hd
  · exact load_sound M ‹_› (hev _) hd
  · exact store_sound M ‹_› (hev _) (hev _) hd
  · exact nilCheck_sound M ‹_› (hev _) hd
  · exact binOp_sound M ‹_› (hev _) (hev _) hd
  · exact unOp_sound M ‹_› (hev _) hd
  · exact convert_sound M ‹_› (hev _) hd
  · exact makeSlice_sound M hu ‹_› (hev _) (hev _) hd
  · rename_i t x lo hi ho
    exact slice_sound M ho (hev _) (opt_rep hev lo).1 (opt_rep hev lo).2 (opt_rep hev hi).1 (opt_rep hev hi).2 hd
  · rename_i t x lo hi mx ho
    exact slice3_sound M ho (hev _) (opt_rep hev lo).1 (opt_rep hev lo).2 (hev _) (hev _) hd
  · exact fieldAddr_sound M ‹_› (hev _) hd
  · exact field_sound M ‹_› (hev _) hd
  · exact indexAddr_sound M ‹_› (hev _) (hev _) hd
  · exact indexO_sound M ‹_› (fun _ => rfl) (hev _) (hev _) hd
  · exact extract_sound M ‹_› (hev _) hd
  · rename_i f first caps ho
    split at hd
    · rename_i hf
      refine makeFunc_sound M ho hf (tts := caps.toList.map (ev G S.env)) (fun i x t h1 h2 => ?_) (by simp) hd
      rw [List.getElem?_map, h1] at h2
      simp only [Option.map_some, Option.some.injEq] at h2
      subst h2
      exact hev x
    · cases hd
  · rename_i b xs ts ho
    have hxs : ∀ l, xs.toList.map (ev G S.env) = l → ∃ ys : List Operand, xs = ys.toArray ∧ l = ys.map (ev G S.env) := fun l h => ⟨xs.toList, by simp, h.symm⟩
    obtain ⟨ys, rfl, hl⟩ := hxs _ rfl
    have hts : ts = ts.toList.toArray := by simp
    unfold builtinV at hd
    split at hd
    · rename_i t rest x hb hx hy
      simp only [List.map_eq_cons_iff] at hy
      obtain ⟨y, r, rfl, rfl, hr⟩ := hy
      simp only [List.map_eq_nil_iff] at hr
      subst hr
      exact len_sound M ho (by rw [hts, hx]; rfl) (hev _) hd
    · rename_i t u x y hb hx hy
      simp only [List.map_eq_cons_iff] at hy
      obtain ⟨y1, r, rfl, rfl, y2, r2, rfl, rfl, hr⟩ := hy
      simp only [List.map_eq_nil_iff] at hr
      subst hr
      split at hd
      · rename_i hc
        rw [hts, hx] at ho
        exact append_sound M hu ho (hev _) (hev _) hc.1 hc.2 hd
      · cases hd
    · rename_i t u x y hb hx hy
      simp only [List.map_eq_cons_iff] at hy
      obtain ⟨y1, r, rfl, rfl, y2, r2, rfl, rfl, hr⟩ := hy
      simp only [List.map_eq_nil_iff] at hr
      subst hr
      rw [hts, hx] at ho
      exact copy_sound M ho (hev _) (hev _) hd
    · rename_i t x hb hx hy
      simp only [List.map_eq_cons_iff] at hy
      obtain ⟨y1, r, rfl, rfl, hr⟩ := hy
      simp only [List.map_eq_nil_iff] at hr
      subst hr
      rw [hts, hx] at ho
      exact clear_sound M ho (hev _) hd
    · rename_i x y hb hy
      simp only [List.map_eq_cons_iff] at hy
      obtain ⟨y1, r, rfl, rfl, y2, r2, rfl, rfl, hr⟩ := hy
      simp only [List.map_eq_nil_iff] at hr
      subst hr
      exact max_sound M ho (hev _) (hev _) hd
    · rename_i x y hb hy
      simp only [List.map_eq_cons_iff] at hy
      obtain ⟨y1, r, rfl, rfl, y2, r2, rfl, rfl, hr⟩ := hy
      simp only [List.map_eq_nil_iff] at hr
      subst hr
      exact min_sound M ho (hev _) (hev _) hd
    · cases hd
  · cases hd

end
end Go.Sh
end
