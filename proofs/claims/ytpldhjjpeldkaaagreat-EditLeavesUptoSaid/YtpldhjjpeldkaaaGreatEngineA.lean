/- The value semantics of the loaded code: its definitions, what abstract values say of memory, and what single steps leave. -/
import Derived.Control
import Derived.Calls
import Derived.Orders
import GoSem.Machine.Frame
import Derived.Laws.AppendOwn
import GoSem.Core.Utf8
import Derived.Below
import Derived.Laws.OwnMore
import Derived.Laws.Rows
import Derived.Deep.Draws
import Derived.Laws.CopyRow
import Derived.Laws.Cells
import Derived.Laws.Sem
import Derived.Maps.AppendAt
import Derived.ArgAppend
import Derived.WalkKit

namespace Go.Vs

/-! ### 1. Kinds and typed data -/
inductive K where
  | int (k : IntKind) | bool | str | sl (k : K) | pair (a b : K) | one (k : K) | mp (kk vk : K)
  deriving DecidableEq

def K.T : K → Type
  | .int _ => Int
  | .bool => Bool
  | .str => ByteArray
  | .sl k => List k.T
  | .pair a b => a.T × b.T
  | .one k => k.T
  | .mp kk vk => List (kk.T × vk.T)

def K.sz : K → Nat
  | .pair a b => a.sz + b.sz
  | .one k => k.sz
  | _ => 1

/-- The kind of a type of the program. -/
def kindOf (P : Program) : Nat → TypeId → Option K
  | 0, _ => none
  | d + 1, t =>
    match P.underlying t with
    | some (.int k) => some (.int k)
    | some .bool => some .bool
    | some .string => some .str
    | some (.slice e) => (kindOf P d e).map .sl
    | some (.map a b) => match kindOf P d a, kindOf P d b with
      | some x, some y => some (.mp x y)
      | _, _ => none
    | some (.struct fs) =>
      match (fs.toList.map fun f => kindOf P d f.type).reverse with
      | [] => none
      | [k] => k.map .one
      | last :: rest => rest.foldl (fun acc k => match k, acc with | some k, some a => some (.pair k a) | _, _ => none) last
    | _ => none

def K.flat : K → Bool
  | .sl _ => false
  | .mp _ _ => false
  | .pair a b => a.flat && b.flat
  | .one k => k.flat
  | _ => true
def K.isAgg : K → Bool
  | .pair _ _ => true
  | .one _ => true
  | _ => false

/-! ### 2. Abstract values -/
inductive AV where
  | no
  | bool (b : Bool)
  | int (k : IntKind) (n : Int)
  | str (s : ByteArray)
  | nilp
  | nils
  | ref (id s i off : Nat)
  | fp (k : K) (x : k.T) (off : Nat)
  | sl (ex : Bool) (k : K) (xs : List k.T)
  | mp (kk vk : K) (es : List (kk.T × vk.T))
  | osl (id : Nat)
  | fn (f : FuncId) (cap : List AV)
  | agg (cs : List AV)
  | tup (vs : List AV)

def AV.isAgg : AV → Bool
  | .agg _ => true
  | _ => false
def AV.cells : AV → List AV
  | .agg cs => cs
  | v => [v]

def enc : (k : K) → k.T → List AV
  | .int ik, n => [.int ik n]
  | .bool, b => [.bool b]
  | .str, s => [.str s]
  | .sl k, xs => [.sl false k xs]
  | .mp kk vk, es => [.mp kk vk es]
  | .pair a b, x => enc a x.1 ++ enc b x.2
  | .one k, x => enc k x

def decInt (ik : IntKind) : List AV → Option (Int × List AV)
  | .int ik' n :: r => if ik' = ik then some (n, r) else none
  | _ => none
def decBool : List AV → Option (Bool × List AV)
  | .bool b :: r => some (b, r)
  | _ => none
def decStr : List AV → Option (ByteArray × List AV)
  | .str s :: r => some (s, r)
  | _ => none
def decSl (k : K) : List AV → Option (List k.T × List AV)
  | .sl _ k' xs :: r => if h : k' = k then some (h ▸ xs, r) else none
  | .nils :: r => some ([], r)
  | _ => none
def decMp (kk vk : K) : List AV → Option (List (kk.T × vk.T) × List AV)
  | .mp kk' vk' es :: r => if h : kk' = kk ∧ vk' = vk then some (h.1 ▸ h.2 ▸ es, r) else none
  | _ => none
def dec : (k : K) → List AV → Option (k.T × List AV)
  | .int ik, cs => decInt ik cs
  | .bool, cs => decBool cs
  | .str, cs => decStr cs
  | .sl k, cs => decSl k cs
  | .mp kk vk, cs => decMp kk vk cs
  | .pair a b, cs =>
    match dec a cs with
    | some (x, r) => match dec b r with
      | some (y, r') => some ((x, y), r')
      | none => none
    | none => none
  | .one k, cs => dec k cs

def decOne (k : K) (cs : List AV) : Option k.T :=
  match dec k cs with
  | some (x, []) => some x
  | _ => none

/-- A value of a kind, as one value. -/
def encV : (k : K) → k.T → AV
  | .pair a b, x => .agg (enc (.pair a b) x)
  | .one k, x => .agg (enc (.one k) x)
  | .int ik, n => .int ik n
  | .bool, b => .bool b
  | .str, s => .str s
  | .sl k, xs => .sl false k xs
  | .mp kk vk, es => .mp kk vk es

/-! ### 3. The abstract heap: what is one's own -/
/-- What one may own: a row, a map, an iterator over a map that is frozen (the entry that stands, and those that are left), an iterator over a string. -/
inductive OK where
  | row (ty : TypeId) (k : K) | map (kk vk : K) | iter (kk vk : K) | siter
  deriving DecidableEq
abbrev OK.T : OK → Type
  | .row _ k => List k.T
  | .map kk vk => List (kk.T × vk.T)
  | .iter kk vk => Option (kk.T × vk.T) × List (kk.T × vk.T)
  | .siter => ByteArray × Nat
inductive Ob where
  | box (ty : TypeId) (cs : List AV)
  | own (ok : OK) (x : ok.T)

abbrev Heap := List (Nat × Ob)
def Heap.get : Heap → Nat → Option Ob
  | [], _ => none
  | (i, o) :: r, n => if i = n then some o else Heap.get r n
def Heap.del : Heap → Nat → Heap
  | [], _ => []
  | (i, o) :: r, n => if i = n then Heap.del r n else (i, o) :: Heap.del r n
def Heap.set (h : Heap) (n : Nat) (o : Ob) : Heap := (n, o) :: h.del n

/-- What is one's own, seen as data (nothing turns). -/
def view1 (h : Heap) : AV → AV
  | .osl id => match h.get id with
    | some (.own (.row _ k) xs) => .sl false k xs
    | some (.own (.map kk vk) es) => .mp kk vk es
    | _ => .no
  | v => v
/-- What is handed away for good: rows become data. -/
def drop1 (h : Heap) : AV → Heap
  | .osl id => h.del id
  | _ => h
def drops (h : Heap) : List AV → Heap
  | [] => h
  | c :: r => drops (drop1 h c) r

structure St where
  tmps : List (Nat × AV)
  heap : Heap
def look : List (Nat × AV) → Nat → AV
  | [], _ => .no
  | (i, v) :: r, n => if i = n then v else look r n
def St.put (s : St) (d : Option Tmp) (v : AV) : St :=
  match d with
  | some d => { s with tmps := (d, v) :: s.tmps }
  | none => s

/-- Constants of the program's text, and zero values. -/
def ofV : Value → AV
  | .bool b => .bool b
  | .int k n => .int k n
  | .string s => .str s
  | .pointer a => if a = none then .nilp else .no
  | .slice a n c => if a = none ∧ n = 0 ∧ c = 0 then .nils else .no
  | .func fn first cap => match fn with
    | .func f => if first.size = 0 ∧ cap.size = 0 then .fn f [] else .no
    | _ => .no
  | _ => .no
def ofVs (v : Value) : AV :=
  match v with
  | .agg cs => .agg (cs.toList.map ofV)
  | v => ofV v

def ρ (s : List (Nat × AV)) : Operand → AV
  | .tmp t => look s t
  | .const v => ofVs v
  | .global _ => .no
  | .func f => .fn f []

/-! ### 4. Signatures -/
/-- What an operation comes to: a value; a value and something new of one's own; a value and another heap. -/
inductive Eff where
  | val (v : AV)
  | new (v : AV) (os : Heap)
  | wr (v : AV) (h : Heap)

def Eff.v : Eff → AV
  | .val v => v
  | .new v _ => v
  | .wr v _ => v
def Eff.h (h : Heap) : Eff → Heap
  | .val _ => h
  | .new _ os => os ++ h
  | .wr _ h' => h'

/-- What lies in a box: cells of a kind, or the handle of something of one's own. -/
inductive CK where
  | val (k : K)
  | own (ok : OK)
/-- A parameter: data; a pointer to the next box; the next thing of one's own, which is handed back; a function, with its captured variables as the next boxes. -/
inductive PK where
  | val (k : K)
  | ref
  | own
  | clo (f : FuncId) (n : Nat)
  | agg (n : Nat)
/-- A result: data; a row that is the caller's own; a pointer into an element of the row in a cell of box b (any of some: the cell, the elements' size, where in the element), or nil; a struct of cells of which some are one's own. -/
inductive RK where
  | val (k : K)
  | own (ok : OK)
  | eptr (b : Nat) (alts : List (Nat × Nat × Nat))
  | agg (c : List CK)

/-- What is handed on and comes back: a box, or something of one's own by itself. -/
inductive BK where
  | box (ty : TypeId) (cks : List CK)
  | own (ok : OK)
def BK.cks : BK → List CK
  | .box _ c => c
  | .own _ => []

def CK.T : CK → Type
  | .val k => k.T
  | .own ok => ok.T
def CTs : List CK → Type
  | [] => Unit
  | c :: r => c.T × CTs r
abbrev BK.T : BK → Type
  | .box _ c => CTs c
  | .own ok => ok.T
def BTs : List BK → Type
  | [] => Unit
  | b :: r => b.T × BTs r
def VTs : List K → Type
  | [] => Unit
  | k :: r => k.T × VTs r
def RK.T : RK → Type
  | .val k => k.T
  | .own ok => ok.T
  | .eptr _ alts => Option (Fin alts.length × Nat)
  | .agg c => CTs c
def RTs : List RK → Type
  | [] => Unit
  | r :: l => r.T × RTs l
def valsOf : List PK → List K
  | [] => []
  | .val k :: r => k :: valsOf r
  | _ :: r => valsOf r

/-- x: a function that is told apart, by what it does to the heap. -/
structure Sig where
  ps : List PK
  bs : List BK
  rs : List RK
  x : Option (Heap → Nat → List AV → Option (Bool × Eff)) := none
abbrev Sig.A (g : Sig) : Type := VTs (valsOf g.ps) × BTs g.bs
abbrev Sig.B (g : Sig) : Type := RTs g.rs × BTs g.bs

def RK.plain : RK → Bool
  | .val _ => true
  | .own .. => true
  | .eptr .. => false
  | .agg c => decide (c.length ≤ 16)
def RK.flat : RK → Bool
  | .val k => k.flat
  | .own .. => false
  | .eptr .. => true
  | .agg _ => false

end Go.Vs

namespace Go.Vs

/-! ### 5. One operation -/
section
variable (P : Program)

def isAggD : TypeDesc → Bool
  | .struct _ => true
  | .array _ _ => true
  | _ => false
def aggOf (t : TypeId) : Option Bool := (P.underlying t).map isAggD
def fieldOff (t : TypeId) (f : Nat) : Option (Nat × TypeId) :=
  match P.underlying t with
  | some (.struct fs) => (fs[f]?).map fun x => (x.offset, x.type)
  | _ => none
def elemT (t : TypeId) : Option TypeId :=
  match P.underlying t with
  | some (.slice e) => some e
  | _ => none
def zeroA (t : TypeId) : Option (List AV) := (P.info? t).bind fun i => i.zero.bind fun z => if z.cells.toList.all (·.oneCell') then some (ofVs z).cells else none

/-- A value of a type out of cells. -/
def fromCells (t : TypeId) (cs : List AV) : Option AV :=
  match aggOf P t with
  | some true => if P.cellsOf t ≤ cs.length then some (.agg (cs.take (P.cellsOf t))) else none
  | some false => match cs with
    | c :: _ => some c
    | [] => none
  | none => none

def splice {α : Type} (cs : List α) : Nat → List α → List α
  | _, [] => cs
  | off, v :: r => splice (cs.set off v) (off + 1) r

def fillA (place : Nat → Option (Nat × Nat)) (cs : List AV) : List (Nat × AV) → Option (List AV)
  | [] => some cs
  | (i, v) :: r =>
    match place i with
    | none => none
    | some (off, size) => if v.cells.length ≠ size ∨ off + v.cells.length > cs.length then none else fillA place (splice cs off v.cells) r

/-- Operators bit by bit, and shifts. -/
def bitsI (op : BinOp) (k : IntKind) (a b : Int) : Int :=
  k.wrap ((match op with
    | .and => BitVec.ofInt k.bits a &&& BitVec.ofInt k.bits b
    | .or => BitVec.ofInt k.bits a ||| BitVec.ofInt k.bits b
    | .xor => BitVec.ofInt k.bits a ^^^ BitVec.ofInt k.bits b
    | _ => BitVec.ofInt k.bits a &&& ~~~(BitVec.ofInt k.bits b)).toNat : Int)
def shlI (k : IntKind) (a b : Int) : Int := k.wrap (a * 2 ^ (min b.toNat k.bits))
def shrI (k : IntKind) (a b : Int) : Int := a.fdiv (2 ^ (min b.toNat k.bits))
def binI (op : BinOp) (k : IntKind) (a b : Int) : Option AV :=
  match op with
  | .add => some (.int k (k.wrap (a + b)))
  | .sub => some (.int k (k.wrap (a - b)))
  | .mul => some (.int k (k.wrap (a * b)))
  | .eql => some (.bool (a == b))
  | .neq => some (.bool (a != b))
  | .lss => some (.bool (decide (a < b)))
  | .leq => some (.bool (decide (a ≤ b)))
  | .gtr => some (.bool (decide (a > b)))
  | .geq => some (.bool (decide (a ≥ b)))
  | .and => some (.int k (bitsI .and k a b))
  | .or => some (.int k (bitsI .or k a b))
  | .xor => some (.int k (bitsI .xor k a b))
  | .andNot => some (.int k (bitsI .andNot k a b))
  | _ => none
def binS (op : BinOp) (a b : ByteArray) : Option AV :=
  match op with
  | .eql => some (.bool (a == b))
  | .neq => some (.bool (!(a == b)))
  | _ => none
/-- '==' of data of a kind. -/
def eqT : (k : K) → k.T → k.T → Bool
  | .int _, x, y => (show Int from x) == y
  | .bool, x, y => (show Bool from x) == y
  | .str, x, y => (show ByteArray from x) == y
  | .sl _, _, _ => false
  | .mp _ _, _, _ => false
  | .pair a b, x, y => eqT a x.1 y.1 && eqT b x.2 y.2
  | .one k, x, y => eqT k x y

/-! Maps, as rows of entries. -/
def midx (kk : K) {α : Type} (x : kk.T) (es : List (kk.T × α)) : Option Nat := es.findIdx? fun e => eqT kk x e.1
def mget (kk : K) {α : Type} (x : kk.T) (es : List (kk.T × α)) : Option α := (midx kk x es).bind fun i => (es[i]?).map (·.2)
def mput (kk : K) {α : Type} (x : kk.T) (v : α) (es : List (kk.T × α)) : List (kk.T × α) := match midx kk x es with
  | some i => es.set i (x, v)
  | none => es ++ [(x, v)]
def mdel (kk : K) {α : Type} (x : kk.T) (es : List (kk.T × α)) : List (kk.T × α) := match midx kk x es with
  | some i => es.eraseIdx i
  | none => es
def zeroT : (k : K) → k.T
  | .int _ => (0 : Int)
  | .bool => false
  | .str => ByteArray.empty
  | .sl k => ([] : List k.T)
  | .pair a b => (zeroT a, zeroT b)
  | .one k => zeroT k
  | .mp kk vk => ([] : List (kk.T × vk.T))
def zeroIs : K → Value → Bool
  | .int ik, .int ik' n => decide (ik' = ik ∧ n = 0)
  | .bool, .bool b => !b
  | .str, .string s => decide (s = ByteArray.empty)
  | .sl _, .slice a n c => decide (a = none ∧ n = 0 ∧ c = 0)
  | _, _ => false
def elemZ (t : TypeId) (k : K) : Bool := match P.info? t with
  | some i => match i.zero with
    | some z => zeroIs k z
    | none => false
  | none => false
def keyOk (Eqs : TypeId → Option K) (t : TypeId) (k : K) : Bool := k.flat && (match k, P.underlying t with
  | .int ik, some (.int ik') => decide (ik' = ik)
  | .bool, some .bool => true
  | .str, some .string => true
  | k, _ => k.isAgg && decide (Eqs t = some k))
/-- A map's type: its keys', its elements', and their kinds. -/
def mapOf (Eqs : TypeId → Option K) (t : TypeId) : Option (K × K) := match P.underlying t with
  | some (.map a b) => match kindOf P 8 a, kindOf P 8 b with
    | some kk, some vk => if keyOk P Eqs a kk && elemZ P b vk then some (kk, vk) else none
    | _, _ => none
  | _ => none

def getI {α : Type} (xs : List α) (i : Int) : Option α := if 0 ≤ i then xs[i.toNat]? else none

/-- Enough for whatever is appended here: no row of a size that no memory bears. -/
def most : Nat := 1073741824
def fitsN (n m : Nat) : Bool := decide (n + m ≤ most)

def slBounds (n : Nat) (lo hi : Option AV) : Option (Int × Int) :=
  match lo, hi with
  | none, none => some (0, (n : Int))
  | some (.int .i64 l), none => some (l, (n : Int))
  | none, some (.int .i64 h) => some (0, h)
  | some (.int .i64 l), some (.int .i64 h) => some (l, h)
  | _, _ => none
def okBounds (n : Nat) (l h : Int) : Bool := decide (0 ≤ l) && (decide (l ≤ h) && decide (h ≤ (n : Int)))
def cut {α : Type} (xs : List α) (l h : Int) : List α := (xs.take h.toNat).drop l.toNat
def cutB (s : ByteArray) (l h : Int) : ByteArray := s.extract l.toNat h.toNat

variable {R : Type}

/-- One value of a kind, out of a value: its shape is the kind's. -/
def ofOne (k : K) (h : Heap) (v : AV) : Option k.T := if k.isAgg = v.isAgg then decOne k (v.cells.map (view1 h)) else none

/-- A row of data out of a value (nothing turns). -/
def rowOf (h : Heap) (v : AV) (k : K) : Option (List k.T) :=
  match view1 h v with
  | .sl _ k' xs => if e : k' = k then some (e ▸ xs) else none
  | .nils => some []
  | _ => none

/-- The program's row for a type fits its kind. -/
def elemOk (e : TypeId) (k : K) : Bool :=
  match P.info? e with
  | some i => (match i.zero with
    | some z => decide (i.size = k.sz) && (decide (z.cells.size = k.sz) && decide (i.bytes ≤ 65536))
    | none => false)
  | none => false

def opAppend (h : Heap) (id : Nat) (t : TypeId) (s x : AV) (K : Eff → Option R) : Option R :=
  match elemT P t with
  | none => none
  | some e =>
    match kindOf P 8 e with
    | none => none
    | some kk =>
      match rowOf h x kk, elemOk P e kk with
      | some ys, true =>
        match s with
        | .nils => cond (fitsN 0 ys.length) (K (.new (.osl id) [(id, .own (.row e kk) ys)])) none
        | .osl old =>
          match h.get old with
          | some (.own (.row e' k') xs) =>
            if c : e' = e ∧ k' = kk then cond (fitsN xs.length ys.length) (K (.wr (.osl id) ((h.del old).set id (.own (.row e kk) (c.2 ▸ xs ++ ys))))) none else none
          | _ => none
        | .sl ex k' xs =>
          if c : k' = kk then cond (ex && ((!ys.isEmpty || xs.isEmpty) && fitsN xs.length ys.length)) (K (.new (.osl id) [(id, .own (.row e kk) (c ▸ xs ++ ys))])) none else none
        | _ => none
      | _, _ => none

/-- Cells of one cell each. -/
def plainA : AV → Bool
  | .no => false
  | .agg _ => false
  | .tup _ => false
  | _ => true
def noId (id : Nat) : List AV → Bool
  | [] => true
  | .osl i :: r => !(i == id) && noId id r
  | _ :: r => noId id r
/-- Cells that are stored into a row: what is one's own becomes data. -/
def stored (h : Heap) (vs : List AV) : List AV × Heap := (vs.map (view1 h), drops h vs)

def opStore (h : Heap) (t : TypeId) (a v : AV) (K : Eff → Option R) : Option R :=
  if v.cells.length = P.cellsOf t ∧ (P.info? t).isSome ∧ v.cells.all plainA then
    match a with
    | .ref id s i off =>
      match h.get id with
      | some (.box ty cs) => if i = 0 ∧ off + v.cells.length ≤ cs.length then K (.wr .no (h.set id (.box ty (splice cs off v.cells)))) else none
      | some (.own (.row ty kk) xs) =>
        (xs[i]?).bind fun x =>
          if s = kk.sz ∧ off + v.cells.length ≤ kk.sz ∧ noId id v.cells then
            match decOne kk (splice (enc kk x) off (stored h v.cells).1) with
            | some y => K (.wr .no ((stored h v.cells).2.set id (.own (.row ty kk) (xs.set i y))))
            | none => none
          else none
      | _ => none
    | _ => none
  else none

def opLoad (h : Heap) (t : TypeId) (a : AV) (K : Eff → Option R) : Option R :=
  match a with
  | .ref id s i off =>
    match h.get id with
    | some (.box _ cs) => if i = 0 then (match fromCells P t (cs.drop off) with | some v => K (.val v) | none => none) else none
    | some (.own (.row _ kk) xs) => if s = kk.sz then (xs[i]?).bind fun x => match fromCells P t ((enc kk x).drop off) with | some v => K (.val v) | none => none else none
    | _ => none
  | .fp kk x off => match fromCells P t ((enc kk x).drop off) with | some v => K (.val v) | none => none
  | _ => none

def opIndexAddr (h : Heap) (t : TypeId) (x i : AV) (K : Eff → Option R) : Option R :=
  match elemT P t with
  | none => none
  | some e =>
    match x, i with
    | .sl _ kk xs, .int _ n => if P.cellsOf e = kk.sz then (getI xs n).bind fun y => K (.val (.fp kk y 0)) else none
    | .osl id, .int _ n =>
      match h.get id with
      | some (.own (.row _ kk) xs) => if P.cellsOf e = kk.sz then cond (decide (0 ≤ n) && decide (n < (xs.length : Int))) (K (.val (.ref id kk.sz n.toNat 0))) none else none
      | _ => none
    | _, _ => none

def opCutS (x : AV) (lo hi mx : Option AV) (K : Eff → Option R) : Option R :=
  match x, mx with
  | .str s, none =>
    match slBounds s.size lo hi with
    | some (l, u) => cond (okBounds s.size l u) (K (.val (.str (cutB s l u)))) none
    | none => none
  | _, _ => none
/-- mx: none, or the same as hi. -/
def opSlice (h : Heap) (sz : Nat) (x : AV) (lo hi mx : Option AV) (K : Eff → Option R) : Option R :=
  match x with
  | .nils =>
    match slBounds 0 lo hi, mx with
    | some (l, u), none => cond (okBounds 0 l u) (K (.val .nils)) none
    | _, _ => none
  | .sl _ kk xs =>
    if sz = kk.sz then
      match slBounds xs.length lo hi with
      | some (l, u) =>
        match mx with
        | none => cond (okBounds xs.length l u) (K (.val (.sl false kk (cut xs l u)))) none
        | some (.int .i64 m) => cond (okBounds xs.length l u && (hi.isSome && decide (m = u))) (K (.val (.sl true kk (cut xs l u)))) none
        | _ => none
      | none => none
    else none
  | .osl id =>
    match h.get id with
    | some (.own (.row _ kk) xs) =>
      if sz = kk.sz then
        match slBounds xs.length lo hi with
        | some (l, u) =>
          match mx with
          | none => cond (okBounds xs.length l u) (K (.wr (.sl false kk (cut xs l u)) (h.del id))) none
          | some (.int .i64 m) => cond (okBounds xs.length l u && (hi.isSome && decide (m = u))) (K (.wr (.sl true kk (cut xs l u)) (h.del id))) none
          | _ => none
        | none => none
      else none
    | _ => none
  | _ => none

def lenT (t : TypeId) (x : AV) : Bool :=
  match P.underlying t, x with
  | some .string, .str _ => true
  | some (.slice _), .str _ => false
  | some (.slice _), _ => true
  | _, _ => false

def isMapT (t : TypeId) : Bool :=
  match P.underlying t with
  | some (.map _ _) => true
  | _ => false
def opLen (h : Heap) (x : AV) (K : Eff → Option R) : Option R :=
  match view1 h x with
  | .str s => K (.val (.int .i64 (s.size : Int)))
  | .sl _ _ xs => K (.val (.int .i64 (xs.length : Int)))
  | .nils => K (.val (.int .i64 0))
  | _ => none

def opLenM (h : Heap) (x : AV) (K : Eff → Option R) : Option R :=
  match view1 h x with
  | .mp _ _ es => K (.val (.int .i64 (es.length : Int)))
  | _ => none
def opMakeMap (Eqs : TypeId → Option K) (id : Nat) (t : TypeId) (K : Eff → Option R) : Option R :=
  match mapOf P Eqs t with
  | some (kk, vk) => K (.new (.osl id) [(id, .own (.map kk vk) [])])
  | none => none
def opLookup (Eqs : TypeId → Option K) (h : Heap) (t : TypeId) (m i : AV) (ok : Bool) (K : Eff → Option R) : Option R :=
  match mapOf P Eqs t, view1 h m with
  | some (kk, vk), .mp kk' vk' es =>
    if c : kk' = kk ∧ vk' = vk then
      match ofOne kk h i with
      | some x => K (.val (cond ok (.tup [encV vk ((mget kk x (c.1 ▸ c.2 ▸ es : List (kk.T × vk.T))).getD (zeroT vk)), .bool (mget kk x (c.1 ▸ c.2 ▸ es : List (kk.T × vk.T))).isSome]) (encV vk ((mget kk x (c.1 ▸ c.2 ▸ es : List (kk.T × vk.T))).getD (zeroT vk)))))
      | none => none
    else none
  | _, _ => none
def opMapUpdate (Eqs : TypeId → Option K) (h : Heap) (t : TypeId) (m i v : AV) (K : Eff → Option R) : Option R :=
  match mapOf P Eqs t, m with
  | some (kk, vk), .osl id =>
    match h.get id with
    | some (.own (.map kk' vk') es) =>
      if c : kk' = kk ∧ vk' = vk then
        match ofOne kk h i, ofOne vk h v, (v.cells.all fun c => match c with | .osl j => !(j == id) | _ => true) with
        | some x, some y, true => K (.wr (.tup []) ((drops h v.cells).set id (.own (.map kk vk) (mput kk x y (c.1 ▸ c.2 ▸ es : List (kk.T × vk.T))))))
        | _, _, _ => none
      else none
    | _ => none
  | _, _ => none
def opDelete (Eqs : TypeId → Option K) (h : Heap) (t : TypeId) (m i : AV) (K : Eff → Option R) : Option R :=
  match mapOf P Eqs t, m with
  | some (kk, vk), .osl id =>
    match h.get id with
    | some (.own (.map kk' vk') es) =>
      if c : kk' = kk ∧ vk' = vk then
        match ofOne kk h i with
        | some x => K (.wr (.tup []) (h.set id (.own (.map kk vk) (mdel kk x (c.1 ▸ c.2 ▸ es : List (kk.T × vk.T))))))
        | none => none
      else none
    | _ => none
  | _, _ => none
/-- An iterator over a string. -/
def opRangeS (id : Nat) (t : TypeId) (x : AV) (K : Eff → Option R) : Option R :=
  match P.underlying t, x with
  | some .string, .str s => K (.new (.osl id) [(id, .own .siter (s, 0))])
  | _, _ => none
def runeAt (s : ByteArray) (p : Nat) : Int := (Utf8.decode s p).1
def runeW (s : ByteArray) (p : Nat) : Nat := (Utf8.decode s p).2
def opNextS (h : Heap) (x : AV) (K : Eff → Option R) : Option R :=
  match x with
  | .osl id => match h.get id with
    | some (.own .siter x) => cond (decide (x.2 < x.1.size)) (K (.wr (.tup [.bool true, .int .i64 (x.2 : Int), .int .i32 (runeAt x.1 x.2)]) (h.set id (.own .siter (x.1, x.2 + runeW x.1 x.2))))) (K (.val (.tup [.bool false])))
    | _ => none
  | _ => none
/-- The entry at which an iterator over a map stands. -/
def opEntry (h : Heap) (x : AV) (K : Eff → Option R) : Option R :=
  match x with
  | .osl id => match h.get id with
    | some (.own (.iter kk vk) (some c, _)) => K (.val (.tup [encV kk c.1, encV vk c.2]))
    | _ => none
  | _ => none

def isBoolD : TypeDesc → Bool
  | .bool => true
  | _ => false
def isPtrD : TypeDesc → Bool
  | .pointer _ => true
  | _ => false
def opBin (Eqs : TypeId → Option K) (op : BinOp) (t : TypeId) (x y : AV) (K : Eff → Option R) : Option R :=
  match x, y with
  | .int k a, .int k' b =>
    match op with
    | .shl => cond (decide (b < 0)) none (K (.val (.int k (shlI k a b))))
    | .shr => cond (decide (b < 0)) none (K (.val (.int k (shrI k a b))))
    | op =>
    if k = k' then
      match op with
      | .quo => cond (b == 0) none (K (.val (.int k (k.wrap (a.tdiv b)))))
      | .rem => cond (b == 0) none (K (.val (.int k (a.tmod b))))
      | op => match binI op k a b with
        | some v => K (.val v)
        | none => none
    else none
  | .str a, .str b => match binS op a b with
    | some v => K (.val v)
    | none => none
  | .bool a, .bool b =>
    match op, (P.underlying t).map isBoolD with
    | .eql, some true => K (.val (.bool (a == b)))
    | .neq, some true => K (.val (.bool (!(a == b))))
    | _, _ => none
  | .agg a, .agg b =>
    match Eqs t with
    | none => none
    | some k =>
      match op, decOne k a, decOne k b with
      | .eql, some x, some y => K (.val (.bool (eqT k x y)))
      | .neq, some x, some y => K (.val (.bool (!(eqT k x y))))
      | _, _, _ => none
  | .nilp, .nilp =>
    match op, (P.underlying t).map isPtrD with
    | .eql, some true => K (.val (.bool true))
    | .neq, some true => K (.val (.bool false))
    | _, _ => none
  | .ref .., .nilp =>
    match op, (P.underlying t).map isPtrD with
    | .eql, some true => K (.val (.bool false))
    | .neq, some true => K (.val (.bool true))
    | _, _ => none
  | _, _ => none

def pickA (b : Bool) (x y : AV) : AV :=
  match x, y with
  | .bool p, .bool q => .bool (cond b p q)
  | x, y => cond b x y

end

/-! ### 6. Boxes as data, data as boxes -/
/-- Something of one's own, in a cell. -/
def ownAt (h : Heap) (ok : OK) (c : AV) : Option ok.T :=
  match c with
  | .nils => match ok with
    | .row _ _ => some []
    | _ => none
  | .osl id => match h.get id with
    | some (.own ok' x) => if e : ok' = ok then some (e ▸ x) else none
    | _ => none
  | _ => none
def srcs : AV → List Nat
  | .osl id => [id]
  | _ => []
/-- The contents of a box. -/
def decCKs : (cks : List CK) → Heap → List AV → Option (CTs cks)
  | [], _, [] => some ()
  | .val k :: r, h, cs =>
    match decOne k ((cs.take k.sz).map (view1 h)), decCKs r h (cs.drop k.sz) with
    | some x, some y => some (x, y)
    | _, _ => none
  | .own ok :: r, h, c :: cs =>
    match ownAt h ok c, decCKs r h cs with
    | some x, some y => some (x, y)
    | _, _ => none
  | _, _, _ => none
/-- What becomes data for good, and the rows that are kept. -/
def ckFrz : List CK → List AV → List AV
  | .val k :: r, cs => cs.take k.sz ++ ckFrz r (cs.drop k.sz)
  | .own _ :: r, _ :: cs => ckFrz r cs
  | _, _ => []
def ckKept : List CK → List AV → List Nat
  | .val k :: r, cs => ckKept r (cs.drop k.sz)
  | .own _ :: r, c :: cs => srcs c ++ ckKept r cs
  | _, _ => []
/-- Cells and rows out of contents; rows get the names from n on. -/
def encCells : (cks : List CK) → Nat → CTs cks → List AV
  | [], _, _ => []
  | .val k :: r, n, x => enc k x.1 ++ encCells r (n + 1) x.2
  | .own _ :: r, n, x => .osl n :: encCells r (n + 1) x.2
def encRows : (cks : List CK) → Nat → CTs cks → Heap
  | [], _, _ => []
  | .val _ :: r, n, x => encRows r (n + 1) x.2
  | .own ok :: r, n, x => (n, .own ok x.1) :: encRows r (n + 1) x.2

def boxAt (h : Heap) (id : Nat) (ty : TypeId) : Option (List AV) :=
  match h.get id with
  | some (.box ty' cs) => if ty' = ty then some cs else none
  | _ => none
def objAt : (b : BK) → Heap → Nat → Option b.T
  | .box ty c, h, i => match boxAt h i ty with
    | some cs => decCKs c h cs
    | none => none
  | .own ok, h, i => ownAt h ok (.osl i)
def boxesIn : (bs : List BK) → Heap → List Nat → Option (BTs bs)
  | [], _, [] => some ()
  | b :: r, h, i :: is =>
    match objAt b h i, boxesIn r h is with
    | some x, some y => some (x, y)
    | _, _ => none
  | _, _, _ => none
def objOut : (b : BK) → Nat → Nat → b.T → Heap
  | .box ty c, i, n, x => (i, .box ty (encCells c n x)) :: encRows c n x
  | .own ok, i, _, x => [(i, .own ok x)]
/-- n: the name of the first row of the first box; each box has sixteen. -/
def boxesOut : (bs : List BK) → List Nat → Nat → BTs bs → Heap
  | b :: r, i :: is, n, x => objOut b i n x.1 ++ boxesOut r is (n + 16) x.2
  | _, _, _, _ => []

def objFrz : BK → Heap → Nat → List AV
  | .box _ c, h, i => match h.get i with
    | some (.box _ cs) => ckFrz c cs
    | _ => []
  | .own _, _, _ => []
def boxFrz : List BK → Heap → List Nat → List AV
  | b :: r, h, i :: is => objFrz b h i ++ boxFrz r h is
  | _, _, _ => []
def objKept : BK → Heap → Nat → List Nat
  | .box _ c, h, i => i :: (match h.get i with
    | some (.box _ cs) => ckKept c cs
    | _ => [])
  | .own _, _, i => [i]
def boxKept : List BK → Heap → List Nat → List Nat
  | b :: r, h, i :: is => objKept b h i ++ boxKept r h is
  | _, _, _ => []
def dels (h : Heap) : List Nat → Heap
  | [] => h
  | i :: r => dels (h.del i) r

def refId : AV → Option Nat
  | .ref id _ 0 0 => some id
  | _ => none
def refIds : List AV → Option (List Nat)
  | [] => some []
  | v :: r => match refId v, refIds r with
    | some i, some is => some (i :: is)
    | _, _ => none
def oslIds : List AV → Option (List Nat)
  | [] => some []
  | .osl i :: r => match oslIds r with
    | some is => some (i :: is)
    | none => none
  | _ => none
/-- The boxes that arguments lead to. -/
def argIds : List PK → List AV → Option (List Nat)
  | [], [] => some []
  | .val _ :: ps, _ :: vs => argIds ps vs
  | .ref :: ps, v :: vs => match refId v, argIds ps vs with
    | some i, some is => some (i :: is)
    | _, _ => none
  | .own :: ps, .osl i :: vs => match argIds ps vs with
    | some is => some (i :: is)
    | none => none
  | .clo f n :: ps, .fn f' cap :: vs =>
    if f' = f ∧ cap.length = n then match refIds cap, argIds ps vs with
      | some a, some b => some (a ++ b)
      | _, _ => none
    else none
  | .agg n :: ps, .agg cs :: vs =>
    if cs.length = n then match oslIds cs, argIds ps vs with
      | some a, some b => some (a ++ b)
      | _, _ => none
    else none
  | _, _ => none
def argVals : (ps : List PK) → Heap → List AV → Option (VTs (valsOf ps))
  | [], _, [] => some ()
  | .val k :: ps, h, v :: vs =>
    match ofOne k h v, argVals ps h vs with
    | some x, some y => some (x, y)
    | _, _ => none
  | .ref :: ps, h, _ :: vs => argVals ps h vs
  | .own :: ps, h, _ :: vs => argVals ps h vs
  | .clo _ _ :: ps, h, _ :: vs => argVals ps h vs
  | .agg _ :: ps, h, _ :: vs => argVals ps h vs
  | _, _, _ => none
/-- What is handed on as data, for good. -/
def argCells : List PK → List AV → List AV
  | .val _ :: ps, v :: vs => v.cells ++ argCells ps vs
  | _ :: ps, _ :: vs => argCells ps vs
  | _, _ => []

/-- Parameters' slots at a function's entry. -/
def entryVals : (ps : List PK) → (ids : List Nat) → Nat → VTs (valsOf ps) → List (Nat × AV)
  | [], _, _, _ => []
  | .val k :: ps, ids, s, x => (s, encV k x.1) :: entryVals ps ids (s + 1) x.2
  | .ref :: ps, i :: ids, s, x => (s, .ref i 0 0 0) :: entryVals ps ids (s + 1) x
  | .ref :: ps, [], s, x => (s, .no) :: entryVals ps [] (s + 1) x
  | .own :: ps, i :: ids, s, x => (s, .osl i) :: entryVals ps ids (s + 1) x
  | .own :: ps, [], s, x => (s, .no) :: entryVals ps [] (s + 1) x
  | .clo f n :: ps, ids, s, x => (s, .fn f ((ids.take n).map fun i => .ref i 0 0 0)) :: entryVals ps (ids.drop n) (s + 1) x
  | .agg n :: ps, ids, s, x => (s, .agg ((ids.take n).map .osl)) :: entryVals ps (ids.drop n) (s + 1) x

/-- Where a box's part begins. -/
def ckOff : List CK → Nat → Nat
  | .val k :: r, c + 1 => k.sz + ckOff r c
  | .own _ :: r, c + 1 => 1 + ckOff r c
  | _, _ => 0
def ckOwn : List CK → Nat → Bool
  | .own (.row _ _) :: _, 0 => true
  | _ :: r, c + 1 => ckOwn r c
  | _, _ => false
def isOsl (id : Nat) : Option AV → Bool
  | some (.osl id') => id' == id
  | _ => false
def altIs (c : List CK) (cs : List AV) (id s off : Nat) (a : Nat × Nat × Nat) : Bool :=
  isOsl id (cs[ckOff c a.1]?) && (decide (s = a.2.1) && (decide (off = a.2.2) && ckOwn c a.1))
/-- A pointer into an element of a row in a cell of box b. -/
def eptrAt (bs : List BK) (h : Heap) (ids : List Nat) (b : Nat) (alts : List (Nat × Nat × Nat)) (v : AV) : Option (Option (Fin alts.length × Nat)) :=
  match v with
  | .nilp => some none
  | .ref id s i off =>
    (match ids[b]?, bs[b]? with
    | some bi, some bk => (match h.get bi with
      | some (.box _ cs) => (match (List.finRange alts.length).find? (fun a => altIs bk.cks cs id s off (alts.get a)) with
        | some a => some (some (a, i))
        | none => none)
      | _ => none)
    | _, _ => none)
  | _ => none
def decAgg (c : List CK) (h : Heap) (v : AV) : Option (CTs c) :=
  match v with
  | .agg cs => decCKs c h cs
  | _ => none
def decRes (bs : List BK) : (rs : List RK) → Heap → List Nat → List AV → Option (RTs rs)
  | [], _, _, [] => some ()
  | .val k :: r, h, ids, v :: vs =>
    match ofOne k h v, decRes bs r h ids vs with
    | some x, some y => some (x, y)
    | _, _ => none
  | .own ok :: r, h, ids, v :: vs =>
    match ownAt h ok v, decRes bs r h ids vs with
    | some x, some y => some (x, y)
    | _, _ => none
  | .eptr b alts :: r, h, ids, v :: vs =>
    match eptrAt bs h ids b alts v, decRes bs r h ids vs with
    | some x, some y => some (x, y)
    | _, _ => none
  | .agg c :: r, h, ids, v :: vs =>
    match decAgg c h v, decRes bs r h ids vs with
    | some x, some y => some (x, y)
    | _, _ => none
  | _, _, _, _ => none
def resFrz : List RK → List AV → List AV
  | .val _ :: r, v :: vs => v.cells ++ resFrz r vs
  | .agg c :: r, v :: vs => ckFrz c v.cells ++ resFrz r vs
  | _ :: r, _ :: vs => resFrz r vs
  | _, _ => []
def resKept : List RK → List AV → List Nat
  | .own _ :: r, v :: vs => srcs v ++ resKept r vs
  | .agg c :: r, v :: vs => ckKept c v.cells ++ resKept r vs
  | _ :: r, _ :: vs => resKept r vs
  | _, _ => []
def eptrV (b n : Nat) (alts : List (Nat × Nat × Nat)) : Option (Fin alts.length × Nat) → AV
  | none => .nilp
  | some (a, i) => .ref (n + 16 * b + (alts.get a).1) (alts.get a).2.1 i (alts.get a).2.2
/-- What a call's results are to the caller. ids: its boxes; n: the name of their first row; m: of the first new row. -/
def encRes : (rs : List RK) → (ids : List Nat) → (n m : Nat) → RTs rs → List AV
  | [], _, _, _, _ => []
  | .val k :: r, ids, n, m, x => encV k x.1 :: encRes r ids n (m + 1) x.2
  | .agg c :: r, ids, n, m, x => .agg (encCells c m x.1) :: encRes r ids n (m + 1) x.2
  | .own _ :: r, ids, n, m, x => .osl m :: encRes r ids n (m + 1) x.2
  | .eptr b alts :: r, ids, n, m, x => eptrV b n alts x.1 :: encRes r ids n (m + 1) x.2
def encResRows : (rs : List RK) → (m : Nat) → RTs rs → Heap
  | [], _, _ => []
  | .own ok :: r, m, x => (m, .own ok x.1) :: encResRows r (m + 1) x.2
  | .agg c :: r, m, x => encRows c m x.1 ++ encResRows r (m + 1) x.2
  | .val _ :: r, m, x => encResRows r (m + 1) x.2
  | .eptr _ _ :: r, m, x => encResRows r (m + 1) x.2

/-- One result is itself, several are a tuple. -/
def tupOf : List AV → AV
  | [v] => v
  | vs => .tup vs

/-- New names. -/
def ckNames : List CK → Nat → List Nat
  | [], _ => []
  | .val _ :: r, n => ckNames r (n + 1)
  | .own _ :: r, n => n :: ckNames r (n + 1)
def boxNames : List BK → List Nat → Nat → List Nat
  | b :: r, i :: is, n => i :: (ckNames b.cks n ++ boxNames r is (n + 16))
  | _, _, _ => []
def resNames : List RK → Nat → List Nat
  | [], _ => []
  | .own _ :: r, m => m :: resNames r (m + 1)
  | .agg c :: r, m => ckNames c m ++ resNames r (m + 1)
  | .val _ :: r, m => resNames r (m + 1)
  | .eptr _ _ :: r, m => resNames r (m + 1)
/-- The boxes that came in, by the names that they have from the entry on. -/
def entryIds (n : Nat) : List Nat := (List.range n).map fun i => 1000 + 20 * i
def outNames (g : Sig) : List Nat := boxNames g.bs (entryIds g.bs.length) 2000 ++ resNames g.rs 3000

/-! ### 7. Calls, regions, code -/
def noOsl : List AV → Bool
  | [] => true
  | .osl _ :: _ => false
  | _ :: r => noOsl r
def noOsls : List AV → Bool
  | [] => true
  | v :: r => noOsl v.cells && noOsls r
def nodupB : List Nat → Bool
  | [] => true
  | i :: r => !(r.contains i) && nodupB r
/-- What is kept is kept once, and is none of what becomes data. -/
def keptOk (kept : List Nat) (frz : List AV) : Bool := nodupB kept && kept.all fun i => noId i frz

section
variable (P : Program) (Eqs : TypeId → Option K) (Sg : FuncId → Option Sig) (F : (f : FuncId) → (g : Sig) → g.A → Option g.B)
variable {R : Type}

/-- A function's name together with those of the functions that it is handed. -/
def keyOf' (f : FuncId) : List AV → FuncId
  | [] => f
  | .fn g _ :: _ => f + 1000 * (g + 1)
  | _ :: r => keyOf' f r

def holdsOsl : List AV → Bool
  | [] => false
  | .osl _ :: _ => true
  | .agg cs :: r => (cs.any fun c => match c with | .osl _ => true | _ => false) || holdsOsl r
  | _ :: r => holdsOsl r
/-- A second signature, for calls that are handed what is one's own. -/
def keyOf (f : FuncId) (vs : List AV) : FuncId := if holdsOsl vs && (Sg (keyOf' f vs + 500000)).isSome then keyOf' f vs + 500000 else keyOf' f vs

/-- Names and sizes are as they must be. -/
def rkOk (bs : List BK) (r : RK) : Bool := match r with
  | .eptr b alts => match bs[b]? with
    | some bk => (alts.all fun a => ckOwn bk.cks a.1) && decide ((alts.map fun a => (a.1, a.2.2)).Nodup)
    | none => false
  | .agg c => decide (c.length ≤ 16)
  | _ => true
def rsOk (bs : List BK) (rs : List RK) : Bool := rs.all (rkOk bs)
def sigOk (f : FuncId) (g : Sig) : Bool := rsOk g.bs g.rs && ( (decide (g.bs.length ≤ 8) && (g.bs.all fun b => decide (b.cks.length ≤ 16))) && ((decide (g.rs.length ≤ 100) && decide (f < 1000)) && nodupB (outNames g)))
/-- Results that are pointers: one by one. -/
def optE {α R : Type} (o : Option α) (a : Option R) (f : α → Option R) : Option R := match o with
  | none => a
  | some x => f x
def finE {R : Type} (n : Nat) (a : Fin n) (f : Fin n → Option R) : Option R := (List.finRange n).foldr (fun j r => cond (a.val == j.val) (f j) r) none
def splitE {R : Type} : (rs : List RK) → RTs rs → (RTs rs → Option R) → Option R
  | [], _, K => K ()
  | .eptr _ alts :: r, x, K => optE x.1 (splitE r x.2 fun z => K (none, z)) (fun p => finE alts.length p.1 fun a => splitE r x.2 fun z => K (some (a, p.2), z))
  | .val _ :: r, x, K => splitE r x.2 fun z => K (x.1, z)
  | .own _ :: r, x, K => splitE r x.2 fun z => K (x.1, z)
  | .agg _ :: r, x, K => splitE r x.2 fun z => K (x.1, z)
def opCall (h : Heap) (id : Nat) (f : FuncId) (vs : List AV) (K : Eff → Option R) : Option R :=
  match Sg (keyOf Sg f vs) with
  | none => none
  | some g => match g.x with
  | some u => if f < 1000 then (u h id vs).bind fun p => cond p.1 (K p.2) none else none
  | none =>
    match argIds g.ps vs, sigOk f g with
    | some is, true =>
      if is.isEmpty && g.rs.all RK.plain then
      match argVals g.ps h vs, boxesIn g.bs h [], g.rs.all RK.plain with
      | some x, some b, true =>
        (F (keyOf Sg f vs) g (x, b)).bind fun y =>
          cond (g.rs.all RK.flat || noOsls vs)
            (K (.new (tupOf (encRes g.rs [] id (id + 128) y.1)) (encResRows g.rs (id + 128) y.1)))
            (K (.wr (tupOf (encRes g.rs [] id (id + 128) y.1)) (encResRows g.rs (id + 128) y.1 ++ drops h (argCells g.ps vs))))
      | _, _, _ => none
      else
      match argVals g.ps h vs, boxesIn g.bs h is, keptOk (boxKept g.bs h is) (argCells g.ps vs ++ boxFrz g.bs h is) && nodupB (boxNames g.bs is id ++ resNames g.rs (id + 128)) with
      | some x, some b, true =>
        (F (keyOf Sg f vs) g (x, b)).bind fun y => splitE g.rs y.1 fun z =>
          K (.wr (tupOf (encRes g.rs is id (id + 128) z))
            (boxesOut g.bs is id y.2 ++ (encResRows g.rs (id + 128) z ++ dels (drops h (argCells g.ps vs ++ boxFrz g.bs h is)) (boxKept g.bs h is))))
      | _, _, _ => none
    | _, _ => none

/-- slices.Insert, slices.Delete at a row of one's own, slices.Grow of nil. -/
def insOk {α : Type} (xs : List α) (i : Int) (ys : List α) : Bool := decide (0 ≤ i) && (decide (i ≤ xs.length) && (decide (ys.length = 1) && fitsN xs.length ys.length))
def insRow {α : Type} (xs : List α) (i : Int) (ys : List α) : List α := xs.take i.toNat ++ (ys ++ xs.drop i.toNat)
def delOk {α : Type} (xs : List α) (i j : Int) : Bool := decide (0 ≤ i) && (decide (i < j) && (decide (j ≤ xs.length) && fitsN xs.length 0))
def delRow {α : Type} (xs : List α) (i j : Int) : List α := xs.take i.toNat ++ xs.drop j.toNat
def growOk (n : Int) : Bool := decide (0 ≤ n) && decide (n ≤ most)
def insX (ty : TypeId) (k : K) (h : Heap) (id : Nat) : List AV → Option (Bool × Eff)
  | [.osl o, .int .i64 i, .osl j] => match ownAt h (.row ty k) (.osl o), ownAt h (.row ty k) (.osl j) with
    | some xs, some ys => if o = j then none else some (insOk xs i ys, .wr (.osl id) ((id, .own (.row ty k) (insRow xs i ys)) :: h.del o))
    | _, _ => none
  | _ => none
def delX (ty : TypeId) (k : K) (h : Heap) (id : Nat) : List AV → Option (Bool × Eff)
  | [.osl o, .int .i64 i, .int .i64 j] => match ownAt h (.row ty k) (.osl o) with
    | some xs => some (delOk xs i j, .wr (.osl id) ((id, .own (.row ty k) (delRow xs i j)) :: h.del o))
    | none => none
  | _ => none
def growX (ty : TypeId) (k : K) (_ : Heap) (id : Nat) : List AV → Option (Bool × Eff)
  | [.nils, .int .i64 n] => some (growOk n, .new (.osl id) [(id, .own (.row ty k) [])])
  | _ => none

def opMake (id : Nat) (t : TypeId) (vs : List AV) (K : Eff → Option R) : Option R :=
  K (.new (.ref id vs.length 0 0) [(id, .box t vs)])

def notNo : AV → Bool
  | .no => false
  | _ => true
def opBuild (t : TypeId) (parts : List (Nat × AV)) (K : Eff → Option R) : Option R :=
  match zeroA P t, P.underlying t with
  | some z, some (.struct fs) =>
    match fillA (fun i => (fs[i]?).map fun f => (f.offset, P.cellsOf f.type)) z parts, fs.toList.all (fun f => (P.info? f.type).isSome) && parts.all (fun p => notNo p.2) with
    | some cs, true => K (.val (.agg cs))
    | _, _ => none
  | _, _ => none

/-- The elements of a literal, one behind the other. -/
def litRow (k : K) (h : Heap) : Nat → List (Nat × AV) → Option (List k.T)
  | _, [] => some []
  | i, (j, v) :: r =>
    if j = i then match decOne k (v.cells.map (view1 h)), litRow k h (i + 1) r with
      | some x, some xs => some (x :: xs)
      | _, _ => none
    else none
def opLit (h : Heap) (id : Nat) (t : TypeId) (n : Nat) (parts : List (Nat × AV)) (K : Eff → Option R) : Option R :=
  match elemT P t with
  | none => none
  | some e =>
    match kindOf P 8 e with
    | none => none
    | some k =>
      match litRow k h 0 parts, elemOk P e k with
      | none, _ => none
      | some _, false => none
      | some xs, true =>
        if parts.length = n ∧ n * k.sz ≤ 1048576 then
          cond (noOsls (parts.map (·.2))) (K (.new (.osl id) [(id, .own (.row e k) xs)])) (K (.wr (.osl id) ((id, .own (.row e k) xs) :: drops h (parts.flatMap (·.2.cells)))))
        else none

/-- A literal that is never written on is data from the start. -/
def frzE : Eff → Eff
  | .new (.osl _) [(_, .own (.row _ k) xs)] => .new (.sl true k xs) []
  | e => e
def opLitF (frz : Bool) (h : Heap) (id : Nat) (t : TypeId) (n : Nat) (parts : List (Nat × AV)) (K : Eff → Option R) : Option R :=
  opLit P h id t n parts fun e => K (if frz then frzE e else e)

def opConv (src dst : TypeId) (x : AV) (K : Eff → Option R) : Option R :=
  match P.underlying src, P.underlying dst, x with
  | some (.int _), some (.int k), .int _ n => K (.val (.int k (k.wrap n)))
  | some .string, some .string, .str s => K (.val (.str s))
  | _, _, _ => none

def opMM (mx : Bool) (vs : List AV) (K : Eff → Option R) : Option R :=
  match vs with
  | [.int k a, .int k' b] => if k = k' then K (.val (.int k (cond mx (max a b) (min a b)))) else none
  | _ => none

def opSem (id : Nat) (h : Heap) (s : List (Nat × AV)) (o : Oper) (K : Eff → Option R) : Option R :=
  match o.op with
  | .move x | .assign x => K (.val (ρ s x))
  | .pick c a b => match ρ s c with
    | .bool t => K (.val (pickA t (ρ s a) (ρ s b)))
    | _ => none
  | .box t x => if (ρ s x).cells.all plainA then opMake id t (ρ s x).cells K else none
  | .alloc t => match zeroA P t with
    | some z => opMake id t z K
    | none => none
  | .build t ps => opBuild P t (ps.toList.map fun p => (p.1, ρ s p.2)) K
  | .buildSlice t n ps => opLitF P (Sg (900000 + t)).isSome h id t n (ps.toList.map fun p => (p.1, ρ s p.2)) K
  | .load t a => opLoad P h t (ρ s a) K
  | .store t a v => opStore P h t (ρ s a) (ρ s v) K
  | .nilCheck x => match ρ s x with
    | .ref id s i off => K (.val (.ref id s i off))
    | .fp k x off => K (.val (.fp k x off))
    | .fn f cap => K (.val (.fn f cap))
    | _ => none
  | .binOp op t x y _ => opBin P Eqs op t (ρ s x) (ρ s y) K
  | .unOp .not _ x => match ρ s x with
    | .bool b => K (.val (.bool (!b)))
    | _ => none
  | .convert src dst x => opConv P src dst (ρ s x) K
  | .makeFunc (.func f) first cap => if first.size = 0 then K (.val (.fn f (cap.toList.map (ρ s)))) else none
  | .slice t x lo hi mx => match P.underlying t with
    | some .string => opCutS (ρ s x) (lo.map (ρ s)) (hi.map (ρ s)) (mx.map (ρ s)) K
    | some (.slice e) => if (P.info? e).isSome then opSlice h (P.cellsOf e) (ρ s x) (lo.map (ρ s)) (hi.map (ρ s)) (mx.map (ρ s)) K else none
    | _ => none
  | .fieldAddr t x f => match fieldOff P t f, ρ s x with
    | some (n, ft), .ref id s i off => if P.cellsOf ft = 0 then none else K (.val (.ref id s i (off + n)))
    | some (n, ft), .fp k x off => if P.cellsOf ft = 0 then none else K (.val (.fp k x (off + n)))
    | _, _ => none
  | .field t x f => match fieldOff P t f, ρ s x with
    | some (n, ft), .agg cs => match fromCells P ft (cs.drop n) with
      | some v => K (.val v)
      | none => none
    | _, _ => none
  | .indexAddr t x i => opIndexAddr P h t (ρ s x) (ρ s i) K
  | .index t x i => match P.underlying t, ρ s x, ρ s i with
    | some .string, .str b, .int _ n => (if 0 ≤ n then b[n.toNat]? else none).bind fun c => K (.val (.int .u8 (c.toNat : Int)))
    | _, _, _ => none
  | .makeMap t none => opMakeMap P Eqs id t K
  | .lookup t m i ok => opLookup P Eqs h t (ρ s m) (ρ s i) ok K
  | .mapUpdate t m i v => opMapUpdate P Eqs h t (ρ s m) (ρ s i) (ρ s v) K
  | .range t x => opRangeS P id t (ρ s x) K
  | .next x true => opNextS h (ρ s x) K
  | .entry x => opEntry h (ρ s x) K
  | .extract t i => match ρ s t with
    | .tup vs => match vs[i]? with
      | some v => K (.val v)
      | none => none
    | _ => none
  | .call c =>
    match c.callee with
    | .value f => match ρ s f with
      | .fn f cap => opCall Sg F h id f (c.args.toList.map (ρ s) ++ cap) K
      | _ => none
    | .builtin .len => match c.args.toList, c.argTypes.toList with
      | [x], [t] => if isMapT P t then opLenM h (ρ s x) K else if lenT P t (ρ s x) then opLen h (ρ s x) K else none
      | _, _ => none
    | .builtin .append => match c.args.toList, c.argTypes.toList with
      | [x, y], [t, t'] => if t' = t then opAppend P h id t (ρ s x) (ρ s y) K else none
      | _, _ => none
    | .builtin .delete => match c.args.toList, c.argTypes.toList with
      | [m, x], t :: _ => opDelete P Eqs h t (ρ s m) (ρ s x) K
      | _, _ => none
    | .builtin .max => opMM true (c.args.toList.map (ρ s)) K
    | .builtin .min => opMM false (c.args.toList.map (ρ s)) K
    | _ => none
  | _ => none

/-- Operations that touch no memory, and whose value hangs on their operands alone. -/
def freeOp : Op → Bool
  | .move _ | .assign _ | .extract .. | .unOp .. | .pick .. | .fieldAddr .. | .nilCheck _ | .makeFunc .. | .build .. => true
  | .binOp op .. => match op with
    | .eql | .neq => false
    | _ => true
  | _ => false

def makes : Op → Bool
  | .box .. | .alloc _ | .buildSlice .. | .makeMap .. | .range .. => true
  | .call c => match c.callee with
    | .builtin .append | .value _ => true
    | _ => false
  | _ => false

/-- Each operation has 256 names of its own. -/
def opId (rid i : Nat) : Nat := ((rid + 1) * 128 + i) * 256

/-- The numbers b are the operations ahead of each. -/
def befOk (ops : Array Oper) (b : Array Nat) : Bool :=
  (List.range ops.size).all fun i => match ops[i]? with
    | some o => (o.after.toList.all fun e => !Region.binds .any e || decide (e.on < i)) &&
      b.getD i 0 == o.after.toList.foldl (fun s e => if Region.binds .any e then s ||| 2 ^ e.on ||| b.getD e.on 0 else s) 0
    | none => false

/-- Two operations whose order is open do not get into each other's way. -/
def pairOk (ops : Array Oper) (b : Array Nat) : Bool :=
  (List.range ops.size).all fun j => (List.range j).all fun i =>
    (b.getD j 0).testBit i || (match ops[i]?, ops[j]? with
      | some x, some y => x.apart ops y
      | _, _ => false)
/-- Operations that only look at one thing in memory, and where it is. -/
def lookAt : Op → Option Operand
  | .load _ x => some x
  | .indexAddr _ x _ => some x
  | _ => none
/-- Operations next to which others may look at what they leave alone. -/
def framing : Op → Bool
  | .store .. => true
  | .call c => match c.callee with
    | .value _ => true
    | _ => false
  | _ => false
/-- Operation j looks at what it would look at when i is done. -/
def lookFine (ops : Array Oper) (i j : Nat) : Bool :=
  match (ops[j]?).bind (lookAt ·.op) with
  | some (.tmp d) => (List.range ops.size).all fun m => !(decide (min i j ≤ m) && decide (m < max i j)) || (match (ops[m]?).bind (·.dst) with | some d' => d' != d | none => true)
  | some _ => true
  | none => false
def footV : AV → List Nat
  | .ref id _ _ _ => [id]
  | .osl id => [id]
  | _ => []
/-- What the operations whose order against this one is open look at. -/
def feet (ops : Array Oper) (b : Array Nat) (i : Nat) (tmps : List (Nat × AV)) : List Nat :=
  (List.range ops.size).flatMap fun j => if j == i || (b.getD j 0).testBit i || (b.getD i 0).testBit j then [] else match (ops[j]?).bind (lookAt ·.op) with
    | some x => footV (ρ tmps x)
    | none => []
def ftOf (ops : Array Oper) (b : Array Nat) (i : Nat) (tmps : List (Nat × AV)) (o : Oper) : List Nat := if framing o.op then feet ops b i tmps else []
/-- Whatever touches memory is ordered against this one. -/
def soloOk (ops : Array Oper) (b : Array Nat) (i : Nat) : Bool :=
  (List.range ops.size).all fun j =>
    j == i || (b.getD j 0).testBit i || (b.getD i 0).testBit j || (match ops[j]? with | some o => freeOp o.op | none => true) || ((match ops[i]? with | some o => framing o.op | none => false) && lookFine ops i j)
/-- The heap without what was made in this region by operations that need not stand ahead. -/
def ahead (rid : Nat) (anc : Nat) (h : Heap) : Heap := h.filter fun p => (p.1 / 32768 != rid + 1) || anc.testBit (p.1 / 256 % 128)

def dstsOk (n : Nat) (o : Oper) : Bool :=
  match o.dst with
  | some d => decide (d < n)
  | none => true

end

/-! Of the names that this region gives, those of some operations alone are spoken of. -/
def idOk (rid bits id : Nat) : Bool := (id / 32768 != rid + 1) || bits.testBit (id / 256 % 128)
mutual
def mentV (rid bits : Nat) : AV → Bool
  | .ref id _ _ _ => idOk rid bits id
  | .osl id => idOk rid bits id
  | .fn _ cap => mentL rid bits cap
  | .agg cs => mentL rid bits cs
  | .tup vs => mentL rid bits vs
  | .no => true
  | .bool _ => true
  | .int _ _ => true
  | .str _ => true
  | .nilp => true
  | .nils => true
  | .fp _ _ _ => true
  | .sl _ _ _ => true
  | .mp _ _ _ => true
def mentL (rid bits : Nat) : List AV → Bool
  | [] => true
  | v :: r => mentV rid bits v && mentL rid bits r
end
def mentH (rid bits : Nat) : Heap → Bool
  | [] => true
  | (id, .box _ cs) :: r => idOk rid bits id && mentL rid bits cs && mentH rid bits r
  | (id, .own _ _) :: r => idOk rid bits id && mentH rid bits r

def effOk (draw : Bool) (rid : Nat) (ops : Array Oper) (b : Array Nat) (i anc : Nat) : Eff → Bool
  | .wr v h => (!draw || soloOk ops b i) && mentV rid (anc ||| 2 ^ i) v && mentH rid (anc ||| 2 ^ i) h
  | .new v os => mentV rid (anc ||| 2 ^ i) v && (os.all fun p => p.1 / 256 == (rid + 1) * 128 + i) && mentH rid (anc ||| 2 ^ i) os
  | .val v => mentV rid anc v

/-! What is left alone is set aside. -/
def frameIn (ft : List Nat) (hp h : Heap) : Heap := (ft.filterMap fun i => (hp.get i).map fun o => (i, o)) ++ h
def frameE (ft : List Nat) (hp : Heap) : Eff → Eff
  | .wr v h => .wr v (frameIn ft hp h)
  | .val v => .val v
  | .new v os => .new v os
mutual
def clearV (ft : List Nat) : AV → Bool
  | .ref id _ _ _ => !(ft.contains id)
  | .osl id => !(ft.contains id)
  | .fn _ cap => clearL ft cap
  | .agg cs => clearL ft cs
  | .tup vs => clearL ft vs
  | .no => true
  | .bool _ => true
  | .int _ _ => true
  | .str _ => true
  | .nilp => true
  | .nils => true
  | .fp _ _ _ => true
  | .sl _ _ _ => true
  | .mp _ _ _ => true
def clearL (ft : List Nat) : List AV → Bool
  | [] => true
  | v :: r => clearV ft v && clearL ft r
end
def clearH (ft : List Nat) : Heap → Bool
  | [] => true
  | (id, .box _ cs) :: r => !(ft.contains id) && (clearL ft cs && clearH ft r)
  | (id, .own _ _) :: r => !(ft.contains id) && clearH ft r
def clearE (ft : List Nat) : Eff → Bool
  | .wr v h => clearV ft v && clearH ft h
  | _ => true

section
variable (P : Program) (Eqs : TypeId → Option K) (Sg : FuncId → Option Sig) (F : (f : FuncId) → (g : Sig) → g.A → Option g.B)
variable {R : Type}

/-- What comes of it whichever of n it is. -/
noncomputable def anyN (n : Nat) (f : Nat → Option R) : Option R := open Classical in if h : ∃ r, ∀ j, j < n → f j = some r then some (Classical.choose h) else none
def frzV (m : Nat) (d : AV) : AV → AV
  | .osl i => if i = m then d else .osl i
  | v => v
/-- A range over a map begins: the map is frozen for good. -/
def spRange (id : Nat) (st : St) (o : Oper) : Option St :=
  match o.op with
  | .range t x => match P.underlying t, ρ st.tmps x with
    | some (.map _ _), .osl m => match st.heap.get m with
      | some (.own (.map kk vk) es) => some (({ tmps := st.tmps.map fun p => (p.1, frzV m (.mp kk vk es) p.2), heap := (id, .own (.iter kk vk) (none, es)) :: st.heap.del m } : St).put o.dst (.osl id))
      | _ => none
    | _, _ => none
  | _ => none
def isNextM (o : Oper) : Option Operand :=
  match o.op with
  | .next x false => some x
  | _ => none
/-- The next entry of a map: any that is left. -/
noncomputable def opNextM (h : Heap) (x : AV) (K : AV → Heap → Option R) : Option R :=
  match x with
  | .osl id => match h.get id with
    | some (.own (.iter kk vk) p) => cond p.2.isEmpty (K (.tup [.bool false]) h) (anyN p.2.length fun j => (p.2[j]?).bind fun c => K (.tup [.bool true, encV kk c.1, encV vk c.2]) (h.set id (.own (.iter kk vk) (some c, p.2.eraseIdx j))))
    | _ => none
  | _ => none
/-- A slice is compared with nil: an empty one may be nil or not. -/
def isNil (o : Oper) : Option (Operand × Bool) :=
  match o.op with
  | .binOp op t x (.const v) _ => match op, P.underlying t, ofV v with
    | .eql, some (.slice _), .nils => some (x, true)
    | .neq, some (.slice _), .nils => some (x, false)
    | _, _, _ => none
  | _ => none
noncomputable def opNil (h : Heap) (x : AV) (want : Bool) (K : AV → Option R) : Option R :=
  match view1 h x with
  | .nils => K (.bool want)
  | .sl _ _ xs => cond xs.isEmpty (anyN 2 fun j => K (.bool ((j == 0) == want))) (K (.bool (!want)))
  | _ => none
noncomputable def execOps (rid : Nat) (draw : Bool) (ops : Array Oper) (b : Array Nat) : List (Nat × Oper) → St → (St → Option R) → Option R
  | [], st, K => K st
  | (i, o) :: r, st, K =>
    let run (st : St) : Option R :=
      match (if draw then none else spRange P (opId rid i) st o) with
      | some st' => execOps rid draw ops b r st' K
      | none =>
      match (if draw then none else isNextM o) with
      | some x => opNextM st.heap (ρ st.tmps x) fun v h => execOps rid draw ops b r (({ st with heap := h } : St).put o.dst v) K
      | none =>
      match (if draw then none else isNil P o) with
      | some (x, want) => opNil st.heap (ρ st.tmps x) want fun v => execOps rid draw ops b r (st.put o.dst v) K
      | none =>
      if draw then
        opSem P Eqs Sg F (opId rid i) (dels (ahead rid (b.getD i 0) st.heap) (ftOf ops b i st.tmps o)) st.tmps o fun e =>
          if effOk true rid ops b i (b.getD i 0) (frameE (ftOf ops b i st.tmps o) (ahead rid (b.getD i 0) st.heap) e) && clearE (ftOf ops b i st.tmps o) e then
            execOps rid draw ops b r ({ st with heap := match frameE (ftOf ops b i st.tmps o) (ahead rid (b.getD i 0) st.heap) e with | .wr _ h => h | e => e.h st.heap }.put o.dst e.v) K else none
      else
        opSem P Eqs Sg F (opId rid i) st.heap st.tmps o fun e =>
          if effOk false rid ops b i (2 ^ i - 1) e then execOps rid draw ops b r ({ st with heap := match e with | .wr _ h => h | e => e.h st.heap }.put o.dst e.v) K else none
    let skip (st : St) : Option R := execOps rid draw ops b r (st.put o.dst (.tup [])) K
    match o.guard with
    | none => run st
    | some (j, want) =>
      match (ops[j]?).bind (·.dst) with
      | none => none
      | some d =>
        match look st.tmps d with
        | .bool t => cond t (if want then run (st.put (some d) (.bool true)) else skip (st.put (some d) (.bool true))) (if want then skip (st.put (some d) (.bool false)) else run (st.put (some d) (.bool false)))
        | .tup _ => skip st
        | _ => none

end

/-! No word is left of what this region named before. -/
mutual
def purgeV (rid : Nat) : AV → AV
  | .ref id s i off => if id / 32768 = rid + 1 then .no else .ref id s i off
  | .osl id => if id / 32768 = rid + 1 then .no else .osl id
  | .fn f cap => .fn f (purgeL rid cap)
  | .agg cs => .agg (purgeL rid cs)
  | .tup vs => .tup (purgeL rid vs)
  | .no => .no
  | .bool b => .bool b
  | .int k n => .int k n
  | .str s => .str s
  | .nilp => .nilp
  | .nils => .nils
  | .fp k x off => .fp k x off
  | .sl ex k xs => .sl ex k xs
  | .mp kk vk es => .mp kk vk es
def purgeL (rid : Nat) : List AV → List AV
  | [] => []
  | v :: r => purgeV rid v :: purgeL rid r
end
def purgeO (rid : Nat) : Ob → Ob
  | .box ty cs => .box ty (purgeL rid cs)
  | .own ok x => .own ok x
def purge (draw : Bool) (rid : Nat) (ops : Array Oper) (st : St) : St :=
  if draw || ops.any (makes ·.op) then
    { tmps := st.tmps.map fun p => (p.1, purgeV rid p.2), heap := (st.heap.filter fun p => p.1 / 32768 != rid + 1).map fun p => (p.1, purgeO rid p.2) }
  else st

section
variable (P : Program) (Eqs : TypeId → Option K) (Sg : FuncId → Option Sig) (F : (f : FuncId) → (g : Sig) → g.A → Option g.B)
variable {R : Type}

noncomputable def execRegion (n rid : Nat) (ops : Array Oper) (draw : Bool) (st : St) (K : St → Option R) : Option R :=
  let b := if draw then Region.before ops else #[]
  if (ops.all fun o => dstsOk n o) && (!draw || (befOk ops b && (pairOk ops b && nodupB (ops.toList.filterMap (·.dst))))) && decide (ops.size ≤ 128) then
    execOps P Eqs Sg F rid draw ops b (ops.toList.zipIdx.map fun p => (p.2, p.1)) (purge draw rid ops st) K
  else none

/-! ### 8. Heads of loops -/
/-- Where a box, or a captured variable's box, is told from. -/
inductive Src where
  | slot (s : Nat)
  | cap (s j : Nat)
/-- What is carried round a loop: data in slots; boxes, with the names that they have there; rows of one's own; functions that are known, with their captured boxes' names. -/
structure Shape where
  vals : List (Nat × K)
  boxes : List (Src × Nat × BK)
  rows : List (Nat × Nat × OK)
  fns : List (Nat × FuncId × List Nat)
def Shape.ks (sh : Shape) : List K := sh.vals.map (·.2)
def Shape.bs (sh : Shape) : List BK := sh.boxes.map (·.2.2)
def LTs : List OK → Type
  | [] => Unit
  | k :: r => k.T × LTs r
abbrev Shape.T (sh : Shape) : Type := VTs sh.ks × BTs sh.bs × LTs (sh.rows.map (·.2.2))

def valsAt (st : St) : (l : List (Nat × K)) → Option (VTs (l.map (·.2)))
  | [] => some ()
  | (s, k) :: r =>
    match ofOne k st.heap (look st.tmps s), valsAt st r with
    | some x, some y => some (x, y)
    | _, _ => none
def srcId (st : St) : Src → Option Nat
  | .slot s => refId (look st.tmps s)
  | .cap s j => match look st.tmps s with
    | .fn _ cap => match cap[j]? with
      | some v => refId v
      | none => none
    | _ => none
def srcIds (st : St) : List (Src × Nat × BK) → Option (List Nat)
  | [] => some []
  | p :: r => match srcId st p.1, srcIds st r with
    | some i, some is => some (i :: is)
    | _, _ => none
def rowsAt (st : St) : (l : List (Nat × Nat × OK)) → Option (LTs (l.map (·.2.2)))
  | [] => some ()
  | (s, _, ok) :: r =>
    match ownAt st.heap ok (look st.tmps s), rowsAt st r with
    | some x, some y => some (x, y)
    | _, _ => none
def headFrz (st : St) (sh : Shape) (ids : List Nat) : List AV := (sh.vals.flatMap fun p => (look st.tmps p.1).cells) ++ boxFrz sh.bs st.heap ids
def headKept (st : St) (sh : Shape) (ids : List Nat) : List Nat := boxKept sh.bs st.heap ids ++ sh.rows.flatMap fun p => srcs (look st.tmps p.1)
/-- A row that keeps its name. -/
def rowKeeps (st : St) (m : Nat) : List (Nat × Nat × OK) → Bool
  | [] => false
  | (s, id, _) :: r => (id == m && (match look st.tmps s with | .osl i => i == m | _ => false)) || rowKeeps st m r
def headNames (sh : Shape) : List Nat := boxNames sh.bs (sh.boxes.map (·.2.1)) 9000 ++ sh.rows.map (·.2.1)
/-- The known functions' captured boxes are those that the shape names. -/
def fnsOk (st : St) (ids : List (Nat × Nat)) : List (Nat × FuncId × List Nat) → Bool
  | [] => true
  | (s, f, caps) :: r =>
    (match look st.tmps s with
    | .fn f' cap => decide (f' = f) && (match refIds cap with | some is => decide (is.map (fun i => (ids.find? (·.1 == i)).map (·.2)) = caps.map some) | none => false)
    | _ => false) && fnsOk st ids r
def atHead (sh : Shape) (st : St) : Option sh.T :=
  match srcIds st sh.boxes with
  | none => none
  | some ids =>
    match valsAt st sh.vals, boxesIn sh.bs st.heap ids, rowsAt st sh.rows, keptOk (headKept st sh ids) (headFrz st sh ids) && (nodupB (headNames sh) && ((headNames sh).all (fun m => decide (2000 ≤ m) || ((ids.zip (sh.boxes.map (·.2.1))).any fun p => p.1 == m && p.2 == m) || rowKeeps st m sh.rows) && fnsOk st (ids.zip (sh.boxes.map (·.2.1))) sh.fns)) with
    | some x, some y, some z, true => some (x, y, z)
    | _, _, _, _ => none

def headVals : (l : List (Nat × K)) → VTs (l.map (·.2)) → List (Nat × AV)
  | [], _ => []
  | (s, k) :: r, x => (s, encV k x.1) :: headVals r x.2
def headBoxes : List (Src × Nat × BK) → List (Nat × AV)
  | [] => []
  | (.slot s, id, _) :: r => (s, .ref id 0 0 0) :: headBoxes r
  | (.cap _ _, _, _) :: r => headBoxes r
def headFns (l : List (Nat × FuncId × List Nat)) : List (Nat × AV) := l.map fun p => (p.1, .fn p.2.1 (p.2.2.map fun i => .ref i 0 0 0))
def headRows : (l : List (Nat × Nat × OK)) → LTs (l.map (·.2.2)) → Heap
  | [], _ => []
  | (_, id, ok) :: r, x => (id, .own ok x.1) :: headRows r x.2
def fromHead (sh : Shape) (x : sh.T) : St :=
  { tmps := headVals sh.vals x.1 ++ (headBoxes sh.boxes ++ (headFns sh.fns ++ sh.rows.map fun p => (p.1, .osl p.2.1))),
    heap := boxesOut sh.bs (sh.boxes.map (·.2.1)) 9000 x.2.1 ++ headRows sh.rows x.2.2 }

/-! ### 9. Code -/
/-- A loop is told by the first region of its body. -/
def loopKey : Code → Nat
  | .region id _ _ => id
  | .seq a _ => loopKey a
  | .block _ a => loopKey a
  | .loop a => loopKey a
  | .scope a => loopKey a
  | _ => 0

noncomputable def execItems (n : Nat) (ann : Nat → Option Shape) (J : (sh : Shape) → List Item → sh.T → Option R) (ret : St → Option R) : Nat → List Item → St → Option R
  | 0, _, _ => none
  | _ + 1, [], st => ret st
  | m + 1, .inBlock _ :: k, st => execItems n ann J ret m k st
  | m + 1, .inScope _ :: k, st => execItems n ann J ret m k st
  | _ + 1, .inLoop c :: k, st =>
    match ann (loopKey c) with
    | none => none
    | some sh => match atHead sh st with
      | some x => J sh (.inLoop c :: k) x
      | none => none
  | m + 1, .code c :: k, st =>
    match c with
    | .skip | .label _ => execItems n ann J ret m k st
    | .seq a b => execItems n ann J ret m (.code a :: .code b :: k) st
    | .cond c a b => match ρ st.tmps c with
      | .bool t => cond t (execItems n ann J ret m (.code a :: k) st) (execItems n ann J ret m (.code b :: k) st)
      | _ => none
    | .block id c => execItems n ann J ret m (.code c :: .inBlock id :: k) st
    | .scope c => execItems n ann J ret m (.code c :: .inScope c :: k) st
    | .loop c => execItems n ann J ret m (.inLoop c :: k) st
    | .exit id => match exitTo id k with
      | some k' => execItems n ann J ret m k' st
      | none => none
    | .ret => ret st
    | .region id ops draw => execRegion P Eqs Sg F n id ops draw st fun st' => execItems n ann J ret m k st'
    | _ => none
  | _, _, _ => none

def resOf (h : Heap) (tmps : List (Nat × AV)) (rvs : List ResultVar) : Option (List AV) :=
  match rvs with
  | [] => some []
  | .tmp t :: r => match resOf h tmps r with
    | some vs => some (look tmps t :: vs)
    | none => none
  | .cell a t :: r => match look tmps a with
    | .ref id _ 0 off => (match h.get id with
      | some (.box _ cs) => (match fromCells P t (cs.drop off), resOf h tmps r with
        | some v, some vs => some (v :: vs)
        | _, _ => none)
      | _ => none)
    | _ => none
def retOf (g : Sig) (fn : Func) (st : St) : Option g.B :=
  match resOf P st.heap st.tmps fn.results.toList with
  | none => none
  | some vs =>
    match decRes g.bs g.rs st.heap (entryIds g.bs.length) vs, boxesIn g.bs st.heap (entryIds g.bs.length),
      keptOk (boxKept g.bs st.heap (entryIds g.bs.length) ++ resKept g.rs vs) (resFrz g.rs vs ++ boxFrz g.bs st.heap (entryIds g.bs.length)) && nodupB (outNames g) with
    | some x, some y, true => some (x, y)
    | _, _, _ => none
def entry (g : Sig) (x : g.A) : St :=
  { tmps := entryVals g.ps (entryIds g.bs.length) 0 x.1, heap := boxesOut g.bs (entryIds g.bs.length) 2000 x.2 }

def fuel : Nat := 100000
end

section
variable (P : Program) (Eqs : TypeId → Option K) (Sg : FuncId → Option Sig) (An : FuncId → Nat → Option Shape) (G : (f : FuncId) → (g : Sig) → Option (g.A → Option g.B))
variable (F : (f : FuncId) → (g : Sig) → g.A → Option g.B)

def body (f : FuncId) : Option (Func × Code) := (P.funcs[f]?).bind fun fn => fn.body.map fun c => (fn, c)
/-- A round, and all behind it. -/
noncomputable def runL (f : FuncId) (g : Sig) (fn : Func) : Nat → (sh : Shape) → List Item → sh.T → Option g.B
  | 0, _, _, _ => none
  | n + 1, sh, .inLoop c :: k, x => execItems P Eqs Sg F fn.ntmps (An f) (runL f g fn n) (retOf P g fn) fuel (.code c :: .inLoop c :: k) (fromHead sh x)
  | _ + 1, _, _, _ => none
noncomputable def runF (f : FuncId) (g : Sig) (n : Nat) (x : g.A) : Option g.B :=
  match body P (f % 1000) with
  | none => none
  | some (fn, c) => if decide (g.ps.length ≤ fn.ntmps) && decide (g.bs.length ≤ 8) then execItems P Eqs Sg F fn.ntmps (An f) (runL P Eqs Sg An F f g fn n) (retOf P g fn) fuel [.code c] (entry g x) else none
end

section
variable (P : Program) (Eqs : TypeId → Option K) (Sg : FuncId → Option Sig) (An : FuncId → Nat → Option Shape) (G : (f : FuncId) → (g : Sig) → Option (g.A → Option g.B))
/-- The functions: those that are given, and those that are run. -/
noncomputable def Fn : Nat → (f : FuncId) → (g : Sig) → g.A → Option g.B
  | 0, f, g, x => match G f g with
    | some u => u x
    | none => none
  | m + 1, f, g, x => match G f g with
    | some u => u x
    | none => runF P Eqs Sg An (Fn m) f g m x
end
end Go.Vs
namespace Go.Vs
/-- The heads of the loops of a code, in the order of the text. -/
def headsC : Code → List Item → List (List Item)
  | .seq a b, k => headsC a (.code b :: k) ++ headsC b k
  | .cond _ a b, k => headsC a k ++ headsC b k
  | .block id c, k => headsC c (.inBlock id :: k)
  | .scope c, k => headsC c (.inScope c :: k)
  | .loop c, k => (.inLoop c :: k) :: headsC c (.inLoop c :: k)
  | _, _ => []
def seg (P : Program) (f : FuncId) (j : Nat) : List Item :=
  match body P f with
  | some (_, c) => (headsC c []).getD j []
  | none => []
/-- One round's code. -/
def round : List Item → List Item
  | .inLoop c :: k => .code c :: .inLoop c :: k
  | k => k
end Go.Vs

namespace Go.Vs

theorem addr_add (a : Addr) (n m : Nat) : (a.add n).add m = a.add (n + m) := by
  unfold Addr.add
  by_cases h1 : n = 0 <;> by_cases h2 : m = 0 <;> simp [h1, h2, Nat.add_assoc]
theorem addr_zero (a : Addr) : a.add 0 = a := by simp [Addr.add]
theorem addr_block (a : Addr) (n : Nat) : (a.add n).block = a.block := by unfold Addr.add; split <;> rfl
theorem addr_plain (g i n : Nat) : (⟨g, i, none⟩ : Addr).add n = ⟨g, i + n, none⟩ := by unfold Addr.add; split <;> simp_all

/-- Blocks that stay. -/
def Same (Z : Nat → Prop) (w w' : World) : Prop := ∀ b, Z b → w'.heap[b]? = w.heap[b]?
theorem Same.refl (Z : Nat → Prop) (w : World) : Same Z w w := fun _ _ => rfl
theorem Same.trans {Z : Nat → Prop} {w w1 w2 : World} (h : Same Z w w1) (k : Same Z w1 w2) : Same Z w w2 := fun b hb => (k b hb).trans (h b hb)
theorem Same.cell {Z : Nat → Prop} {w w' : World} (h : Same Z w w') {a : Addr} (ha : Z a.block) : w'.cell? a = w.cell? a := World.cell?_of_block (h _ ha)

/-- A row of elements that is read. -/
def RowC {α : Type} (r : α → List Value → Prop) (Z : Nat → Prop) (sz : Nat) (w : World) (xs : List α) (v : Value) : Prop :=
  ∃ A c, v = .slice A xs.length c ∧ xs.length ≤ c ∧ (A = none → c = 0) ∧
    ∀ (i : Nat) (x : α), xs[i]? = some x → ∃ a us, A = some a ∧ Z a.block ∧ r x us ∧ ∀ (j : Nat) u, us[j]? = some u → w.cell? (a.add (i * sz + j)) = some u
/-- The entries of a map. -/
def EntC {α β : Type} (ra : α → List Value → Prop) (rb : β → List Value → Prop) (pa pb : Bool) (es : List (α × β)) (ents : List MapEntry) : Prop :=
  es.length = ents.length ∧ ∀ (i : Nat) (x : α × β) (e : MapEntry), es[i]? = some x → ents[i]? = some e →
    (ra x.1 e.key.cells.toList ∧ (pa = true → ∃ vs, e.key = .agg vs) ∧ (pa = false → e.key.cells = #[e.key])) ∧ rb x.2 e.val.cells.toList ∧ (pb = true → ∃ vs, e.val = .agg vs) ∧ (pb = false → e.val.cells = #[e.val])
/-- Z: the blocks that are never written any more. -/
def RepK (Z : Nat → Prop) (w : World) : (k : K) → k.T → List Value → Prop
  | .int ik, n, vs => vs = [.int ik n]
  | .bool, b, vs => vs = [.bool b]
  | .str, s, vs => vs = [.string s]
  | .sl k, xs, vs => ∃ v, vs = [v] ∧ RowC (RepK Z w k) Z k.sz w xs v
  | .pair a b, x, vs => ∃ us ws, vs = us ++ ws ∧ RepK Z w a x.1 us ∧ RepK Z w b x.2 ws
  | .one k, x, vs => RepK Z w k x vs
  | .mp kk vk, es, vs => ∃ A, vs = [.map A] ∧ ((A = none ∧ es = []) ∨ ∃ m ents clock, A = some m ∧ Z m ∧ w.heap[m]? = some (.map ents clock) ∧ EntC (RepK Z w kk) (RepK Z w vk) kk.isAgg vk.isAgg es ents.toList)

variable {Z Z' : Nat → Prop} {w w' : World}

theorem RepK.len : ∀ {k : K} {x : k.T} {vs : List Value}, RepK Z w k x vs → vs.length = k.sz
  | .int _, _, _, h => by simp only [RepK] at h; subst h; rfl
  | .bool, _, _, h => by simp only [RepK] at h; subst h; rfl
  | .str, _, _, h => by simp only [RepK] at h; subst h; rfl
  | .sl _, _, _, h => by simp only [RepK] at h; obtain ⟨v, rfl, _⟩ := h; rfl
  | .pair a b, x, _, h => by
    simp only [RepK] at h
    obtain ⟨us, ws, rfl, h1, h2⟩ := h
    rw [List.length_append, RepK.len h1, RepK.len h2]; rfl
  | .one k, x, _, h => by
    simp only [RepK] at h
    exact RepK.len (k := k) h
  | .mp _ _, _, _, h => by simp only [RepK] at h; obtain ⟨A, rfl, _⟩ := h; rfl

theorem K.sz_pos : ∀ k : K, 0 < k.sz
  | .int _ => Nat.one_pos
  | .bool => Nat.one_pos
  | .str => Nat.one_pos
  | .sl _ => Nat.one_pos
  | .pair a _ => Nat.lt_of_lt_of_le (K.sz_pos a) (Nat.le_add_right _ _)
  | .one k => K.sz_pos k
  | .mp _ _ => Nat.one_pos

theorem RepK.one : ∀ {k : K} {x : k.T} {vs : List Value}, RepK Z w k x vs → ∀ u ∈ vs, u.oneCell' = true
  | .int _, _, _, h => by simp only [RepK] at h; subst h; simp [Value.oneCell']
  | .bool, _, _, h => by simp only [RepK] at h; subst h; simp [Value.oneCell']
  | .str, _, _, h => by simp only [RepK] at h; subst h; simp [Value.oneCell']
  | .sl _, _, _, h => by simp only [RepK] at h; obtain ⟨v, rfl, A, c, rfl, _⟩ := h; simp [Value.oneCell']
  | .pair a b, x, _, h => by
    simp only [RepK] at h
    obtain ⟨us, ws, rfl, h1, h2⟩ := h
    intro u hu
    rcases List.mem_append.1 hu with hu | hu
    · exact RepK.one h1 u hu
    · exact RepK.one h2 u hu
  | .one k, x, _, h => by
    simp only [RepK] at h
    exact RepK.one (k := k) h
  | .mp _ _, _, _, h => by simp only [RepK] at h; obtain ⟨A, rfl, _⟩ := h; simp [Value.oneCell']

theorem EntC.imp {α β : Type} {ra ra' : α → List Value → Prop} {rb rb' : β → List Value → Prop} {pa pb : Bool} (ha : ∀ x vs, ra x vs → ra' x vs) (hb : ∀ x vs, rb x vs → rb' x vs) {es : List (α × β)} {ents : List MapEntry} (h : EntC ra rb pa pb es ents) : EntC ra' rb' pa pb es ents :=
  ⟨h.1, fun i x e h1 h2 => by obtain ⟨⟨a, b⟩, c, d⟩ := h.2 i x e h1 h2; exact ⟨⟨ha _ _ a, b⟩, hb _ _ c, d⟩⟩
theorem RepK.mono (hz : ∀ b, Z b → Z' b) (hs : Same Z w w') : ∀ {k : K} {x : k.T} {vs : List Value}, RepK Z w k x vs → RepK Z' w' k x vs
  | .int _, _, _, h => h
  | .bool, _, _, h => h
  | .str, _, _, h => h
  | .sl k, xs, _, h => by
    simp only [RepK] at h ⊢
    obtain ⟨v, rfl, A, c, rfl, hl, hn, he⟩ := h
    refine ⟨_, rfl, A, c, rfl, hl, hn, fun i x hx => ?_⟩
    obtain ⟨a, us, ha, hza, hr, hc⟩ := he i x hx
    refine ⟨a, us, ha, hz _ hza, RepK.mono hz hs hr, fun j u hu => ?_⟩
    rw [hs.cell (by rw [addr_block]; exact hza)]
    exact hc j u hu
  | .pair a b, x, _, h => by
    simp only [RepK] at h ⊢
    obtain ⟨us, ws, rfl, h1, h2⟩ := h
    exact ⟨us, ws, rfl, RepK.mono hz hs h1, RepK.mono hz hs h2⟩
  | .one k, x, _, h => by
    simp only [RepK] at h ⊢
    exact RepK.mono hz hs (k := k) h
  | .mp kk vk, es, _, h => by
    simp only [RepK] at h ⊢
    obtain ⟨A, rfl, h⟩ := h
    refine ⟨A, rfl, h.imp (fun h => h) fun ⟨m, ents, clock, h1, h2, h3, h4⟩ => ⟨m, ents, clock, h1, hz _ h2, (hs m h2).trans h3, h4.imp (fun _ _ h => RepK.mono hz hs h) (fun _ _ h => RepK.mono hz hs h)⟩⟩

/-- The block that a pointer, or a slice, leads to. -/
def blk : Value → Nat
  | .pointer (some a) => a.block
  | .slice (some a) _ _ => a.block
  | _ => 0
def ob : Value → Option Nat
  | .pointer (some a) => some a.block
  | .slice (some a) _ c => if c = 0 then none else some a.block
  | .map (some m) => some m
  | _ => none

mutual
def Rep (Z : Nat → Prop) (ψ : Nat → Value) (h : Nat → Option Ob) (w : World) : AV → Value → Prop
  | .no, _ => True
  | .bool b, v => v = .bool b
  | .int k n, v => v = .int k n
  | .str s, v => v = .string s
  | .nilp, v => v = .pointer none
  | .nils, v => v = .slice none 0 0
  | .ref id s i off, v => ∃ a, v = .pointer (some a) ∧ (h id ≠ none → a = ⟨blk (ψ id), i * s + off, none⟩)
  | .fp k x off, v => ∃ a us, v = .pointer (some a) ∧ Z a.block ∧ RepK Z w k x us ∧ ∀ (j : Nat) u, us[off + j]? = some u → w.cell? (a.add j) = some u
  | .sl ex k xs, v => RepK Z w (.sl k) xs [v] ∧ (ex = true → ∃ A c, v = .slice A c c)
  | .mp kk vk es, v => RepK Z w (.mp kk vk) es [v]
  | .osl id, v => (v.cells = #[v] ∧ v.oneCell' = true) ∧ (h id ≠ none → v = ψ id)
  | .fn f cap, v => ∃ vs, v = .func (.func f) #[] vs ∧ RepL Z ψ h w cap vs.toList
  | .agg cs, v => ∃ vs, v = .agg vs ∧ RepL Z ψ h w cs vs.toList
  | .tup cs, v => ∃ vs, v = .tuple vs ∧ RepL Z ψ h w cs vs.toList
def RepL (Z : Nat → Prop) (ψ : Nat → Value) (h : Nat → Option Ob) (w : World) : List AV → List Value → Prop
  | [], vs => vs = []
  | a :: r, vs => ∃ v us, vs = v :: us ∧ Rep Z ψ h w a v ∧ RepL Z ψ h w r us
end

/-! The names that a value speaks of. -/
mutual
def Ment (p : Nat → Prop) : AV → Prop
  | .ref id _ _ _ => p id
  | .osl id => p id
  | .fn _ cap => MentL p cap
  | .agg cs => MentL p cs
  | .tup vs => MentL p vs
  | .no => True
  | .bool _ => True
  | .int _ _ => True
  | .str _ => True
  | .nilp => True
  | .nils => True
  | .fp _ _ _ => True
  | .sl _ _ _ => True
  | .mp _ _ _ => True
def MentL (p : Nat → Prop) : List AV → Prop
  | [] => True
  | v :: r => Ment p v ∧ MentL p r
end

section
variable {Z Z' : Nat → Prop} {w w' : World} {ψ ψ' : Nat → Value} {h h' : Nat → Option Ob} {p : Nat → Prop}
mutual
theorem Rep.move (hz : ∀ b, Z b → Z' b) (hs : Same Z w w') (hh : ∀ id, p id → h' id ≠ none → h id ≠ none ∧ ψ' id = ψ id) : ∀ {a : AV} {v : Value}, Ment p a → Rep Z ψ h w a v → Rep Z' ψ' h' w' a v
  | .no, _, _, _ => by simp only [Rep]
  | .bool b, _, _, hr => by simpa only [Rep] using hr
  | .int k n, _, _, hr => by simpa only [Rep] using hr
  | .str s, _, _, hr => by simpa only [Rep] using hr
  | .nilp, _, _, hr => by simpa only [Rep] using hr
  | .nils, _, _, hr => by simpa only [Rep] using hr
  | .ref id s i off, _, hm, hr => by
    simp only [Rep, Ment] at hr hm ⊢
    obtain ⟨a, rfl, ha⟩ := hr
    refine ⟨a, rfl, fun hn => ?_⟩
    obtain ⟨h1, h2⟩ := hh id hm hn
    rw [h2]; exact ha h1
  | .fp k x off, _, _, hr => by
    simp only [Rep] at hr ⊢
    obtain ⟨a, us, rfl, hza, hk, hc⟩ := hr
    refine ⟨a, us, rfl, hz _ hza, hk.mono hz hs, fun j u hu => ?_⟩
    rw [hs.cell (by rw [addr_block]; exact hza)]
    exact hc j u hu
  | .sl ex k xs, _, _, hr => by
    simp only [Rep] at hr ⊢
    exact ⟨RepK.mono hz hs hr.1, hr.2⟩
  | .mp kk vk es, _, _, hr => by
    simp only [Rep] at hr ⊢
    exact RepK.mono hz hs hr
  | .osl id, _, hm, hr => by
    simp only [Rep, Ment] at hr hm ⊢
    refine ⟨hr.1, fun hn => ?_⟩
    obtain ⟨h1, h2⟩ := hh id hm hn
    rw [h2]; exact hr.2 h1
  | .fn f cap, _, hm, hr => by
    simp only [Rep, Ment] at hr hm ⊢
    obtain ⟨vs, rfl, hl⟩ := hr
    exact ⟨vs, rfl, RepL.move hz hs hh hm hl⟩
  | .agg cs, _, hm, hr => by
    simp only [Rep, Ment] at hr hm ⊢
    obtain ⟨vs, rfl, hl⟩ := hr
    exact ⟨vs, rfl, RepL.move hz hs hh hm hl⟩
  | .tup cs, _, hm, hr => by
    simp only [Rep, Ment] at hr hm ⊢
    obtain ⟨vs, rfl, hl⟩ := hr
    exact ⟨vs, rfl, RepL.move hz hs hh hm hl⟩
theorem RepL.move (hz : ∀ b, Z b → Z' b) (hs : Same Z w w') (hh : ∀ id, p id → h' id ≠ none → h id ≠ none ∧ ψ' id = ψ id) : ∀ {a : List AV} {v : List Value}, MentL p a → RepL Z ψ h w a v → RepL Z' ψ' h' w' a v
  | [], _, _, hr => by simpa only [RepL] using hr
  | a :: r, _, hm, hr => by
    simp only [RepL, MentL] at hr hm ⊢
    obtain ⟨v, us, rfl, h1, h2⟩ := hr
    exact ⟨v, us, rfl, Rep.move hz hs hh hm.1 h1, RepL.move hz hs hh hm.2 h2⟩
end
mutual
theorem Ment.top : ∀ a : AV, Ment (fun _ => True) a
  | .no => by simp only [Ment]
  | .bool b => by simp only [Ment]
  | .int k n => by simp only [Ment]
  | .str s => by simp only [Ment]
  | .nilp => by simp only [Ment]
  | .nils => by simp only [Ment]
  | .ref id s i off => by simp only [Ment]
  | .fp k x off => by simp only [Ment]
  | .sl ex k xs => by simp only [Ment]
  | .mp kk vk es => by simp only [Ment]
  | .osl id => by simp only [Ment]
  | .fn f cap => by simp only [Ment]; exact MentL.top cap
  | .agg cs => by simp only [Ment]; exact MentL.top cs
  | .tup cs => by simp only [Ment]; exact MentL.top cs
theorem MentL.top : ∀ a : List AV, MentL (fun _ => True) a
  | [] => by simp only [MentL]
  | a :: r => by simp only [MentL]; exact ⟨Ment.top a, MentL.top r⟩
end
/-- Less is known: a lesser heap, an elder world. -/
theorem Rep.less (hz : ∀ b, Z b → Z' b) (hs : Same Z w w') (hh : ∀ id, h' id ≠ none → h id ≠ none ∧ ψ' id = ψ id) {a : AV} {v : Value} (hr : Rep Z ψ h w a v) : Rep Z' ψ' h' w' a v :=
  Rep.move (p := fun _ => True) hz hs (fun id _ hn => hh id hn) (Ment.top a) hr
theorem RepL.less (hz : ∀ b, Z b → Z' b) (hs : Same Z w w') (hh : ∀ id, h' id ≠ none → h id ≠ none ∧ ψ' id = ψ id) {a : List AV} {v : List Value} (hr : RepL Z ψ h w a v) : RepL Z' ψ' h' w' a v :=
  RepL.move (p := fun _ => True) hz hs (fun id _ hn => hh id hn) (MentL.top a) hr

theorem RepL.length : ∀ {a : List AV} {v : List Value}, RepL Z ψ h w a v → a.length = v.length
  | [], _, hr => by simp only [RepL] at hr; subst hr; rfl
  | a :: r, _, hr => by
    simp only [RepL] at hr
    obtain ⟨v, us, rfl, _, h2⟩ := hr
    simp [RepL.length h2]
theorem RepL.get : ∀ {a : List AV} {v : List Value} (i : Nat) {x : AV}, RepL Z ψ h w a v → a[i]? = some x → ∃ u, v[i]? = some u ∧ Rep Z ψ h w x u
  | [], _, i, x, _, hx => by simp at hx
  | a :: r, _, 0, x, hr, hx => by
    simp only [RepL] at hr
    obtain ⟨v, us, rfl, h1, h2⟩ := hr
    simp only [List.getElem?_cons_zero, Option.some.injEq] at hx; subst hx
    exact ⟨v, rfl, h1⟩
  | a :: r, _, i + 1, x, hr, hx => by
    simp only [RepL] at hr
    obtain ⟨v, us, rfl, h1, h2⟩ := hr
    obtain ⟨u, hu, hr⟩ := RepL.get i h2 (by simpa using hx)
    exact ⟨u, by simpa using hu, hr⟩
theorem RepL.append : ∀ {a b : List AV} {v u : List Value}, RepL Z ψ h w a v → RepL Z ψ h w b u → RepL Z ψ h w (a ++ b) (v ++ u)
  | [], b, _, u, hr, hb => by simp only [RepL] at hr; subst hr; exact hb
  | a :: r, b, _, u, hr, hb => by
    simp only [RepL] at hr
    obtain ⟨v, us, rfl, h1, h2⟩ := hr
    simp only [List.cons_append, RepL]
    exact ⟨v, us ++ u, rfl, h1, RepL.append h2 hb⟩
theorem RepL.split : ∀ {a b : List AV} {v : List Value}, RepL Z ψ h w (a ++ b) v → ∃ us ws, v = us ++ ws ∧ RepL Z ψ h w a us ∧ RepL Z ψ h w b ws
  | [], b, v, hr => ⟨[], v, rfl, by simp only [RepL], hr⟩
  | a :: r, b, v, hr => by
    simp only [List.cons_append, RepL] at hr
    obtain ⟨x, us, rfl, h1, h2⟩ := hr
    obtain ⟨us', ws, rfl, h3, h4⟩ := RepL.split h2
    exact ⟨x :: us', ws, rfl, by simp only [RepL]; exact ⟨x, us', rfl, h1, h3⟩, h4⟩
theorem RepL.drop (n : Nat) {a : List AV} {v : List Value} (hr : RepL Z ψ h w a v) : RepL Z ψ h w (a.drop n) (v.drop n) := by
  by_cases hn : n ≤ a.length
  · have hr' : RepL Z ψ h w (a.take n ++ a.drop n) v := by rw [List.take_append_drop]; exact hr
    obtain ⟨us, ws, rfl, h1, h2⟩ := RepL.split hr'
    have hl := h1.length
    rw [List.length_take, Nat.min_eq_left hn] at hl
    rw [hl, List.drop_left]; rw [← hl]; exact h2
  · have := hr.length
    rw [List.drop_eq_nil_of_le (by omega), List.drop_eq_nil_of_le (by omega)]; simp only [RepL]
theorem RepL.take (n : Nat) {a : List AV} {v : List Value} (hr : RepL Z ψ h w a v) : RepL Z ψ h w (a.take n) (v.take n) := by
  by_cases hn : n ≤ a.length
  · have hr' : RepL Z ψ h w (a.take n ++ a.drop n) v := by rw [List.take_append_drop]; exact hr
    obtain ⟨us, ws, rfl, h1, h2⟩ := RepL.split hr'
    have hl := h1.length
    rw [List.length_take, Nat.min_eq_left hn] at hl
    conv => rhs; rw [hl, List.take_left]
    exact h1
  · have := hr.length
    rw [List.take_of_length_le (by omega), List.take_of_length_le (by omega)]; exact hr
theorem RepL.set : ∀ {a : List AV} {v : List Value} (i : Nat) {x : AV} {u : Value}, RepL Z ψ h w a v → Rep Z ψ h w x u → RepL Z ψ h w (a.set i x) (v.set i u)
  | [], _, i, x, u, hr, _ => by simp only [RepL] at hr; subst hr; simp only [List.set_nil, RepL]
  | a :: r, _, 0, x, u, hr, hx => by
    simp only [RepL] at hr
    obtain ⟨v, us, rfl, h1, h2⟩ := hr
    simp only [List.set_cons_zero, RepL]; exact ⟨u, us, rfl, hx, h2⟩
  | a :: r, _, i + 1, x, u, hr, hx => by
    simp only [RepL] at hr
    obtain ⟨v, us, rfl, h1, h2⟩ := hr
    simp only [List.set_cons_succ, RepL]; exact ⟨v, _, rfl, h1, RepL.set i h2 hx⟩

/-! ### Data as abstract values, and back -/
theorem enc_rep : ∀ {k : K} {x : k.T} {vs : List Value}, RepK Z w k x vs → RepL Z ψ h w (enc k x) vs
  | .int _, _, _, hr => by simp only [RepK] at hr; subst hr; simp [enc, RepL, Rep]
  | .bool, _, _, hr => by simp only [RepK] at hr; subst hr; simp [enc, RepL, Rep]
  | .str, _, _, hr => by simp only [RepK] at hr; subst hr; simp [enc, RepL, Rep]
  | .sl k, xs, _, hr => by
    have hr' := hr
    simp only [RepK] at hr'
    obtain ⟨v, rfl, _⟩ := hr'
    simp only [enc, RepL, Rep]
    exact ⟨v, [], rfl, ⟨hr, by simp⟩, rfl⟩
  | .pair a b, x, _, hr => by
    simp only [RepK] at hr
    obtain ⟨us, ws, rfl, h1, h2⟩ := hr
    simp only [enc]
    exact RepL.append (enc_rep h1) (enc_rep h2)
  | .one k, x, _, hr => by
    simp only [RepK] at hr
    simp only [enc]
    exact enc_rep (k := k) hr
  | .mp kk vk, es, _, hr => by
    have hr' := hr
    simp only [RepK] at hr'
    obtain ⟨A, rfl, _⟩ := hr'
    simp only [enc, RepL, Rep]
    exact ⟨_, [], rfl, hr, rfl⟩

theorem nils_rep {k : K} {v : Value} (hr : Rep Z ψ h w .nils v) : RepK Z w (.sl k) [] [v] := by
  simp only [Rep] at hr
  subst hr
  simp only [RepK]
  exact ⟨_, rfl, none, 0, rfl, Nat.le_refl _, fun _ => rfl, fun i x hx => by simp at hx⟩
theorem dec_rep : ∀ {k : K} {cs : List AV} {x : k.T} {r : List AV} {vs : List Value}, dec k cs = some (x, r) → RepL Z ψ h w cs vs → ∃ us ws, vs = us ++ ws ∧ RepK Z w k x us ∧ RepL Z ψ h w r ws
  | .int ik, cs, x, r, vs, hd, hr => by
    simp only [dec] at hd
    unfold decInt at hd
    split at hd
    · split at hd
      · rename_i he
        subst he
        cases hd
        simp only [RepL, Rep] at hr
        obtain ⟨v, us, rfl, rfl, h2⟩ := hr
        exact ⟨[_], us, rfl, by simp only [RepK], h2⟩
      · cases hd
    · cases hd
  | .bool, cs, x, r, vs, hd, hr => by
    simp only [dec] at hd
    unfold decBool at hd
    split at hd
    · cases hd
      simp only [RepL, Rep] at hr
      obtain ⟨v, us, rfl, rfl, h2⟩ := hr
      exact ⟨[_], us, rfl, by simp only [RepK], h2⟩
    · cases hd
  | .str, cs, x, r, vs, hd, hr => by
    simp only [dec] at hd
    unfold decStr at hd
    split at hd
    · cases hd
      simp only [RepL, Rep] at hr
      obtain ⟨v, us, rfl, rfl, h2⟩ := hr
      exact ⟨[_], us, rfl, by simp only [RepK], h2⟩
    · cases hd
  | .sl k, cs, x, r, vs, hd, hr => by
    simp only [dec] at hd
    unfold decSl at hd
    split at hd
    · split at hd
      · rename_i he
        subst he
        cases hd
        simp only [RepL] at hr
        obtain ⟨v, us, rfl, h1, h2⟩ := hr
        simp only [Rep] at h1
        exact ⟨[_], us, rfl, h1.1, h2⟩
      · cases hd
    · cases hd
      simp only [RepL] at hr
      obtain ⟨v, us, rfl, h1, h2⟩ := hr
      exact ⟨[_], us, rfl, nils_rep h1, h2⟩
    · cases hd
  | .pair a b, cs, x, r, vs, hd, hr => by
    simp only [dec] at hd
    split at hd
    · rename_i x1 r1 h1
      split at hd
      · rename_i y1 r2 h2
        cases hd
        obtain ⟨us, ws, rfl, k1, k2⟩ := dec_rep h1 hr
        obtain ⟨us', ws', rfl, k3, k4⟩ := dec_rep h2 k2
        exact ⟨us ++ us', ws', by rw [List.append_assoc], by simp only [RepK]; exact ⟨us, us', rfl, k1, k3⟩, k4⟩
      · cases hd
    · cases hd
  | .one k, cs, x, r, vs, hd, hr => by
    simp only [dec] at hd
    obtain ⟨us, ws, e, k1, k2⟩ := dec_rep (k := k) hd hr
    exact ⟨us, ws, e, by simp only [RepK]; exact k1, k2⟩
  | .mp kk vk, cs, x, r, vs, hd, hr => by
    simp only [dec] at hd
    unfold decMp at hd
    split at hd
    · split at hd
      · rename_i he
        obtain ⟨rfl, rfl⟩ := he
        cases hd
        simp only [RepL] at hr
        obtain ⟨v, us, rfl, h1, h2⟩ := hr
        simp only [Rep] at h1
        exact ⟨[_], us, rfl, h1, h2⟩
      · cases hd
    · cases hd
theorem decOne_rep {k : K} {cs : List AV} {x : k.T} {vs : List Value} (hd : decOne k cs = some x) (hr : RepL Z ψ h w cs vs) : RepK Z w k x vs := by
  unfold decOne at hd
  split at hd
  · rename_i x' h1
    cases hd
    obtain ⟨us, ws, rfl, k1, k2⟩ := dec_rep h1 hr
    simp only [RepL] at k2
    subst k2
    rw [List.append_nil]; exact k1
  · cases hd

/-- One value of a kind. -/
theorem encV_rep {k : K} {x : k.T} {v : Value} (hr : RepK Z w k x v.cells.toList) (hp : k.isAgg = true → ∃ vs, v = .agg vs) (hn : k.isAgg = false → v.cells = #[v]) : Rep Z ψ h w (encV k x) v := by
  cases k with
  | int ik => rw [hn rfl] at hr; simp only [RepK] at hr; simp only [encV, Rep]; simpa using hr
  | bool => rw [hn rfl] at hr; simp only [RepK] at hr; simp only [encV, Rep]; simpa using hr
  | str => rw [hn rfl] at hr; simp only [RepK] at hr; simp only [encV, Rep]; simpa using hr
  | sl k => rw [hn rfl] at hr; simp only [encV, Rep]; exact ⟨hr, by simp⟩
  | mp kk vk => rw [hn rfl] at hr; simp only [encV, Rep]; exact hr
  | pair a b =>
    obtain ⟨vs, rfl⟩ := hp rfl
    simp only [encV, Rep]
    exact ⟨vs, rfl, enc_rep hr⟩
  | one k =>
    obtain ⟨vs, rfl⟩ := hp rfl
    simp only [encV, Rep]
    exact ⟨vs, rfl, enc_rep hr⟩
end
end Go.Vs

namespace Go.Vs

theorem Heap.get_del_ne {n m : Nat} (hne : m ≠ n) : ∀ h : Heap, (h.del n).get m = h.get m
  | [] => rfl
  | (i, o) :: r => by
    simp only [Heap.del]
    split
    · rename_i hi
      rw [Heap.get_del_ne hne r]
      simp only [Heap.get]
      rw [if_neg (by omega)]
    · simp only [Heap.get]
      split
      · rfl
      · exact Heap.get_del_ne hne r
theorem Heap.get_del_self (n : Nat) : ∀ h : Heap, (h.del n).get n = none
  | [] => rfl
  | (i, o) :: r => by
    simp only [Heap.del]
    split
    · exact Heap.get_del_self n r
    · rename_i hi
      simp only [Heap.get]
      rw [if_neg hi]; exact Heap.get_del_self n r
theorem Heap.get_set_self (h : Heap) (n : Nat) (o : Ob) : (h.set n o).get n = some o := by simp [Heap.set, Heap.get]
theorem Heap.get_set_ne {n m : Nat} (hne : m ≠ n) (h : Heap) (o : Ob) : (h.set n o).get m = h.get m := by
  simp only [Heap.set, Heap.get]
  rw [if_neg (by omega)]
  exact Heap.get_del_ne hne h
theorem Heap.get_del_some {n m : Nat} {h : Heap} {o : Ob} (hg : (h.del n).get m = some o) : h.get m = some o ∧ m ≠ n := by
  by_cases hne : m = n
  · subst hne; rw [Heap.get_del_self] at hg; cases hg
  · rw [Heap.get_del_ne hne] at hg; exact ⟨hg, hne⟩
theorem Heap.get_append (a b : Heap) (n : Nat) : (a ++ b).get n = (match a.get n with | some o => some o | none => b.get n) := by
  induction a with
  | nil => rfl
  | cons p r ih =>
    obtain ⟨i, o⟩ := p
    simp only [List.cons_append, Heap.get]
    split
    · rfl
    · exact ih

def RowV (Z : Nat → Prop) (w : World) (k : K) (xs : List k.T) (vs : List Value) : Prop :=
  ∀ (i : Nat) (x : k.T), xs[i]? = some x → RepK Z w k x ((vs.drop (i * k.sz)).take k.sz)

abbrev Hp := Nat → Option Ob

/-- A slice that is one's own: with no room at all (there may be anything ahead of it), or the whole of a block. -/
def OwnR (w : World) (e : TypeId) (size : Nat) (v : Value) (n : Nat) (vs : List Value) : Prop :=
  vs.length = n * size ∧
  ((n = 0 ∧ ∃ A, v = .slice A 0 0) ∨
   ∃ g cap cur, v = .slice (some ⟨g, 0, none⟩) n cap ∧ 0 < cap ∧ w.heap[g]? = some (.cells cur e (0, 0)) ∧ n ≤ cap ∧ cap ≤ maxLen ∧ cur.size = cap * size ∧ cur.toList.take (n * size) = vs)
theorem OwnR.of {w : World} {base e size n : Nat} {v : Value} {vs : List Value} (h : w.ownsRow base e size v n vs) : OwnR w e size v n vs := by
  obtain ⟨h1, h2⟩ := h
  refine ⟨h1, ?_⟩
  rcases h2 with ⟨rfl, h2⟩ | ⟨g, cap, cur, rfl, _, h3, h4, h5, h6, h7⟩
  · exact .inl ⟨h2, none, rfl⟩
  · by_cases hc : cap = 0
    · subst hc
      have : n = 0 := by omega
      subst this
      exact .inl ⟨rfl, _, rfl⟩
    · exact .inr ⟨g, cap, cur, rfl, by omega, h3, h4, h5, h6, h7⟩
theorem OwnR.slice {w : World} {e size n : Nat} {v : Value} {vs : List Value} (h : OwnR w e size v n vs) : ∃ A c, v = .slice A n c := by
  rcases h.2 with ⟨h0, A, rfl⟩ | ⟨g, cap, cur, rfl, _⟩
  · subst h0; exact ⟨A, 0, rfl⟩
  · exact ⟨_, _, rfl⟩
theorem OwnR.one {w : World} {e size n : Nat} {v : Value} {vs : List Value} (h : OwnR w e size v n vs) : v.cells = #[v] ∧ v.oneCell' = true := by
  obtain ⟨A, c, rfl⟩ := h.slice
  exact ⟨rfl, by simp [Value.oneCell']⟩
theorem OwnR.kept {w w' : World} {e size n : Nat} {v : Value} {vs : List Value} (ho : OwnR w e size v n vs) (hk : ∀ g, ob v = some g → w'.heap[g]? = w.heap[g]?) : OwnR w' e size v n vs := by
  obtain ⟨h1, h2⟩ := ho
  refine ⟨h1, ?_⟩
  rcases h2 with h2 | ⟨g, cap, cur, rfl, hc, hh, r⟩
  · exact .inl h2
  · exact .inr ⟨g, cap, cur, rfl, hc, (hk g (by simp only [ob]; rw [if_neg (by omega)])).trans hh, r⟩

/-- What is one's own, in the world. -/
def OwnOb (Z : Nat → Prop) (w : World) : (ok : OK) → Value → ok.T → Prop
  | .row ty k, v, xs => ∃ vs, OwnR w ty k.sz v xs.length vs ∧ RowV Z w k xs vs
  | .map kk vk, v, es => ∃ m ents clock, v = .map (some m) ∧ w.heap[m]? = some (.map ents clock) ∧ EntC (RepK Z w kk) (RepK Z w vk) kk.isAgg vk.isAgg es ents.toList ∧ ents.toList.Pairwise (fun a b => a.born ≠ b.born) ∧ ∀ e ∈ ents.toList, e.born < clock
  | .iter kk vk, v, x => ∃ r m since seen ents clock, v = .pointer (some ⟨r, 0, none⟩) ∧ w.heap[r]? = some (.mapIter (some m) since seen clock) ∧ Z m ∧ w.heap[m]? = some (.map ents clock) ∧
      ents.toList.Pairwise (fun a b => a.born ≠ b.born) ∧ since = clock ∧ (∀ e ∈ ents.toList, e.born < clock) ∧ EntC (RepK Z w kk) (RepK Z w vk) kk.isAgg vk.isAgg x.2 (ents.toList.filter fun e => !seen.contains e.born) ∧
      (match x.1 with | none => True | some c => ∃ e ∈ ents.toList, seen.back? = some e.born ∧ EntC (RepK Z w kk) (RepK Z w vk) kk.isAgg vk.isAgg [c] [e])
  | .siter, v, x => ∃ r, v = .pointer (some ⟨r, 0, none⟩) ∧ w.heap[r]? = some (.stringIter x.1 x.2)
theorem OwnOb.lt {Z : Nat → Prop} {w : World} : ∀ {ok : OK} {v : Value} {x : ok.T} {b : Nat}, OwnOb Z w ok v x → ob v = some b → b < w.heap.size
  | .row ty k, v, xs, b, h, hb => by
    obtain ⟨vs, ⟨_, h⟩, _⟩ := h
    rcases h with ⟨_, A, rfl⟩ | ⟨g, cap, cur, rfl, hc, h2, _⟩
    · cases A <;> simp [ob] at hb
    · simp only [ob] at hb
      rw [if_neg (by omega)] at hb
      cases hb
      exact (Array.getElem?_eq_some_iff.1 h2).1
  | .map _ _, v, _, b, h, hb => by
    obtain ⟨m, ents, clock, rfl, h2, _⟩ := h
    simp only [ob, Option.some.injEq] at hb; subst hb
    exact (Array.getElem?_eq_some_iff.1 h2).1
  | .iter _ _, v, _, b, h, hb => by
    obtain ⟨r, m, since, seen, ents, clock, rfl, h2, _⟩ := h
    simp only [ob, Option.some.injEq] at hb; subst hb
    exact (Array.getElem?_eq_some_iff.1 h2).1
  | .siter, v, _, b, h, hb => by
    obtain ⟨r, rfl, h2⟩ := h
    simp only [ob, Option.some.injEq] at hb; subst hb
    exact (Array.getElem?_eq_some_iff.1 h2).1
theorem OwnOb.one {Z : Nat → Prop} {w : World} : ∀ {ok : OK} {v : Value} {x : ok.T}, OwnOb Z w ok v x → v.cells = #[v] ∧ v.oneCell' = true
  | .row ty k, v, xs, h => by
    obtain ⟨vs, h, _⟩ := h
    obtain ⟨A, c, rfl⟩ := h.slice
    exact ⟨rfl, by simp [Value.oneCell']⟩
  | .map _ _, v, _, h => by obtain ⟨m, ents, clock, rfl, _⟩ := h; exact ⟨rfl, by simp [Value.oneCell']⟩
  | .iter _ _, v, _, h => by obtain ⟨r, m, since, seen, ents, clock, rfl, _⟩ := h; exact ⟨rfl, by simp [Value.oneCell']⟩
  | .siter, v, _, h => by obtain ⟨r, rfl, _⟩ := h; exact ⟨rfl, by simp [Value.oneCell']⟩
theorem OwnOb.kept {Z Z' : Nat → Prop} {w w' : World} (hz : ∀ b, Z b → Z' b) (sm : Same Z w w') : ∀ {ok : OK} {v : Value} {x : ok.T}, (∀ g, ob v = some g → w'.heap[g]? = w.heap[g]?) → OwnOb Z w ok v x → OwnOb Z' w' ok v x
  | .row ty k, v, xs, hk, h => by
    obtain ⟨vs, h1, h2⟩ := h
    exact ⟨vs, h1.kept hk, fun i x hx => (h2 i x hx).mono hz sm⟩
  | .map _ _, v, _, hk, h => by
    obtain ⟨m, ents, clock, rfl, h2, h3, h4⟩ := h
    exact ⟨m, ents, clock, rfl, (hk m rfl).trans h2, h3.imp (fun _ _ h => h.mono hz sm) (fun _ _ h => h.mono hz sm), h4⟩
  | .iter _ _, v, x, hk, h => by
    obtain ⟨r, m, since, seen, ents, clock, rfl, h2, h3, h4, h5, h6, h7, h8, h9⟩ := h
    refine ⟨r, m, since, seen, ents, clock, rfl, (hk r rfl).trans h2, hz _ h3, (sm m h3).trans h4, h5, h6, h7, h8.imp (fun _ _ h => h.mono hz sm) (fun _ _ h => h.mono hz sm), ?_⟩
    split
    · trivial
    · rename_i c hc
      rw [hc] at h9
      obtain ⟨e, he, h10, h11⟩ := h9
      exact ⟨e, he, h10, h11.imp (fun _ _ h => h.mono hz sm) (fun _ _ h => h.mono hz sm)⟩
  | .siter, v, _, hk, h => by
    obtain ⟨r, rfl, h2⟩ := h
    exact ⟨r, rfl, (hk r rfl).trans h2⟩

structure Good (Z : Nat → Prop) (ψ : Nat → Value) (h : Hp) (w : World) (B0 : Nat) (O : Nat → Prop) : Prop where
  box : ∀ id ty cs, h id = some (.box ty cs) → ∃ g vs, ψ id = .pointer (some ⟨g, 0, none⟩) ∧ w.heap[g]? = some (.cells vs ty (0, 0)) ∧ RepL Z ψ h w cs vs.toList ∧ ∀ u ∈ vs.toList, u.oneCell' = true
  row : ∀ id ok x, h id = some (.own ok x) → OwnOb Z w ok (ψ id) x
  live : ∀ id g, h id ≠ none → ob (ψ id) = some g → ¬ Z g ∧ (B0 ≤ g ∨ O g)
  apart : ∀ id id' g, h id ≠ none → h id' ≠ none → ob (ψ id) = some g → ob (ψ id') = some g → id = id'
  zlt : ∀ b, Z b → b < w.heap.size

variable {Z Z' : Nat → Prop} {ψ ψ' : Nat → Value} {h h' : Hp} {w w' : World} {B0 : Nat} {O : Nat → Prop}

theorem Good.sub (g : Good Z ψ h w B0 O) (hs : ∀ id o, h' id = some o → h id = some o) : Good Z ψ h' w B0 O := by
  have hn : ∀ id, h' id ≠ none → h id ≠ none := fun id hn => by
    obtain ⟨o, ho⟩ := Option.ne_none_iff_exists'.1 hn
    rw [hs id o ho]; simp
  refine ⟨fun id ty cs hb => ?_, fun id ok x hb => g.row id ok x (hs _ _ hb), fun id b h1 h2 => g.live id b (hn id h1) h2, fun id id' b h1 h2 h3 h4 => g.apart id id' b (hn _ h1) (hn _ h2) h3 h4, g.zlt⟩
  obtain ⟨b, vs, h1, h2, h3, h4⟩ := g.box id ty cs (hs _ _ hb)
  exact ⟨b, vs, h1, h2, RepL.less (fun _ h => h) (Same.refl _ _) (fun id hid => ⟨hn id hid, rfl⟩) h3, h4⟩

/-- Some of what is one's own becomes data: Z grows by blocks of names that go. -/
theorem Good.freeze (g : Good Z ψ h w B0 O) (hs : ∀ id o, h' id = some o → h id = some o) (hz : ∀ b, Z b → Z' b)
    (hz' : ∀ b, Z' b → Z b ∨ ∃ id, h id ≠ none ∧ h' id = none ∧ ob (ψ id) = some b) : Good Z' ψ h' w B0 O := by
  have hn : ∀ id, h' id ≠ none → h id ≠ none := fun id hn => by
    obtain ⟨o, ho⟩ := Option.ne_none_iff_exists'.1 hn
    rw [hs id o ho]; simp
  have lt : ∀ id b, h id ≠ none → ob (ψ id) = some b → b < w.heap.size := by
    intro id b h1 h2
    obtain ⟨o, ho⟩ := Option.ne_none_iff_exists'.1 h1
    cases o with
    | box ty cs =>
      obtain ⟨gg, vs, e1, e2, _⟩ := g.box id ty cs ho
      rw [e1] at h2; simp only [ob, Option.some.injEq] at h2; subst h2
      exact (Array.getElem?_eq_some_iff.1 e2).1
    | own ok x => exact (g.row id ok x ho).lt h2
  refine ⟨fun id ty cs hb => ?_, fun id ok x hb => ?_, fun id b h1 h2 => ⟨fun hzb => ?_, (g.live id b (hn id h1) h2).2⟩, fun id id' b h1 h2 h3 h4 => g.apart id id' b (hn _ h1) (hn _ h2) h3 h4, fun b hb => ?_⟩
  · obtain ⟨b, vs, h1, h2, h3, h4⟩ := g.box id ty cs (hs _ _ hb)
    exact ⟨b, vs, h1, h2, RepL.less hz (Same.refl _ _) (fun id hid => ⟨hn id hid, rfl⟩) h3, h4⟩
  · exact (g.row id ok x (hs _ _ hb)).kept hz (Same.refl _ _) (fun _ _ => rfl)
  · rcases hz' b hzb with h3 | ⟨id', h3, h4, h5⟩
    · exact (g.live id b (hn id h1) h2).1 h3
    · have := g.apart id id' b (hn id h1) h3 h2 h5
      subst this; exact h1 h4
  · rcases hz' b hb with h3 | ⟨id', h3, h4, h5⟩
    · exact g.zlt b h3
    · exact lt id' b h3 h5

/-- A row of one's own, seen as data where its block may be read. -/
theorem row_data {ty : TypeId} {k : K} {xs : List k.T} {v : Value} {vs : List Value} (ho : OwnR w ty k.sz v xs.length vs) (hv : RowV Z w k xs vs) (hz : ∀ b, Z b → Z' b) (hb : ∀ b, ob v = some b → Z' b) :
    RepK Z' w (.sl k) xs [v] := by
  simp only [RepK]
  refine ⟨v, rfl, ?_⟩
  obtain ⟨hl, e⟩ := ho
  rcases e with ⟨h0, A, rfl⟩ | ⟨g, cap, cur, rfl, hpos, hh, hc, _, hs, hcur⟩
  · have : xs = [] := List.eq_nil_of_length_eq_zero h0
    subst this
    exact ⟨A, 0, rfl, Nat.le_refl _, fun _ => rfl, fun i x hx => by simp at hx⟩
  · refine ⟨some ⟨g, 0, none⟩, cap, rfl, hc, fun e => (by cases e), fun i x hx => ?_⟩
    have hi : i < xs.length := (List.getElem?_eq_some_iff.1 hx).1
    refine ⟨⟨g, 0, none⟩, _, rfl, hb g (by simp only [ob]; rw [if_neg (by omega)]), (hv i x hx).mono hz (Same.refl _ _), fun j u hu => ?_⟩
    rw [addr_plain, Nat.zero_add]
    simp only [World.cell?, hh]
    rw [List.getElem?_take] at hu
    split at hu
    · rename_i hj
      rw [List.getElem?_drop] at hu
      rw [← hcur, List.getElem?_take] at hu
      split at hu
      · simpa using hu
      · cases hu
    · cases hu

theorem view1_rep {hh : Heap} {a : AV} {v : Value} (g : Good Z ψ hh.get w B0 O) (hz : ∀ b, Z b → Z' b) (hb : ∀ id b, a = .osl id → hh.get id ≠ none → ob (ψ id) = some b → Z' b) (hr : Rep Z ψ hh.get w a v) : Rep Z' ψ hh.get w (view1 hh a) v := by
  unfold view1
  split
  · rename_i id
    split
    · rename_i ty k xs hg
      simp only [Rep] at hr
      have hv := hr.2 (by rw [hg]; simp)
      subst hv
      obtain ⟨vs, h1, h2⟩ := g.row id (.row ty k) xs hg
      simp only [Rep]
      exact ⟨row_data h1 h2 hz (fun b hbb => hb id b rfl (by rw [hg]; simp) hbb), by simp⟩
    · rename_i kk vk es hg
      simp only [Rep] at hr
      have hv := hr.2 (by rw [hg]; simp)
      subst hv
      obtain ⟨m, ents, clock, h1, h2, h3, _⟩ := g.row id (.map kk vk) es hg
      simp only [Rep, RepK]
      refine ⟨some m, by rw [h1], .inr ⟨m, ents, clock, rfl, hb id m rfl (by rw [hg]; simp) (by rw [h1]; rfl), h2, h3.imp (fun _ _ h => h.mono hz (Same.refl _ _)) (fun _ _ h => h.mono hz (Same.refl _ _))⟩⟩
    · simp only [Rep]
  · exact hr.less hz (Same.refl _ _) (fun id hid => ⟨hid, rfl⟩)

theorem views_rep {hh : Heap} (g : Good Z ψ hh.get w B0 O) (hz : ∀ b, Z b → Z' b) : ∀ {cs : List AV} {vs : List Value}, (∀ id b, AV.osl id ∈ cs → hh.get id ≠ none → ob (ψ id) = some b → Z' b) → RepL Z ψ hh.get w cs vs → RepL Z' ψ hh.get w (cs.map (view1 hh)) vs
  | [], _, _, hr => by simpa only [RepL, List.map_nil] using hr
  | a :: r, _, hb, hr => by
    simp only [RepL, List.map_cons] at hr ⊢
    obtain ⟨v, us, rfl, h1, h2⟩ := hr
    exact ⟨v, us, rfl, view1_rep g hz (fun id b e => hb id b (by rw [e]; simp)) h1, views_rep g hz (fun id b e => hb id b (List.mem_cons_of_mem _ e)) h2⟩

/-- drop1, drops: what goes, and that it goes to Z. -/
theorem drop1_sub (hh : Heap) (a : AV) : ∀ id o, (drop1 hh a).get id = some o → hh.get id = some o := by
  intro id o hg
  unfold drop1 at hg
  split at hg
  · exact (Heap.get_del_some hg).1
  · exact hg
theorem drops_sub : ∀ (cs : List AV) (hh : Heap), ∀ id o, (drops hh cs).get id = some o → hh.get id = some o
  | [], _, _, _, hg => hg
  | c :: r, hh, id, o, hg => drop1_sub hh c id o (drops_sub r (drop1 hh c) id o hg)
theorem drops_gone : ∀ (cs : List AV) (hh : Heap) (id : Nat), AV.osl id ∈ cs → (drops hh cs).get id = none
  | [], _, _, hm => by simp at hm
  | c :: r, hh, id, hm => by
    simp only [drops]
    rcases List.mem_cons.1 hm with rfl | hm
    · cases hg : (drops (drop1 hh (.osl id)) r).get id with
      | none => rfl
      | some o =>
        have := drops_sub r _ id o hg
        simp only [drop1, Heap.get_del_self] at this; cases this
    · exact drops_gone r _ id hm
theorem drops_keep : ∀ (cs : List AV) (hh : Heap) (id : Nat), AV.osl id ∉ cs → (drops hh cs).get id = hh.get id
  | [], _, _, _ => rfl
  | c :: r, hh, id, hm => by
    simp only [drops]
    rw [drops_keep r _ id (fun h => hm (List.mem_cons_of_mem _ h))]
    unfold drop1
    split
    · rename_i id'
      exact Heap.get_del_ne (fun e => hm (by rw [e]; simp)) hh
    · rfl
/-- The blocks of the rows that are handed away. -/
def Zof (Z : Nat → Prop) (ψ : Nat → Value) (h : Hp) (cs : List AV) : Nat → Prop := fun b => Z b ∨ ∃ id, AV.osl id ∈ cs ∧ h id ≠ none ∧ ob (ψ id) = some b
theorem drops_good {hh : Heap} (g : Good Z ψ hh.get w B0 O) (cs : List AV) : Good (Zof Z ψ hh.get cs) ψ (drops hh cs).get w B0 O :=
  g.freeze (drops_sub cs hh) (fun _ hb => .inl hb) (fun b hb => by
    rcases hb with hb | ⟨id, h1, h2, h3⟩
    · exact .inl hb
    · exact .inr ⟨id, h2, drops_gone cs hh id h1, h3⟩)
end Go.Vs

namespace Go.Vs

def Own (ψ : Nat → Value) (h : Hp) (b : Nat) : Prop := ∃ id, h id ≠ none ∧ ob (ψ id) = some b

/-- w' is w, but for blocks of one's own, and new ones. -/
structure Keep (ψ : Nat → Value) (h : Hp) (w w' : World) : Prop where
  os : w'.os = w.os
  tape : w'.tape = w.tape
  output : w'.output = w.output
  size : w.heap.size ≤ w'.heap.size
  block : ∀ b, b < w.heap.size → ¬ Own ψ h b → w'.heap[b]? = w.heap[b]?

structure Next (Z : Nat → Prop) (ψ : Nat → Value) (h : Hp) (w : World) (B0 : Nat) (O : Nat → Prop) (N : Nat → Prop) (Z' : Nat → Prop) (ψ' : Nat → Value) (h' : Hp) (w' : World) : Prop where
  zsub : ∀ b, Z b → Z' b
  zfrom : ∀ b, Z' b → Z b ∨ Own ψ h b ∨ w.heap.size ≤ b
  keep : Keep ψ h w w'
  ids : ∀ id, h' id ≠ none → (h id ≠ none ∧ ψ' id = ψ id) ∨ N id
  good : Good Z' ψ' h' w' B0 O

variable {Z Z' : Nat → Prop} {ψ ψ' : Nat → Value} {h h' : Hp} {w w' : World} {B0 : Nat} {O : Nat → Prop} {N : Nat → Prop}

theorem Keep.refl (ψ : Nat → Value) (h : Hp) (w : World) : Keep ψ h w w := ⟨rfl, rfl, rfl, Nat.le_refl _, fun _ _ _ => rfl⟩
theorem Keep.same (k : Keep ψ h w w') (g : Good Z ψ h w B0 O) : Same Z w w' := fun b hb => k.block b (g.zlt b hb) (fun ⟨id, h1, h2⟩ => (g.live id b h1 h2).1 hb)
theorem Next.same (n : Next Z ψ h w B0 O N Z' ψ' h' w') (g : Good Z ψ h w B0 O) : Same Z w w' := n.keep.same g
theorem Next.refl (g : Good Z ψ h w B0 O) : Next Z ψ h w B0 O N Z ψ h w :=
  ⟨fun _ h => h, fun _ h => .inl h, Keep.refl _ _ _, fun _ hid => .inl ⟨hid, rfl⟩, g⟩
/-- What a value says, behind a step, if it speaks of none of the new names. -/
theorem Next.rep (n : Next Z ψ h w B0 O N Z' ψ' h' w') (g : Good Z ψ h w B0 O) {a : AV} {v : Value} (hm : Ment (fun id => ¬ N id) a) (hr : Rep Z ψ h w a v) : Rep Z' ψ' h' w' a v :=
  hr.move n.zsub (n.same g) (fun id hp hid => (n.ids id hid).resolve_right hp) hm
theorem Good.own_lt (g : Good Z ψ h w B0 O) {b : Nat} (ho : Own ψ h b) : b < w.heap.size := by
  obtain ⟨id, h1, h2⟩ := ho
  obtain ⟨o, ho⟩ := Option.ne_none_iff_exists'.1 h1
  cases o with
  | box ty cs =>
    obtain ⟨gg, vs, e1, e2, _⟩ := g.box id ty cs ho
    rw [e1] at h2; simp only [ob, Option.some.injEq] at h2; subst h2
    exact (Array.getElem?_eq_some_iff.1 e2).1
  | own ok x => exact (g.row id ok x ho).lt h2

/-- The heap grows by something new: the world's own blocks are as they were. -/
theorem Good.more (g : Good Z ψ h w B0 O) (k : Keep ψ h w w') (hsame : ∀ b, Own ψ h b → w'.heap[b]? = w.heap[b]?)
    (hold : ∀ id, ¬ N id → h' id = h id ∧ ψ' id = ψ id)
    (hment : ∀ id ty cs, h id = some (.box ty cs) → MentL (fun i => ¬ N i) cs)
    (hbox : ∀ id ty cs, N id → h' id = some (.box ty cs) → ∃ g vs, ψ' id = .pointer (some ⟨g, 0, none⟩) ∧ w'.heap[g]? = some (.cells vs ty (0, 0)) ∧ RepL Z ψ' h' w' cs vs.toList ∧ ∀ u ∈ vs.toList, u.oneCell' = true)
    (hrow : ∀ id ok x, N id → h' id = some (.own ok x) → OwnOb Z w' ok (ψ' id) x)
    (hlive : ∀ id b, N id → h' id ≠ none → ob (ψ' id) = some b → w.heap.size ≤ b)
    (hapart : ∀ id id' b, N id → N id' → h' id ≠ none → h' id' ≠ none → ob (ψ' id) = some b → ob (ψ' id') = some b → id = id') (hB : B0 ≤ w.heap.size) :
    Next Z ψ h w B0 O N Z ψ' h' w' := by
  have hids : ∀ id, h' id ≠ none → (h id ≠ none ∧ ψ' id = ψ id) ∨ N id := fun id hid => by
    by_cases hn : N id
    · exact .inr hn
    · obtain ⟨e1, e2⟩ := hold id hn
      exact .inl ⟨by rwa [e1] at hid, e2⟩
  have sm : Same Z w w' := k.same g
  have cross : ∀ id b, ¬ N id → h' id ≠ none → ob (ψ' id) = some b → Own ψ h b := fun id b hn h1 h2 => by
    obtain ⟨e1, e2⟩ := hold id hn
    exact ⟨id, by rwa [e1] at h1, by rwa [e2] at h2⟩
  refine ⟨fun _ h => h, fun _ h => .inl h, k, hids, ⟨fun id ty cs hb => ?_, fun id ok x hb => ?_, fun id b h1 h2 => ?_, fun id id' b h1 h2 h3 h4 => ?_, fun b hb => Nat.lt_of_lt_of_le (g.zlt b hb) k.size⟩⟩
  · by_cases hn : N id
    · exact hbox id ty cs hn hb
    · obtain ⟨e1, e2⟩ := hold id hn
      rw [e1] at hb
      obtain ⟨gg, vs, h1, h2, h3, h4⟩ := g.box id ty cs hb
      have ho : Own ψ h gg := ⟨id, by rw [hb]; simp, by rw [h1]; rfl⟩
      exact ⟨gg, vs, by rw [e2, h1], (hsame gg ho).trans h2, h3.move (fun _ h => h) sm (fun i hp hid => (hids i hid).resolve_right hp) (hment id ty cs hb), h4⟩
  · by_cases hn : N id
    · exact hrow id ok x hn hb
    · obtain ⟨e1, e2⟩ := hold id hn
      rw [e1] at hb
      rw [e2]
      exact (g.row id ok x hb).kept (fun _ h => h) sm (fun gg hgg => hsame gg ⟨id, by rw [hb]; simp, hgg⟩)
  · by_cases hn : N id
    · have := hlive id b hn h1 h2
      exact ⟨fun hz => by have := g.zlt b hz; omega, .inl (by omega)⟩
    · obtain ⟨e1, e2⟩ := hold id hn
      rw [e1] at h1; rw [e2] at h2
      exact g.live id b h1 h2
  · by_cases hn : N id <;> by_cases hn' : N id'
    · exact hapart id id' b hn hn' h1 h2 h3 h4
    · have := hlive id b hn h1 h3
      have := g.own_lt (cross id' b hn' h2 h4); omega
    · have := hlive id' b hn' h2 h4
      have := g.own_lt (cross id b hn h1 h3); omega
    · obtain ⟨e1, e2⟩ := hold id hn
      obtain ⟨e3, e4⟩ := hold id' hn'
      rw [e1] at h1; rw [e2] at h3; rw [e3] at h2; rw [e4] at h4
      exact g.apart id id' b h1 h2 h3 h4
end Go.Vs

namespace Go.Vs

variable {P : Program} {Z Z' : Nat → Prop} {ψ ψ' : Nat → Value} {h h' : Hp} {w w' : World} {B0 : Nat} {O : Nat → Prop} {N : Nat → Prop}

theorem splice_eq {α : Type} : ∀ (vs cs : List α) (off : Nat), off + vs.length ≤ cs.length → splice cs off vs = cs.take off ++ vs ++ cs.drop (off + vs.length)
  | [], cs, off, _ => by simp [splice]
  | v :: r, cs, off, hl => by
    simp only [List.length_cons] at hl
    simp only [splice]
    rw [splice_eq r (cs.set off v) (off + 1) (by rw [List.length_set]; omega)]
    have h1 : (cs.set off v).take (off + 1) = cs.take off ++ [v] := by
      rw [List.take_set, List.take_succ_eq_append_getElem (by omega), List.set_append_right _ _ (by rw [List.length_take]; omega)]
      rw [List.length_take, Nat.min_eq_left (by omega)]
      simp
    have h2 : (cs.set off v).drop (off + 1 + r.length) = cs.drop (off + (r.length + 1)) := by
      rw [List.drop_set_of_lt (by omega)]; congr 1; omega
    rw [h1, h2, List.append_assoc, List.append_assoc, List.append_assoc]; rfl

theorem run_isAggOf {t : TypeId} {b : Bool} (hb : aggOf P t = some b) : (isAgg t).run P w = .ok b w := by
  unfold aggOf at hb
  obtain ⟨d, hd, rfl⟩ := Option.map_eq_some_iff.1 hb
  simp only [isAgg, Sem.run_bind, run_underlying hd, Result.andThen_ok]
  cases d <;> rfl
theorem info_of_under {t : TypeId} {d : TypeDesc} (hd : P.underlying t = some d) : ∃ i, P.info? t = some i := by
  unfold Program.underlying at hd
  split at hd
  · rename_i heq; exact ⟨_, heq⟩
  · rename_i heq; exact ⟨_, heq⟩
  · cases hd
theorem run_sizeOf' {t : TypeId} {i : TypeInfo} (hi : P.info? t = some i) : (sizeOf t).run P w = .ok (P.cellsOf t) w := by
  simp [sizeOf, typeInfo, hi, Program.cellsOf]
theorem info_of_agg {t : TypeId} {b : Bool} (hb : aggOf P t = some b) : ∃ i, P.info? t = some i := by
  unfold aggOf at hb
  obtain ⟨d, hd, rfl⟩ := Option.map_eq_some_iff.1 hb
  exact info_of_under hd

/-- A value of a type, read where cells lie. -/
theorem load_cells {t : TypeId} {cs : List AV} {us : List Value} {a : Addr} {x : AV} (hr : RepL Z ψ h w cs us) (hc : ∀ (j : Nat) u, us[j]? = some u → w.cell? (a.add j) = some u) (hx : fromCells P t cs = some x) :
    ∃ V, (Instr.loadAt t (.pointer (some a))).run P w = .ok V w ∧ Rep Z ψ h w x V := by
  unfold fromCells at hx
  have hlen := hr.length
  split at hx
  · rename_i hb
    split at hx
    · rename_i hl
      cases hx
      obtain ⟨i, hi⟩ := info_of_agg hb
      refine ⟨.agg (us.take (P.cellsOf t)).toArray, ?_, by simp only [Rep]; exact ⟨_, rfl, by simpa using hr.take (P.cellsOf t)⟩⟩
      have hlt : (us.take (P.cellsOf t)).length = P.cellsOf t := by rw [List.length_take]; omega
      have hld := run_loadCells_list (P := P) w a (us.take (P.cellsOf t)) (fun j v hv => hc j v (by
        rw [List.getElem?_take] at hv; split at hv
        · exact hv
        · cases hv))
      rw [hlt] at hld
      simp [Instr.loadAt, Instr.sureAddr, loadVar, run_isAggOf hb, run_sizeOf' hi, hld]
    · cases hx
  · rename_i hb
    split at hx
    · rename_i c r
      cases hx
      simp only [RepL] at hr
      obtain ⟨v, us', rfl, h1, h2⟩ := hr
      refine ⟨v, ?_, h1⟩
      have := hc 0 v rfl
      rw [addr_zero] at this
      simp [Instr.loadAt, Instr.sureAddr, loadVar, run_isAggOf hb, this]
    · cases hx
  · cases hx

/-- A store of cells into a block. -/
theorem run_storeAt_row {t : TypeId} {i : TypeInfo} (hi : P.info? t = some i) (g off : Nat) (V : Value) (cur : Array Value) (ty : TypeId) (hg : w.heap[g]? = some (.cells cur ty (0, 0))) (hs : V.cells.size = P.cellsOf t)
    (hl : off + V.cells.size ≤ cur.size) (h1 : ∀ v ∈ V.cells.toList, v.oneCell' = true) :
    (Instr.storeAt t (.pointer (some ⟨g, off, none⟩)) V).run P w = .ok () (w.setRow g (cur.toList.take off ++ V.cells.toList ++ cur.toList.drop (off + V.cells.size)).toArray) := by
  have hst := run_storeCells_at P g off ty V.cells.toList 0 cur w hg (by simpa using hl) h1
  simp only [Nat.add_zero, Array.length_toList] at hst
  simp [Instr.storeAt, Instr.sureAddr, storeVar, run_sizeOf' hi, hs, hst]
end Go.Vs

namespace Go.Vs

variable {P : Program} {Z Z' : Nat → Prop} {ψ ψ' : Nat → Value} {h h' : Hp} {w w' : World} {B0 : Nat} {O : Nat → Prop} {N : Nat → Prop}

def upd {α : Type} (f : Nat → α) (i : Nat) (v : α) : Nat → α := fun j => if j = i then v else f j
theorem upd_self {α : Type} (f : Nat → α) (i : Nat) (v : α) : upd f i v i = v := by simp [upd]
theorem upd_ne {α : Type} (f : Nat → α) {i j : Nat} (v : α) (hne : j ≠ i) : upd f i v j = f j := by simp [upd, hne]

theorem Keep.alloc (ψ : Nat → Value) (h : Hp) (w : World) (o : Obj) : Keep ψ h w (w.alloc o) :=
  ⟨rfl, rfl, rfl, by rw [World.size_alloc]; omega, fun b hb _ => heap_alloc_old w o hb⟩

/-- A new box. -/
theorem next_box (g : Good Z ψ h w B0 O) (hB : B0 ≤ w.heap.size) (id : Nat) (ty : TypeId) {cs : List AV} {vs : Array Value} (hN : N id) (hr : RepL Z ψ h w cs vs.toList) (h1 : ∀ u ∈ vs.toList, u.oneCell' = true)
    (hment : ∀ i ty cs, h i = some (.box ty cs) → MentL (fun i => i ≠ id) cs) (hm : MentL (fun i => i ≠ id) cs) :
    Next Z ψ h w B0 O N Z (upd ψ id (.pointer (some ⟨w.heap.size, 0, none⟩))) (upd h id (some (.box ty cs))) (w.alloc (.cells vs ty)) := by
  have n : Next Z ψ h w B0 O (· = id) Z (upd ψ id (.pointer (some ⟨w.heap.size, 0, none⟩))) (upd h id (some (.box ty cs))) (w.alloc (.cells vs ty)) := by
    refine g.more (Keep.alloc _ _ _ _) (fun b hb => heap_alloc_old w _ (g.own_lt hb)) (fun i hi => ⟨upd_ne _ _ hi, upd_ne _ _ hi⟩) (fun i ty' cs' hb => ?_) (fun i ty' cs' hi hb => ?_) (fun i ok x hi hb => ?_) (fun i b hi hne hb => ?_) (fun i i' b hi hi' _ _ _ _ => by subst hi; exact hi'.symm) hB
    · exact hment i ty' cs' hb
    · subst hi
      rw [upd_self] at hb; cases hb
      refine ⟨w.heap.size, vs, upd_self _ _ _, heap_alloc_new _ _, ?_, h1⟩
      refine hr.move (fun _ h => h) ((Keep.alloc ψ h w _).same g) (fun j hj hne => ?_) hm
      rw [upd_ne _ _ hj] at hne
      exact ⟨hne, upd_ne _ _ hj⟩
    · subst hi; rw [upd_self] at hb; cases hb
    · subst hi; rw [upd_self] at hb; simp only [ob, Option.some.injEq] at hb; omega
  exact ⟨n.zsub, n.zfrom, n.keep, fun i hi => (n.ids i hi).imp (fun h => h) (fun e => by subst e; exact hN), n.good⟩

theorem upd_some {h : Hp} {id : Nat} {o : Ob} (hid : h id ≠ none) : ∀ i, upd h id (some o) i ≠ none → h i ≠ none := fun i hi => by
  by_cases e : i = id
  · subst e; exact hid
  · rwa [upd_ne _ _ e] at hi

/-- One thing of one's own is written. -/
theorem Good.write (g : Good Z ψ h w B0 O) (id : Nat) (hid : h id ≠ none) (k : Keep ψ h w w') (hother : ∀ b, ob (ψ id) ≠ some b → b < w.heap.size → w'.heap[b]? = w.heap[b]?) (o' : Ob)
    (hbox : ∀ ty cs, o' = .box ty cs → ∃ gg vs, ψ id = .pointer (some ⟨gg, 0, none⟩) ∧ w'.heap[gg]? = some (.cells vs ty (0, 0)) ∧ RepL Z ψ h w' cs vs.toList ∧ ∀ u ∈ vs.toList, u.oneCell' = true)
    (hrow : ∀ ok x, o' = .own ok x → OwnOb Z w' ok (ψ id) x) :
    Next Z ψ h w B0 O N Z ψ (upd h id (some o')) w' := by
  have hs := upd_some (o := o') hid
  have sm := k.same g
  refine ⟨fun _ h => h, fun _ h => .inl h, k, fun i hi => .inl ⟨hs i hi, rfl⟩, ⟨fun i ty cs hb => ?_, fun i ok x hb => ?_, fun i b h1 h2 => g.live i b (hs i h1) h2, fun i i' b h1 h2 h3 h4 => g.apart i i' b (hs i h1) (hs i' h2) h3 h4, fun b hb => Nat.lt_of_lt_of_le (g.zlt b hb) k.size⟩⟩
  · by_cases e : i = id
    · subst e
      rw [upd_self] at hb; cases hb
      obtain ⟨gg, vs, h1, h2, h3, h4⟩ := hbox _ _ rfl
      exact ⟨gg, vs, h1, h2, h3.less (fun _ h => h) (Same.refl _ _) (fun j hj => ⟨hs j hj, rfl⟩), h4⟩
    · rw [upd_ne _ _ e] at hb
      obtain ⟨gg, vs, h1, h2, h3, h4⟩ := g.box i ty cs hb
      refine ⟨gg, vs, h1, ?_, h3.less (fun _ h => h) sm (fun j hj => ⟨hs j hj, rfl⟩), h4⟩
      rw [hother gg (fun hh => e (g.apart i id gg (by rw [hb]; simp) hid (by rw [h1]; rfl) hh)) (Array.getElem?_eq_some_iff.1 h2).1]
      exact h2
  · by_cases e : i = id
    · subst e
      rw [upd_self] at hb; cases hb
      exact hrow _ _ rfl
    · rw [upd_ne _ _ e] at hb
      exact (g.row i ok x hb).kept (fun _ h => h) sm (fun gg hgg => hother gg (fun hh => e (g.apart i id gg (by rw [hb]; simp) hid hgg hh)) (g.own_lt ⟨i, by rw [hb]; simp, hgg⟩))

theorem Keep.setRow {gg : Nat} (ho : Own ψ h gg) (arr : Array Value) : Keep ψ h w (w.setRow gg arr) :=
  ⟨rfl, rfl, rfl, by simp [World.setRow], fun b _ hb => by
    have : gg ≠ b := fun e => hb (e ▸ ho)
    simp [World.setRow, Array.getElem?_modify, this]⟩
theorem setRow_other {gg b : Nat} (arr : Array Value) (hne : gg ≠ b) : (w.setRow gg arr).heap[b]? = w.heap[b]? := by
  simp [World.setRow, Array.getElem?_modify, hne]

/-- A store into a box. -/
theorem next_store_box (g : Good Z ψ h w B0 O) {id : Nat} {ty : TypeId} {cs vs : List AV} (hb : h id = some (.box ty cs)) {t : TypeId} {i : TypeInfo} (hi : P.info? t = some i) {off : Nat} {V : Value}
    (hv : RepL Z ψ h w vs V.cells.toList) (h1 : ∀ u ∈ V.cells.toList, u.oneCell' = true) (hs : V.cells.size = P.cellsOf t) (hl : off + vs.length ≤ cs.length) {a : Addr} (ha : a = ⟨blk (ψ id), off, none⟩) :
    ∃ w', (Instr.storeAt t (.pointer (some a)) V).run P w = .ok () w' ∧ Next Z ψ h w B0 O N Z ψ (upd h id (some (.box ty (splice cs off vs)))) w' := by
  obtain ⟨gg, arr, e1, e2, e3, e4⟩ := g.box id ty cs hb
  have hlen := hv.length
  have hlen3 := e3.length
  simp only [Array.length_toList] at hlen hlen3
  have hid : h id ≠ none := by rw [hb]; simp
  have ho : Own ψ h gg := ⟨id, hid, by rw [e1]; rfl⟩
  rw [e1] at ha
  simp only [blk] at ha
  subst ha
  refine ⟨_, run_storeAt_row hi gg off V arr ty e2 hs (by omega) h1, ?_⟩
  have kk := Keep.setRow (w := w) ho ((arr.toList.take off ++ V.cells.toList ++ arr.toList.drop (off + V.cells.size)).toArray)
  refine g.write id hid kk (fun b hb _ => setRow_other _ (fun e => hb (by rw [e1]; simp [ob, e]))) _ (fun ty' cs' he => ?_) (fun _ _ he => by cases he)
  cases he
  refine ⟨gg, _, e1, setRow_heap w gg arr _ ty _ e2, ?_, ?_⟩
  · rw [splice_eq _ _ _ hl]
    have h5 : RepL Z ψ h w (cs.take off ++ vs ++ cs.drop (off + vs.length)) (arr.toList.take off ++ V.cells.toList ++ arr.toList.drop (off + V.cells.size)) := by
      rw [← hlen]; exact ((e3.take off).append hv).append (e3.drop (off + vs.length))
    exact h5.less (fun _ h => h) (kk.same g) (fun j hj => ⟨hj, rfl⟩)
  · intro u hu
    rw [List.toList_toArray] at hu
    rcases List.mem_append.1 hu with hu | hu
    · rcases List.mem_append.1 hu with hu | hu
      · exact e4 u (List.mem_of_mem_take hu)
      · exact h1 u hu
    · exact e4 u (List.mem_of_mem_drop hu)

theorem seg_at {α : Type} (cur V : List α) (m off sz L : Nat) (h : off + V.length ≤ sz) (h1 : m + sz ≤ L) (h2 : L ≤ cur.length) :
    ((cur.take (m + off) ++ V ++ cur.drop (m + off + V.length)).take L |>.drop m |>.take sz) = ((cur.drop m).take sz).take off ++ V ++ ((cur.drop m).take sz).drop (off + V.length) := by
  apply List.ext_getElem?
  intro q
  simp only [List.getElem?_take, List.getElem?_drop, List.getElem?_append, List.length_append, List.length_take, List.length_drop]
  rw [Nat.min_eq_left (show m + off ≤ cur.length by omega), Nat.min_eq_left (show off ≤ min sz (cur.length - m) by omega)]
  repeat' split
  all_goals first | rfl | (exfalso; omega) | (congr 1; omega) | (rw [List.getElem?_eq_none (by omega)])
theorem seg_off {α : Type} (cur V : List α) (m off sz L p : Nat) (h : off + V.length ≤ sz) (h1 : m + sz ≤ L) (h2 : L ≤ cur.length) (h3 : p + sz ≤ L) (h4 : p + sz ≤ m ∨ m + sz ≤ p) :
    ((cur.take (m + off) ++ V ++ cur.drop (m + off + V.length)).take L |>.drop p |>.take sz) = (cur.drop p).take sz := by
  apply List.ext_getElem?
  intro q
  simp only [List.getElem?_take, List.getElem?_drop, List.getElem?_append, List.length_append, List.length_take]
  rw [Nat.min_eq_left (show m + off ≤ cur.length by omega)]
  repeat' split
  all_goals first | rfl | (exfalso; omega) | (congr 1; omega) | (rw [List.getElem?_eq_none (by omega)])

theorem RepK.congrLen {k : K} {x : k.T} {vs us : List Value} (e : vs = us) (hr : RepK Z w k x vs) : RepK Z w k x us := e ▸ hr

/-- A store into an element of a row. -/
theorem next_store_row (g : Good Z ψ h w B0 O) {id : Nat} {ty : TypeId} {kk : K} {xs : List kk.T} (hb : h id = some (.own (.row ty kk) xs)) {t : TypeId} {i : TypeInfo} (hi : P.info? t = some i) {n off : Nat} {x y : kk.T} {V : Value}
    (hx : xs[n]? = some x) (hs : V.cells.size = P.cellsOf t) (hl : off + V.cells.size ≤ kk.sz) {a : Addr} (ha : a = ⟨blk (ψ id), n * kk.sz + off, none⟩)
    (hy : ∀ us, RepK Z w kk x us → RepK Z w kk y (us.take off ++ V.cells.toList ++ us.drop (off + V.cells.size))) (h1 : ∀ u ∈ V.cells.toList, u.oneCell' = true) :
    ∃ w', (Instr.storeAt t (.pointer (some a)) V).run P w = .ok () w' ∧ Next Z ψ h w B0 O N Z ψ (upd h id (some (.own (.row ty kk) (xs.set n y)))) w' := by
  obtain ⟨vs, ho, hv⟩ := g.row id (.row ty kk) xs hb
  have hid : h id ≠ none := by rw [hb]; simp
  have hn : n < xs.length := (List.getElem?_eq_some_iff.1 hx).1
  have hpos := kk.sz_pos
  have hmul : n * kk.sz + kk.sz ≤ xs.length * kk.sz := by rw [← Nat.succ_mul]; exact Nat.mul_le_mul_right _ hn
  obtain ⟨hl1, e⟩ := ho
  rcases e with ⟨h0, _⟩ | ⟨gg, cap, cur, e1, e2, e3, e4, e5, e6, e7⟩
  · omega
  have hcap : xs.length * kk.sz ≤ cap * kk.sz := Nat.mul_le_mul_right _ e4
  have hob : ob (ψ id) = some gg := by rw [e1]; simp only [ob]; rw [if_neg (by omega)]
  have ho : Own ψ h gg := ⟨id, hid, hob⟩
  have ha' : a = ⟨gg, n * kk.sz + off, none⟩ := by rw [ha, e1]; rfl
  subst ha'
  refine ⟨_, run_storeAt_row hi gg (n * kk.sz + off) V cur ty e3 hs (by omega) h1, ?_⟩
  have hk := Keep.setRow (w := w) ho ((cur.toList.take (n * kk.sz + off) ++ V.cells.toList ++ cur.toList.drop (n * kk.sz + off + V.cells.size)).toArray)
  have sm := hk.same g
  refine g.write id hid hk (fun b hb _ => setRow_other _ (fun e => hb (by rw [hob, e]))) _ (fun _ _ he => by cases he) (fun ok' x' he => ?_)
  cases he
  have hcl : cur.toList.length = cap * kk.sz := by rw [Array.length_toList]; exact e6
  have hVl : V.cells.toList.length = V.cells.size := Array.length_toList
  let cur' := cur.toList.take (n * kk.sz + off) ++ V.cells.toList ++ cur.toList.drop (n * kk.sz + off + V.cells.size)
  have hcl' : cur'.length = cap * kk.sz := by
    simp only [cur', List.length_append, List.length_take, List.length_drop, hcl, hVl]; omega
  have hsl : (xs.set n y).length = xs.length := List.length_set
  have hvs : vs = cur.toList.take (xs.length * kk.sz) := e7.symm
  refine ⟨cur'.take (xs.length * kk.sz), ⟨by rw [List.length_take, hcl', hsl]; omega, .inr ⟨gg, cap, cur'.toArray, by rw [hsl]; exact e1, e2, setRow_heap w gg cur _ ty _ e3, by rw [hsl]; exact e4, e5, by simpa using hcl', by rw [hsl]⟩⟩, fun j z hz => ?_⟩
  have hj : j < xs.length := by have := (List.getElem?_eq_some_iff.1 hz).1; rwa [hsl] at this
  have hmj : j * kk.sz + kk.sz ≤ xs.length * kk.sz := by rw [← Nat.succ_mul]; exact Nat.mul_le_mul_right _ hj
  have hcut : ∀ p, p + kk.sz ≤ xs.length * kk.sz → (vs.drop p).take kk.sz = (cur.toList.drop p).take kk.sz := fun p hp => by
    rw [hvs, List.drop_take, List.take_take, Nat.min_eq_left (by omega)]
  by_cases hjn : j = n
  · subst hjn
    rw [List.getElem?_set_self hn] at hz; cases hz
    have hu := hy _ (hv j x hx)
    rw [hcut _ hmj, ← hVl] at hu
    refine RepK.mono (fun _ h => h) sm (RepK.congrLen ?_ hu)
    have := seg_at cur.toList V.cells.toList (j * kk.sz) off kk.sz (xs.length * kk.sz) (by omega) hmj (by omega)
    rw [← this, hVl]
  · rw [List.getElem?_set_ne (fun e => hjn e.symm)] at hz
    have hu := hv j z hz
    rw [hcut _ hmj] at hu
    refine RepK.mono (fun _ h => h) sm (RepK.congrLen ?_ hu)
    have h4 : j * kk.sz + kk.sz ≤ n * kk.sz ∨ n * kk.sz + kk.sz ≤ j * kk.sz := by
      rcases Nat.lt_or_ge j n with h | h
      · left; rw [← Nat.succ_mul]; exact Nat.mul_le_mul_right _ h
      · right; rw [← Nat.succ_mul]; exact Nat.mul_le_mul_right _ (by omega)
    have := seg_off cur.toList V.cells.toList (n * kk.sz) off kk.sz (xs.length * kk.sz) (j * kk.sz) (by omega) hmul (by omega) hmj h4
    rw [← this, hVl]

/-- The cells of a row that is read. -/
theorem data_cells {k : K} {ys : List k.T} {u : Value} (hr : RepK Z w (.sl k) ys [u]) :
    (u = .slice none 0 0 ∧ ys = []) ∨ ∃ a c news, u = .slice (some a) ys.length c ∧ ys.length ≤ c ∧ news.length = ys.length * k.sz ∧ (∀ (j : Nat) q, news[j]? = some q → w.cell? (a.add j) = some q) ∧ (∀ q ∈ news, q.oneCell' = true) ∧ RowV Z w k ys news := by
  simp only [RepK] at hr
  obtain ⟨v, hv, A, c, rfl, hl, hn, he⟩ := hr
  cases hv
  cases A with
  | none =>
    left
    cases ys with
    | nil => exact ⟨by rw [hn rfl]; rfl, rfl⟩
    | cons y r => obtain ⟨a, us, h1, _⟩ := he 0 y rfl; cases h1
  | some a =>
    right
    have he' : ∀ i (hi : i < ys.length), ∃ us, RepK Z w k ys[i] us ∧ ∀ (j : Nat) u, us[j]? = some u → w.cell? (a.add (i * k.sz + j)) = some u := fun i hi => by
      obtain ⟨a', us, h1, _, h3, h4⟩ := he i _ (List.getElem?_eq_getElem hi)
      cases h1
      exact ⟨us, h3, h4⟩
    have hpos := k.sz_pos
    let news := (List.range (ys.length * k.sz)).map fun j => (w.cell? (a.add j)).getD default
    have hcell : ∀ j, j < ys.length * k.sz → ∃ q, w.cell? (a.add j) = some q ∧ q.oneCell' = true := fun j hj => by
      have hi : j / k.sz < ys.length := Nat.div_lt_of_lt_mul (by rw [Nat.mul_comm]; exact hj)
      obtain ⟨us, h3, h4⟩ := he' (j / k.sz) hi
      have hm : j % k.sz < us.length := by rw [h3.len]; exact Nat.mod_lt _ hpos
      refine ⟨us[j % k.sz], ?_, h3.one _ (List.getElem_mem hm)⟩
      have := h4 (j % k.sz) _ (List.getElem?_eq_getElem hm)
      rwa [Nat.mul_comm, Nat.div_add_mod] at this
    have hget : ∀ j, j < ys.length * k.sz → ∃ q, news[j]? = some q ∧ w.cell? (a.add j) = some q := fun j hj => by
      obtain ⟨q, hq, _⟩ := hcell j hj
      exact ⟨q, by simp [news, List.getElem?_map, List.getElem?_range hj, hq], hq⟩
    have hlen : news.length = ys.length * k.sz := by simp [news]
    refine ⟨a, c, news, rfl, hl, hlen, fun j q hq => ?_, fun q hq => ?_, fun i x hx => ?_⟩
    · have hj : j < ys.length * k.sz := by rw [← hlen]; exact (List.getElem?_eq_some_iff.1 hq).1
      obtain ⟨q', h1, h2⟩ := hget j hj
      rw [h1] at hq; cases hq; exact h2
    · obtain ⟨j, hj, rfl⟩ := List.mem_iff_getElem.1 hq
      obtain ⟨q', h1, h2⟩ := hget j (by omega)
      obtain ⟨q2, h3, h4⟩ := hcell j (by omega)
      rw [List.getElem?_eq_getElem hj] at h1; cases h1
      rw [h2] at h3; cases h3; exact h4
    · have hi : i < ys.length := (List.getElem?_eq_some_iff.1 hx).1
      obtain ⟨us, h3, h4⟩ := he' i hi
      rw [List.getElem?_eq_getElem hi] at hx; cases hx
      refine RepK.congrLen ?_ h3
      have hul := h3.len
      have hmul : i * k.sz + k.sz ≤ ys.length * k.sz := by rw [← Nat.succ_mul]; exact Nat.mul_le_mul_right _ hi
      apply List.ext_getElem?
      intro q
      rw [List.getElem?_take, List.getElem?_drop]
      by_cases hq : q < k.sz
      · rw [if_pos hq]
        obtain ⟨q', h5, h6⟩ := hget (i * k.sz + q) (by omega)
        rw [h5]
        have h7 := h4 q _ (List.getElem?_eq_getElem (by omega))
        rw [List.getElem?_eq_getElem (by omega)]
        rw [h6] at h7; cases h7; rfl
      · rw [if_neg hq, List.getElem?_eq_none (by omega)]

/-- What a row is read from: data, or one's own. -/
theorem row_cells {hh : Heap} (g : Good Z ψ hh.get w B0 O) {x : AV} {u : Value} {k : K} {ys : List k.T} (hx : rowOf hh x k = some ys) (hr : Rep Z ψ hh.get w x u) :
    (u = .slice none 0 0 ∧ ys = []) ∨ ∃ a c news, u = .slice (some a) ys.length c ∧ ys.length ≤ c ∧ news.length = ys.length * k.sz ∧ (∀ (j : Nat) q, news[j]? = some q → w.cell? (a.add j) = some q) ∧ (∀ q ∈ news, q.oneCell' = true) ∧ RowV Z w k ys news := by
  unfold rowOf at hx
  split at hx
  · rename_i ex k' xs heq
    split at hx
    · rename_i e
      subst e
      cases hx
      cases x with
      | sl ex' k'' xs' =>
        simp only [view1] at heq
        cases heq
        simp only [Rep] at hr
        exact data_cells hr.1
      | osl id =>
        simp only [view1] at heq
        split at heq
        · rename_i ty kk zs hg
          cases heq
          simp only [Rep] at hr
          have hv := hr.2 (by rw [hg]; simp)
          subst hv
          obtain ⟨vs, ho, hv⟩ := g.row id (.row ty _) _ hg
          have h1 := data_cells (row_data (Z' := fun b => Z b ∨ ob (ψ id) = some b) ho hv (fun b hb => .inl hb) (fun b hb => .inr hb))
          rcases h1 with h1 | ⟨a, c, news, h1, h2, h3, h4, h5, _⟩
          · exact .inl h1
          · right
            refine ⟨a, c, news, h1, h2, h3, h4, h5, ?_⟩
            -- the same cells as the row's
            have hnv : news = vs := by
              obtain ⟨hl, e⟩ := ho
              rcases e with ⟨e, _⟩ | ⟨gg, cap, cur, e, _, e3, _, _, _, e7⟩
              · rw [e, Nat.zero_mul] at h3 hl
                rw [List.eq_nil_of_length_eq_zero h3, List.eq_nil_of_length_eq_zero hl]
              · rw [e] at h1; cases h1
                apply List.ext_getElem?
                intro j
                by_cases hj : j < xs.length * k'.sz
                · have hn := h4 j _ (List.getElem?_eq_getElem (by omega))
                  rw [addr_plain, Nat.zero_add] at hn
                  simp only [World.cell?, e3] at hn
                  have hv2 : vs[j]? = cur.toList[j]? := by rw [← e7, List.getElem?_take, if_pos hj]
                  rw [hv2, List.getElem?_eq_getElem (by omega)]
                  simpa using hn.symm
                · rw [List.getElem?_eq_none (by omega), List.getElem?_eq_none (by omega)]
            rw [hnv]; exact hv
        · cases heq
        · cases heq
      | _ => simp only [view1] at heq <;> cases heq
    · cases hx
  · rename_i heq
    cases hx
    cases x with
    | nils => simp only [Rep] at hr; exact .inl ⟨hr, rfl⟩
    | osl id => simp only [view1] at heq; split at heq <;> cases heq
    | _ => simp only [view1] at heq <;> cases heq
  · cases hx

structure ElemOk (P : Program) (e : TypeId) (k : K) (i : TypeInfo) (z : Value) : Prop where
  info : P.info? e = some i
  zero : i.zero = some z
  size : i.size = k.sz
  zsize : z.cells.size = k.sz
  bytes : i.bytes ≤ 65536
theorem elemOk_spec {e : TypeId} {k : K} (he : elemOk P e k = true) : ∃ i z, ElemOk P e k i z := by
  unfold elemOk at he
  split at he
  · rename_i i hi
    split at he
    · rename_i z hz
      simp only [Bool.and_eq_true, decide_eq_true_eq] at he
      exact ⟨i, z, hi, hz, he.1, he.2.1, he.2.2⟩
    · cases he
  · cases he

theorem RowV.append {k : K} {xs ys : List k.T} {vs us : List Value} (h1 : RowV Z w k xs vs) (h2 : RowV Z w k ys us) (hl : vs.length = xs.length * k.sz) : RowV Z w k (xs ++ ys) (vs ++ us) := fun i x hx => by
  by_cases hi : i < xs.length
  · rw [List.getElem?_append_left hi] at hx
    have hm : i * k.sz + k.sz ≤ xs.length * k.sz := by rw [← Nat.succ_mul]; exact Nat.mul_le_mul_right _ hi
    have h3 := h1 i x hx
    rw [List.drop_append_of_le_length (by omega), List.take_append_of_le_length (by rw [List.length_drop]; omega)]
    exact h3
  · rw [List.getElem?_append_right (by omega)] at hx
    have h3 := h2 (i - xs.length) x hx
    have e : i * k.sz = vs.length + (i - xs.length) * k.sz := by
      rw [hl, ← Nat.add_mul]; congr 1; omega
    rw [e, List.drop_append, List.drop_eq_nil_of_le (by omega), List.nil_append, Nat.add_sub_cancel_left]
    exact h3

theorem RowV.elim2 {k : K} {xs : List k.T} {vs : List Value} (h : RowV Z w k xs vs) (sm : Same Z w w') : RowV Z w' k xs vs := fun i x hx => (h i x hx).mono (fun _ h => h) sm

/-- Something new of one's own comes of a law that leaves the world's other blocks. -/
theorem next_own (g : Good Z ψ h w B0 O) (hB : B0 ≤ w.heap.size) (id : Nat) (hN : N id) {ok : OK} {x : ok.T} {v : Value} (kk : Keep ψ h w w') (hsame : ∀ b, Own ψ h b → w'.heap[b]? = w.heap[b]?)
    (ho : OwnOb Z w' ok v x) (hb : ∀ b, ob v = some b → w.heap.size ≤ b)
    (hment : ∀ i ty cs, h i = some (.box ty cs) → MentL (fun i => i ≠ id) cs) :
    Next Z ψ h w B0 O N Z (upd ψ id v) (upd h id (some (.own ok x))) w' := by
  have n : Next Z ψ h w B0 O (· = id) Z (upd ψ id v) (upd h id (some (.own ok x))) w' := by
    refine g.more kk hsame (fun i hi => ⟨upd_ne _ _ hi, upd_ne _ _ hi⟩) (fun i ty' cs' hb => hment i ty' cs' hb) (fun i ty' cs' hi hb => ?_) (fun i ok x hi hb => ?_) (fun i b hi hne hbb => ?_) (fun i i' b hi hi' _ _ _ _ => by subst hi; exact hi'.symm) hB
    · subst hi; rw [upd_self] at hb; cases hb
    · subst hi
      rw [upd_self] at hb; cases hb
      rw [upd_self]; exact ho
    · subst hi; rw [upd_self] at hbb; exact hb b hbb
  exact ⟨n.zsub, n.zfrom, n.keep, fun i hi => (n.ids i hi).imp (fun h => h) (fun e => by subst e; exact hN), n.good⟩
theorem next_row (g : Good Z ψ h w B0 O) (hB : B0 ≤ w.heap.size) (id : Nat) (ty : TypeId) (hN : N id) {k : K} {xs : List k.T} {vs : List Value} {v : Value} (kk : Keep ψ h w w') (hsame : ∀ b, Own ψ h b → w'.heap[b]? = w.heap[b]?)
    (ho : OwnR w' ty k.sz v xs.length vs) (hv : RowV Z w' k xs vs) (hb : ∀ b, ob v = some b → w.heap.size ≤ b)
    (hment : ∀ i ty cs, h i = some (.box ty cs) → MentL (fun i => i ≠ id) cs) :
    Next Z ψ h w B0 O N Z (upd ψ id v) (upd h id (some (.own (.row ty k) xs))) w' := next_own g hB id hN (ok := .row ty k) kk hsame ⟨vs, ho, hv⟩ hb hment

theorem Keep.grown {row : Option Nat} (hg : w.grownBy w' row) (hr : ∀ b, row = some b → Own ψ h b) : Keep ψ h w w' :=
  ⟨hg.os, hg.tape, hg.output, hg.size, fun b hb hn => hg.block b hb (fun e => hn (hr b e.symm))⟩

/-- A row is written on: under a new name. -/
theorem next_regrow (g : Good Z ψ h w B0 O) (hB : B0 ≤ w.heap.size) (id old : Nat) (hN : N id) {ok : OK} {x y : ok.T} (ho : h old = some (.own ok x)) (hne : old ≠ id)
    (hg : w.grownBy w' (ob (ψ old))) {v : Value} (hv : OwnOb Z w' ok v y)
    (hb : ob v = ob (ψ old) ∨ ∀ b, ob v = some b → w.heap.size ≤ b)
    (hment : ∀ i ty cs, h i = some (.box ty cs) → MentL (fun i => i ≠ id) cs) :
    Next Z ψ h w B0 O N Z (upd ψ id v) (upd (upd h old none) id (some (.own ok y))) w' := by
  have hold : h old ≠ none := by rw [ho]; simp
  have hob : ∀ b, ob (ψ old) = some b → ob (ψ old) = some b := fun _ h => h
  have kk : Keep ψ h w w' := Keep.grown hg (fun b e => ⟨old, hold, hob b e⟩)
  have sm := kk.same g
  -- blocks of other names stay
  have other : ∀ i b, h i ≠ none → i ≠ old → ob (ψ i) = some b → w'.heap[b]? = w.heap[b]? := fun i b h1 h2 h3 =>
    hg.block b (g.own_lt ⟨i, h1, h3⟩) (fun e => h2 (g.apart i old b h1 hold h3 (hob b e.symm)))
  have at_ : ∀ i, i ≠ id → upd (upd h old none) id (some (.own ok y)) i ≠ none → h i ≠ none ∧ i ≠ old := fun i hi h1 => by
    rw [upd_ne _ _ hi] at h1
    by_cases e : i = old
    · subst e; rw [upd_self] at h1; exact absurd rfl h1
    · rw [upd_ne _ _ e] at h1; exact ⟨h1, e⟩
  have ids : ∀ i, upd (upd h old none) id (some (.own ok y)) i ≠ none → (h i ≠ none ∧ upd ψ id v i = ψ i) ∨ i = id := fun i h1 => by
    by_cases e : i = id
    · exact .inr e
    · exact .inl ⟨(at_ i e h1).1, upd_ne _ _ e⟩
  have vob : ∀ b, ob v = some b → ob (ψ old) = some b ∨ w.heap.size ≤ b := fun b hbb => by
    rcases hb with hb | hb
    · left; rw [← hb]; exact hbb
    · right; exact hb b hbb
  refine ⟨fun _ h => h, fun _ h => .inl h, kk, fun i h1 => (ids i h1).imp (fun h => h) (fun e => by subst e; exact hN), ⟨fun i ty' cs hbx => ?_, fun i ok' z hbx => ?_, fun i b h1 h2 => ?_, fun i i' b h1 h2 h3 h4 => ?_, fun b hz => Nat.lt_of_lt_of_le (g.zlt b hz) kk.size⟩⟩
  · by_cases e : i = id
    · subst e; rw [upd_self] at hbx; cases hbx
    · have hne2 := at_ i e (by rw [hbx]; simp)
      rw [upd_ne _ _ e, upd_ne _ _ hne2.2] at hbx
      obtain ⟨gg, us, h1, h2, h3, h4⟩ := g.box i ty' cs hbx
      refine ⟨gg, us, by rw [upd_ne _ _ e]; exact h1, (other i gg hne2.1 hne2.2 (by rw [h1]; rfl)).trans h2, ?_, h4⟩
      exact h3.move (fun _ h => h) sm (fun j hj hn => (ids j hn).resolve_right hj) (hment i ty' cs hbx)
  · by_cases e : i = id
    · subst e; rw [upd_self] at hbx; cases hbx
      rw [upd_self]; exact hv
    · have hne2 := at_ i e (by rw [hbx]; simp)
      rw [upd_ne _ _ e, upd_ne _ _ hne2.2] at hbx
      rw [upd_ne _ _ e]
      exact (g.row i ok' z hbx).kept (fun _ h => h) sm (fun gg hgg => other i gg hne2.1 hne2.2 hgg)
  · by_cases e : i = id
    · subst e; rw [upd_self] at h2
      rcases vob b h2 with h3 | h3
      · exact g.live old b hold h3
      · exact ⟨fun hz => by have := g.zlt b hz; omega, .inl (by omega)⟩
    · rw [upd_ne _ _ e] at h2
      exact g.live i b (at_ i e h1).1 h2
  · have key : ∀ j, j ≠ id → upd (upd h old none) id (some (.own ok y)) j ≠ none → ob (ψ j) = some b → ob v = some b → False := fun j hj h5 h6 h7 => by
      obtain ⟨h8, h9⟩ := at_ j hj h5
      rcases vob b h7 with h10 | h10
      · exact h9 (g.apart j old b h8 hold h6 h10)
      · have := g.own_lt ⟨j, h8, h6⟩; omega
    by_cases e : i = id <;> by_cases e' : i' = id
    · rw [e, e']
    · subst e; rw [upd_self] at h3; rw [upd_ne _ _ e'] at h4
      exact (key i' e' h2 h4 h3).elim
    · subst e'; rw [upd_self] at h4; rw [upd_ne _ _ e] at h3
      exact (key i e h1 h3 h4).elim
    · rw [upd_ne _ _ e] at h3; rw [upd_ne _ _ e'] at h4
      exact g.apart i i' b (at_ i e h1).1 (at_ i' e' h2).1 h3 h4

/-- The cells of what is appended. -/
def SrcC (w : World) (sz : Nat) (u : Value) (m : Nat) (news : List Value) : Prop :=
  news.length = m * sz ∧ (∀ q ∈ news, q.oneCell' = true) ∧ ((u = .slice none 0 0 ∧ m = 0) ∨ ∃ a c, u = .slice (some a) m c ∧ ∀ (j : Nat) q, news[j]? = some q → w.cell? (a.add j) = some q)
theorem row_src {hh : Heap} (g : Good Z ψ hh.get w B0 O) {x : AV} {u : Value} {k : K} {ys : List k.T} (hx : rowOf hh x k = some ys) (hr : Rep Z ψ hh.get w x u) : ∃ news, SrcC w k.sz u ys.length news ∧ RowV Z w k ys news := by
  rcases row_cells g hx hr with ⟨rfl, rfl⟩ | ⟨a, c, news, h1, _, h2, h3, h4, h5⟩
  · exact ⟨[], ⟨by simp, by simp, .inl ⟨rfl, rfl⟩⟩, fun i x hx => by simp at hx⟩
  · exact ⟨news, ⟨h2, h4, .inr ⟨a, c, h1, h3⟩⟩, h5⟩

/-- append of nothing. -/
theorem run_append_nothing {t ty e : TypeId} {i : TypeInfo} (ht : P.underlying t = some (.slice e)) (hi : P.info? e = some i) (A : Option Addr) (n c : Nat) (hc : n ≤ c) (A' : Option Addr) (c' : Nat) :
    (Builtin.append_ #[t, t] ty #[.slice A n c, .slice A' 0 c']).run P w = .ok (.slice A n c) w := by
  cases A <;> cases A' <;> simp [Builtin.append_, run_underlying ht, sizeOf, typeInfo, hi, Builtin.lenOf, Builtin.firstCells, hc, storeCells, loadCells, loadCellsFrom]
/-- append to nil, or to a row of one's own: the law. -/
theorem run_append_any {t ty e : TypeId} {k : K} {i : TypeInfo} {z : Value} (ht : P.underlying t = some (.slice e)) (he : ElemOk P e k i z) {v : Value} {n : Nat} {xs : List Value} (ho : OwnR w e k.sz v n xs)
    {u : Value} {m : Nat} {news : List Value} (hu : SrcC w k.sz u m news) (hm : n + m ≤ most) :
    ∃ v' w', (Builtin.append_ #[t, t] ty #[v, u]).run P w = .ok v' w' ∧ OwnR w' e k.sz v' (n + m) (xs ++ news) ∧ w.grownBy w' (ob v) ∧ (ob v' = ob v ∨ ∀ b, ob v' = some b → w.heap.size ≤ b) := by
  obtain ⟨h1, h3, hu⟩ := hu
  obtain ⟨A0, c0, hv0⟩ := ho.slice
  by_cases hm0 : m = 0
  · subst hm0
    have hnews : news = [] := List.eq_nil_of_length_eq_zero (by rw [h1, Nat.zero_mul])
    subst hnews
    have hnc : n ≤ c0 := by
      rcases ho.2 with ⟨h0, A, e⟩ | ⟨g, cap, cur, e, hc, h2, h3, _⟩
      · omega
      · rw [hv0] at e; cases e; exact h3
    refine ⟨v, w, ?_, by simpa using ho, World.grownBy.refl w _, .inl rfl⟩
    subst hv0
    rcases hu with ⟨rfl, _⟩ | ⟨a, c, rfl, _⟩ <;> exact run_append_nothing ht he.info A0 n c0 hnc _ _
  · rcases hu with ⟨_, h0⟩ | ⟨a, c, rfl, h2⟩
    · exact absurd h0 hm0
    have hb := he.bytes
    unfold most at hm
    have hbytes : (n + m) * i.bytes ≤ 140737488355328 := Nat.le_trans (Nat.mul_le_mul hm hb) (by decide)
    have new : ∀ v', w.heap.size ≤ w.heap.size → ∀ (w' : World), w'.ownsRow w.heap.size e k.sz v' (n + m) (xs ++ news) → ∀ b, ob v' = some b → w.heap.size ≤ b := fun v' _ w' ho' b hb => by
      rcases ho'.2 with ⟨rfl, _⟩ | ⟨g, cap, cur, rfl, h5, _⟩
      · simp [ob] at hb
      · simp only [ob] at hb
        split at hb
        · cases hb
        · cases hb; exact h5
    rcases ho.2 with ⟨rfl, A, rfl⟩ | ⟨g, cap, cur, rfl, hcap, h4, h5, h6, h7, h8⟩
    · have hxs : xs = [] := List.eq_nil_of_length_eq_zero (by rw [ho.1, Nat.zero_mul])
      subst hxs
      have hob : ob (.slice A 0 0) = none := by cases A <;> simp [ob]
      cases A with
      | none =>
        obtain ⟨v', w', hr, h4, h5, _, h6⟩ := run_append_own_at (P := P) w w.heap.size t ty e i z k.sz i.bytes ht he.info he.zero he.size rfl he.zsize k.sz_pos (.slice none 0 0) 0 [] ⟨by simp, .inl ⟨rfl, rfl⟩⟩ a m c news h1 h2 h3 (by simp only [maxLen]; omega) hbytes (Nat.le_refl _)
        exact ⟨v', w', hr, OwnR.of h4, by rw [hob]; exact h5, .inr (new v' (Nat.le_refl _) w' h4)⟩
      | some b0 =>
        obtain ⟨v', w', hr, h4, h5⟩ := run_append_arg_grows (P := P) w t ty e i z k.sz i.bytes ht he.info he.zero he.size rfl he.zsize k.sz_pos b0 0 0 [] (by simp) (by simp) a m c news h1 h2 (by omega) (by simp only [maxLen]; omega) hbytes
        exact ⟨v', w', hr, OwnR.of h4, by rw [hob]; exact h5, .inr (new v' (Nat.le_refl _) w' h4)⟩
    · have hown : w.ownsRow 0 e k.sz (.slice (some ⟨g, 0, none⟩) n cap) n xs := ⟨ho.1, .inr ⟨g, cap, cur, rfl, Nat.zero_le _, h4, h5, h6, h7, h8⟩⟩
      have hob : ob (.slice (some ⟨g, 0, none⟩) n cap) = some g := by simp only [ob]; rw [if_neg (by omega)]
      obtain ⟨v', w', hr, h4, h5, _, h6⟩ := run_append_own_at (P := P) w 0 t ty e i z k.sz i.bytes ht he.info he.zero he.size rfl he.zsize k.sz_pos _ n xs hown a m c news h1 h2 h3 (by simp only [maxLen]; omega) hbytes (Nat.zero_le _)
      refine ⟨v', w', hr, OwnR.of h4, by rw [hob]; exact h5, ?_⟩
      rw [hob]
      rcases h4.2 with ⟨rfl, h0⟩ | ⟨g', cap', cur', rfl, _, _, h9, _⟩
      · omega
      · have hob' : ob (.slice (some ⟨g', 0, none⟩) (n + m) cap') = some g' := by simp only [ob]; rw [if_neg (by omega)]
        rw [hob']
        simp only [Value.ownBlock, Option.some.injEq] at h6
        rcases h6 with h6 | h6
        · left; rw [h6]
        · right; intro b hb; cases hb; omega

theorem Rep.subH {h h' : Hp} (hs : ∀ id o, h' id = some o → h id = some o) {a : AV} {v : Value} (hr : Rep Z ψ h w a v) : Rep Z ψ h' w a v :=
  hr.less (fun _ h => h) (Same.refl _ _) (fun id hid => by
    obtain ⟨o, ho⟩ := Option.ne_none_iff_exists'.1 hid
    exact ⟨by rw [hs id o ho]; simp, rfl⟩)
theorem RepL.subH {h h' : Hp} (hs : ∀ id o, h' id = some o → h id = some o) {a : List AV} {v : List Value} (hr : RepL Z ψ h w a v) : RepL Z ψ h' w a v :=
  hr.less (fun _ h => h) (Same.refl _ _) (fun id hid => by
    obtain ⟨o, ho⟩ := Option.ne_none_iff_exists'.1 hid
    exact ⟨by rw [hs id o ho]; simp, rfl⟩)

/-- append to nil. -/
theorem next_append_nil {hh : Heap} (g : Good Z ψ h w B0 O) (hsub : ∀ id o, hh.get id = some o → h id = some o) (hB : B0 ≤ w.heap.size) {id : Nat} (hN : N id) {t ty e : TypeId} {k : K} {i : TypeInfo} {z : Value} (ht : P.underlying t = some (.slice e)) (he : ElemOk P e k i z)
    {x : AV} {u : Value} {ys : List k.T} (hx : rowOf hh x k = some ys) (hr : Rep Z ψ h w x u) (hm : ys.length ≤ most)
    (hment : ∀ i ty cs, h i = some (.box ty cs) → MentL (fun i => i ≠ id) cs) :
    ∃ v' w', (Builtin.append_ #[t, t] ty #[.slice none 0 0, u]).run P w = .ok v' w' ∧ Next Z ψ h w B0 O N Z (upd ψ id v') (upd h id (some (.own (.row e k) ys))) w' ∧ v'.cells = #[v'] ∧ v'.oneCell' = true := by
  obtain ⟨news, hsrc, hv⟩ := row_src (g.sub hsub) hx (hr.subH hsub)
  have hnil : OwnR w e k.sz (.slice none 0 0) 0 [] := ⟨by simp, .inl ⟨rfl, none, rfl⟩⟩
  obtain ⟨v', w', hrun, h4, h5, h6⟩ := run_append_any (ty := ty) ht he hnil hsrc (by omega)
  have hg : w.grownBy w' none := h5
  have kk : Keep ψ h w w' := Keep.grown hg (fun b e => by cases e)
  have sm := kk.same g
  refine ⟨v', w', hrun, next_row g hB id e hN (vs := news) kk (fun b hb => hg.block b (g.own_lt hb) (by simp)) (by simpa using h4) (fun i x hx => (hv i x hx).mono (fun _ h => h) sm) (fun b hb => ?_) hment, h4.one⟩
  rcases h6 with h6 | h6
  · rw [h6] at hb; simp [ob] at hb
  · exact h6 b hb

/-- append to a row of one's own. -/
theorem next_append_own {hh : Heap} (g : Good Z ψ h w B0 O) (hsub : ∀ id o, hh.get id = some o → h id = some o) (hB : B0 ≤ w.heap.size) {id old : Nat} (hN : N id) (hne : old ≠ id) {t ty e : TypeId} {k : K} {i : TypeInfo} {z : Value} (ht : P.underlying t = some (.slice e)) (he : ElemOk P e k i z)
    {xs : List k.T} (ho : h old = some (.own (.row e k) xs)) {x : AV} {u : Value} {ys : List k.T} (hx : rowOf hh x k = some ys) (hr : Rep Z ψ h w x u) (hm : xs.length + ys.length ≤ most)
    (hment : ∀ i ty cs, h i = some (.box ty cs) → MentL (fun i => i ≠ id) cs) :
    ∃ v' w', (Builtin.append_ #[t, t] ty #[ψ old, u]).run P w = .ok v' w' ∧ Next Z ψ h w B0 O N Z (upd ψ id v') (upd (upd h old none) id (some (.own (.row e k) (xs ++ ys)))) w' ∧ v'.cells = #[v'] ∧ v'.oneCell' = true := by
  obtain ⟨news, hsrc, hv⟩ := row_src (g.sub hsub) hx (hr.subH hsub)
  obtain ⟨vs, ho0, hv0⟩ := g.row old (.row e k) xs ho
  obtain ⟨v', w', hrun, h4, h5, h6⟩ := run_append_any (ty := ty) ht he ho0 hsrc hm
  have hold : h old ≠ none := by rw [ho]; simp
  have kk : Keep ψ h w w' := Keep.grown h5 (fun b e => ⟨old, hold, e⟩)
  have sm := kk.same g
  refine ⟨v', w', hrun, next_regrow g hB id old hN ho hne h5 (ok := .row e k) (y := xs ++ ys) ⟨_, by rw [List.length_append]; exact h4, (hv0.append hv ho0.1).elim2 sm⟩ h6 hment, h4.one⟩

/-- append to data that is cut at its end: something new. -/
theorem next_append_ex {hh : Heap} (g : Good Z ψ h w B0 O) (hsub : ∀ id o, hh.get id = some o → h id = some o) (hB : B0 ≤ w.heap.size) {id : Nat} (hN : N id) {t ty e : TypeId} {k : K} {i : TypeInfo} {z : Value} (ht : P.underlying t = some (.slice e)) (he : ElemOk P e k i z)
    {xs : List k.T} {v : Value} (hd : Rep Z ψ h w (.sl true k xs) v) {x : AV} {u : Value} {ys : List k.T} (hx : rowOf hh x k = some ys) (hr : Rep Z ψ h w x u) (hpos : 0 < ys.length ∨ xs = []) (hm : xs.length + ys.length ≤ most)
    (hment : ∀ i ty cs, h i = some (.box ty cs) → MentL (fun i => i ≠ id) cs) :
    ∃ v' w', (Builtin.append_ #[t, t] ty #[v, u]).run P w = .ok v' w' ∧ Next Z ψ h w B0 O N Z (upd ψ id v') (upd h id (some (.own (.row e k) (xs ++ ys)))) w' ∧ v'.cells = #[v'] ∧ v'.oneCell' = true := by
  simp only [Rep] at hd
  obtain ⟨hd, hex⟩ := hd
  obtain ⟨A, c, hvc⟩ := hex trivial
  rcases data_cells hd with ⟨rfl, rfl⟩ | ⟨a, c', olds, h1, _, h2, h3, h4, h5⟩
  · have := next_append_nil (ty := ty) (N := N) g hsub hB hN ht he hx hr (by omega) hment
    simpa using this
  · rw [h1] at hvc; cases hvc
    obtain ⟨news, ⟨h6, h7, hu⟩, hv⟩ := row_src (g.sub hsub) hx (hr.subH hsub)
    by_cases hy0 : ys.length = 0
    · have hy : ys = [] := List.eq_nil_of_length_eq_zero hy0
      have hxs : xs = [] := hpos.resolve_left (by omega)
      subst hxs
      have hnil : OwnR w e k.sz (.slice (some a) 0 0) 0 [] := ⟨by simp, .inl ⟨rfl, _, rfl⟩⟩
      refine ⟨v, w, ?_, next_row g hB id e hN (vs := []) (Keep.refl _ _ _) (fun _ _ => rfl) (by rw [hy, h1]; exact hnil) (fun i x hx => by rw [hy] at hx; simp at hx) (fun b hb => by rw [h1] at hb; simp [ob] at hb) hment, by rw [h1]; exact hnil.one⟩
      rw [h1]
      rw [hy0] at hu
      rcases hu with ⟨rfl, _⟩ | ⟨b, cu, rfl, _⟩ <;> exact run_append_nothing ht he.info _ _ _ (Nat.le_refl _) _ _
    rcases hu with ⟨_, h0⟩ | ⟨b, cu, rfl, h8⟩
    · omega
    · have hb := he.bytes
      unfold most at hm
      have hbytes : (xs.length + ys.length) * i.bytes ≤ 140737488355328 := Nat.le_trans (Nat.mul_le_mul hm hb) (by decide)
      obtain ⟨v', w', hrun, h9, h10⟩ := run_append_arg_grows (P := P) w t ty e i z k.sz i.bytes ht he.info he.zero he.size rfl he.zsize k.sz_pos a xs.length xs.length olds h2 h3 b ys.length cu news h6 h8 (by omega) (by simp only [maxLen]; omega) hbytes
      have kk : Keep ψ h w w' := Keep.grown h10 (fun b e => by cases e)
      have sm := kk.same g
      have h9' : OwnR w' e k.sz v' (xs ++ ys).length (olds ++ news) := by
        rw [List.length_append]
        exact OwnR.of h9
      subst h1
      refine ⟨v', w', hrun, next_row g hB id e hN kk (fun b hb => h10.block b (g.own_lt hb) (by simp)) h9' ((h5.append hv h2).elim2 sm) (fun b hb => ?_) hment, h9'.one⟩
      rcases h9.2 with ⟨e1, _⟩ | ⟨gg, cap, cur, e1, e2, _⟩
      · rw [e1] at hb; simp [ob] at hb
      · rw [e1] at hb
        simp only [ob] at hb
        split at hb
        · cases hb
        · cases hb; omega
end Go.Vs

namespace Go.Vs

variable {P : Program} {Z Z' : Nat → Prop} {ψ ψ' : Nat → Value} {h h' : Hp} {w w' : World} {B0 : Nat} {O : Nat → Prop} {N : Nat → Prop}

theorem zipIdx_foldl : ∀ (vs : List Value) (k off : Nat) (cells : Array Value),
    (vs.zipIdx k).foldl (fun cs (p : Value × Nat) => cs.setIfInBounds (off + p.2) p.1) cells = (splice cells.toList (off + k) vs).toArray
  | [], k, off, cells => by simp [splice]
  | v :: r, k, off, cells => by
    simp only [List.zipIdx_cons, List.foldl_cons, splice]
    rw [zipIdx_foldl r (k + 1) off]
    simp [Nat.add_assoc]
theorem fold_splice (V : Array Value) (off : Nat) (cells : Array Value) :
    V.zipIdx.foldl (fun cs (p : Value × Nat) => cs.setIfInBounds (off + p.2) p.1) cells = (splice cells.toList off V.toList).toArray := by
  rw [← Array.foldl_toList, Array.toList_zipIdx]
  exact zipIdx_foldl V.toList 0 off cells
theorem splice_length {α : Type} : ∀ (vs cs : List α) (off : Nat), (splice cs off vs).length = cs.length
  | [], _, _ => rfl
  | v :: r, cs, off => by simp only [splice]; rw [splice_length r]; simp

theorem RepL.splice : ∀ {vs cs : List AV} {us ds : List Value} (off : Nat), RepL Z ψ h w vs us → RepL Z ψ h w cs ds → RepL Z ψ h w (splice cs off vs) (splice ds off us)
  | [], cs, us, ds, off, h1, h2 => by simp only [RepL] at h1; subst h1; exact h2
  | v :: r, cs, us, ds, off, h1, h2 => by
    simp only [RepL] at h1
    obtain ⟨u, us', rfl, h3, h4⟩ := h1
    simp only [Vs.splice]
    exact RepL.splice (off + 1) h4 (h2.set off h3)

theorem Rep.cells {a : AV} {v : Value} (hk : a ≠ .no) (hr : Rep Z ψ h w a v) : RepL Z ψ h w a.cells v.cells.toList := by
  cases a with
  | no => exact absurd rfl hk
  | agg cs => simp only [Rep] at hr; obtain ⟨vs, rfl, hr⟩ := hr; simpa [AV.cells, Value.cells] using hr
  | bool b => simp only [Rep] at hr; subst hr; simp [AV.cells, Value.cells, RepL, Rep]
  | int k n => simp only [Rep] at hr; subst hr; simp [AV.cells, Value.cells, RepL, Rep]
  | str s => simp only [Rep] at hr; subst hr; simp [AV.cells, Value.cells, RepL, Rep]
  | nilp => simp only [Rep] at hr; subst hr; simp [AV.cells, Value.cells, RepL, Rep]
  | nils => simp only [Rep] at hr; subst hr; simp [AV.cells, Value.cells, RepL, Rep]
  | ref id s i off => obtain ⟨a, rfl, h2⟩ := (by simpa only [Rep] using hr : ∃ a, v = .pointer (some a) ∧ _); simp only [AV.cells, Value.cells, RepL]; exact ⟨_, [], by simp, hr, rfl⟩
  | fp k x off => obtain ⟨a, us, rfl, h2⟩ := (by simpa only [Rep] using hr : ∃ a us, v = .pointer (some a) ∧ _); simp only [AV.cells, Value.cells, RepL]; exact ⟨_, [], by simp, hr, rfl⟩
  | sl ex k xs =>
    have hr' := hr
    simp only [Rep, RepK] at hr'
    obtain ⟨⟨v', hv, A, c, rfl, _⟩, _⟩ := hr'
    cases hv
    simp only [AV.cells, Value.cells, RepL]; exact ⟨_, [], by simp, hr, rfl⟩
  | osl id =>
    have hr' := hr
    simp only [Rep] at hr'
    obtain ⟨⟨hc, _⟩, _⟩ := hr'
    simp only [AV.cells, RepL, hc]; exact ⟨_, [], by simp, hr, rfl⟩
  | mp kk vk es =>
    have hr' := hr
    simp only [Rep, RepK] at hr'
    obtain ⟨A, hv, _⟩ := hr'
    cases hv
    simp only [AV.cells, Value.cells, RepL]; exact ⟨_, [], by simp, hr, rfl⟩
  | fn f cap =>
    have hr' := hr
    simp only [Rep] at hr'
    obtain ⟨vs, rfl, _⟩ := hr'
    simp only [AV.cells, Value.cells, RepL]; exact ⟨_, [], by simp, hr, rfl⟩
  | tup vs =>
    have hr' := hr
    simp only [Rep] at hr'
    obtain ⟨us, rfl, _⟩ := hr'
    simp only [AV.cells, Value.cells, RepL]; exact ⟨_, [], by simp, hr, rfl⟩

/-- Parts of a literal, abstract and concrete. -/
def Parts (Z : Nat → Prop) (ψ : Nat → Value) (h : Hp) (w : World) : List (Nat × AV) → List (Nat × Value) → Prop
  | [], [] => True
  | p :: r, q :: s => p.1 = q.1 ∧ p.2 ≠ .no ∧ Rep Z ψ h w p.2 q.2 ∧ Parts Z ψ h w r s
  | _, _ => False

theorem fill_rep {place : Nat → Option (Nat × Nat)} : ∀ {ps : List (Nat × AV)} {qs : List (Nat × Value)} {cs cs' : List AV} {cells : Array Value}, Parts Z ψ h w ps qs → RepL Z ψ h w cs cells.toList → fillA place cs ps = some cs' →
    ∃ cells', Instr.fill place cells qs = some cells' ∧ RepL Z ψ h w cs' cells'.toList
  | [], [], cs, cs', cells, _, hr, hf => by simp only [fillA] at hf; cases hf; exact ⟨cells, rfl, hr⟩
  | [], _ :: _, _, _, _, hp, _, _ => hp.elim
  | _ :: _, [], _, _, _, hp, _, _ => hp.elim
  | (i, a) :: ps, (j, v) :: qs, cs, cs', cells, hp, hr, hf => by
    obtain ⟨rfl, hno, hv, hp⟩ := hp
    simp only [fillA] at hf
    simp only at hno hv
    have hvc := hv.cells hno
    have hl := hvc.length
    have hl2 := hr.length
    simp only [Array.length_toList] at hl hl2
    simp only [Instr.fill]
    split at hf
    · cases hf
    · rename_i off size hpl
      simp only [hpl]
      split at hf
      · cases hf
      · rename_i hc
        have hc1 : a.cells.length = size := Decidable.not_not.1 (fun e => hc (.inl e))
        have hc2 : ¬ off + a.cells.length > cs.length := fun e => hc (.inr e)
        rw [if_neg (by simp only [Bool.or_eq_true, decide_eq_true_eq]; omega)]
        refine fill_rep hp ?_ hf
        rw [fold_splice, List.toList_toArray]
        exact hvc.splice off hr

theorem place_eq (fs : Array Field) (hi : ∀ f ∈ fs.toList, ∃ i, P.info? f.type = some i) : (fs.mapM fun f => do pure (f.offset, ← sizeOf f.type) : Sem (Array (Nat × Nat))).run P w = .ok (fs.map fun f => (f.offset, P.cellsOf f.type)) w := by
  rw [← Array.toArray_toList (xs := fs)]
  generalize fs.toList = l at hi
  have key : ∀ (l : List Field) (acc : Array (Nat × Nat)), (∀ f ∈ l, ∃ i, P.info? f.type = some i) →
      (l.foldlM (fun (bs : Array (Nat × Nat)) f => do let y ← (do pure (f.offset, ← sizeOf f.type) : Sem (Nat × Nat)); pure (bs.push y)) acc : Sem (Array (Nat × Nat))).run P w = .ok (acc ++ (l.map fun f => (f.offset, P.cellsOf f.type)).toArray) w := by
    intro l
    induction l with
    | nil => intro acc _; simp
    | cons f r ih =>
      intro acc hl
      obtain ⟨i, hi⟩ := hl f (by simp)
      simp only [List.foldlM_cons, Sem.run_bind, run_sizeOf' hi, Result.andThen_ok, Sem.run_pure]
      rw [ih _ (fun f hf => hl f (List.mem_cons_of_mem _ hf))]
      simp
  have := key l #[] hi
  simp only [Array.mapM_eq_foldlM, List.size_toArray, List.foldlM_toArray']
  simpa using this

theorem ofV_rep (v : Value) : Rep Z ψ h w (ofV v) v := by
  cases v with
  | bool b => simp only [ofV, Rep]
  | int k n => simp only [ofV, Rep]
  | string s => simp only [ofV, Rep]
  | pointer a =>
    simp only [ofV]; split
    · rename_i e; subst e; simp only [Rep]
    · simp only [Rep]
  | slice a n c =>
    simp only [ofV]; split
    · rename_i e; obtain ⟨rfl, rfl, rfl⟩ := e; simp only [Rep]
    · simp only [Rep]
  | func fn first cap =>
    cases fn with
    | func f =>
      simp only [ofV]; split
      · rename_i e
        have h1 : first = #[] := Array.eq_empty_of_size_eq_zero e.1
        have h2 : cap = #[] := Array.eq_empty_of_size_eq_zero e.2
        subst h1; subst h2
        simp only [Rep]; exact ⟨#[], rfl, by simp [RepL]⟩
      · simp only [Rep]
    | _ => simp only [ofV, Rep]
  | _ => simp only [ofV, Rep]
theorem ofV_list : ∀ vs : List Value, RepL Z ψ h w (vs.map ofV) vs
  | [] => by simp [RepL]
  | v :: r => by simp only [List.map_cons, RepL]; exact ⟨v, r, rfl, ofV_rep v, ofV_list r⟩
theorem ofVs_rep (v : Value) : Rep Z ψ h w (ofVs v) v := by
  cases v with
  | agg cs => simp only [ofVs, Rep]; exact ⟨cs, rfl, ofV_list _⟩
  | _ => simp only [ofVs]; exact ofV_rep _
theorem ofV_cells (v : Value) : (ofV v).cells = [ofV v] := by
  cases v with
  | pointer a => simp only [ofV]; split <;> rfl
  | slice a n c => simp only [ofV]; split <;> rfl
  | func fn first cap =>
    cases fn with
    | func f => simp only [ofV]; split <;> rfl
    | _ => rfl
  | _ => rfl
theorem ofVs_cells (v : Value) : RepL Z ψ h w (ofVs v).cells v.cells.toList := by
  cases v with
  | agg cs => simp only [ofVs, AV.cells, Value.cells]; exact ofV_list _
  | _ =>
    simp only [ofVs]
    rw [ofV_cells]
    simp only [RepL]
    exact ⟨_, [], rfl, ofV_rep _, rfl⟩
theorem zeroA_spec {t : TypeId} {zs : List AV} (hz : zeroA P t = some zs) : ∃ i z, P.info? t = some i ∧ i.zero = some z ∧ zs = (ofVs z).cells ∧ ∀ u ∈ z.cells.toList, u.oneCell' = true := by
  unfold zeroA at hz
  obtain ⟨i, hi, hz1⟩ := Option.bind_eq_some_iff.1 hz
  obtain ⟨z, hz2, hz3⟩ := Option.bind_eq_some_iff.1 hz1
  split at hz3
  · rename_i hall
    cases hz3
    exact ⟨i, z, hi, hz2, rfl, fun u hu => List.all_eq_true.1 hall u hu⟩
  · cases hz3
theorem run_zero {t : TypeId} {i : TypeInfo} {z : Value} (hi : P.info? t = some i) (hz : i.zero = some z) : (zeroValue t).run P w = .ok z w := by
  simp [zeroValue, typeInfo, hi, hz]

theorem build_rep {t : TypeId} {fs : Array Field} {zs cs : List AV} {ps : List (Nat × AV)} {qs : Array (Nat × Value)} (hz : zeroA P t = some zs) (ht : P.underlying t = some (.struct fs)) (hall : fs.toList.all (fun f => (P.info? f.type).isSome) = true)
    (hp : Parts Z ψ h w ps qs.toList) (hf : fillA (fun i => (fs[i]?).map fun f => (f.offset, P.cellsOf f.type)) zs ps = some cs) :
    ∃ V, (Instr.build t qs).run P w = .ok V w ∧ Rep Z ψ h w (.agg cs) V := by
  obtain ⟨i, z, hi, hzz, rfl, _⟩ := zeroA_spec hz
  obtain ⟨cells', h1, h2⟩ := fill_rep hp (ofVs_cells z) hf
  have hpl := place_eq (P := P) (w := w) fs (fun f hf => Option.isSome_iff_exists.1 (List.all_eq_true.1 hall f hf))
  refine ⟨.agg cells', ?_, by simp only [Rep]; exact ⟨_, rfl, h2⟩⟩
  have h1' : Instr.fill (fun x => (fs.map fun f => (f.offset, P.cellsOf f.type))[x]?) z.cells qs.toList = some cells' := by
    rw [← h1]; congr 1; funext x; simp
  simp only [Instr.build, Sem.run_bind, run_zero hi hzz, run_underlying ht, Result.andThen_ok, hpl, h1']
  rfl

theorem dec_no : ∀ (k : K) (cs : List AV) (x : k.T) (r : List AV), dec k cs = some (x, r) → cs.head? ≠ some .no
  | .int ik, cs, x, r, h, hc => by
    cases cs with
    | nil => simp at hc
    | cons a s => simp at hc; subst hc; simp [dec, decInt] at h
  | .bool, cs, x, r, h, hc => by
    cases cs with
    | nil => simp at hc
    | cons a s => simp at hc; subst hc; simp [dec, decBool] at h
  | .str, cs, x, r, h, hc => by
    cases cs with
    | nil => simp at hc
    | cons a s => simp at hc; subst hc; simp [dec, decStr] at h
  | .sl k, cs, x, r, h, hc => by
    cases cs with
    | nil => simp at hc
    | cons a s => simp at hc; subst hc; simp [dec, decSl] at h
  | .pair a b, cs, x, r, h, hc => by
    simp only [dec] at h
    split at h
    · rename_i x1 r1 h1
      exact dec_no a cs x1 r1 h1 hc
    · cases h
  | .one k, cs, x, r, h, hc => by
    simp only [dec] at h
    exact dec_no k cs x r h hc
  | .mp kk vk, cs, x, r, h, hc => by
    cases cs with
    | nil => simp at hc
    | cons a s => simp at hc; subst hc; simp [dec, decMp] at h
theorem decOne_no {k : K} {hh : Heap} {a : AV} {x : k.T} (h : decOne k (a.cells.map (view1 hh)) = some x) : a ≠ .no := by
  rintro rfl
  unfold decOne at h
  split at h
  · rename_i x' h1
    exact dec_no k _ _ _ h1 (by simp [AV.cells, view1])
  · cases h

/-- The elements of a literal row. -/
theorem lit_fill {k : K} {hh : Heap} (g : Good Z ψ hh.get w B0 O) (hz : ∀ b, Z b → Z' b) : ∀ {ps : List (Nat × AV)} {qs : List (Nat × Value)} {xs : List k.T} {i : Nat} {cells : Array Value},
    (∀ p ∈ ps, ∀ id b, AV.osl id ∈ p.2.cells → hh.get id ≠ none → ob (ψ id) = some b → Z' b) → Parts Z ψ hh.get w ps qs → litRow k hh i ps = some xs → (i + ps.length) * k.sz ≤ cells.size →
    ∃ cells' flat, Instr.fill (fun i => some (i * k.sz, k.sz)) cells qs = some cells' ∧ cells'.toList = cells.toList.take (i * k.sz) ++ flat ++ cells.toList.drop ((i + ps.length) * k.sz) ∧ flat.length = ps.length * k.sz ∧ RowV Z' w k xs flat ∧ (∀ q ∈ flat, q.oneCell' = true) ∧ xs.length = ps.length
  | [], [], xs, i, cells, _, _, hl, _ => by
    simp only [litRow] at hl; cases hl
    exact ⟨cells, [], rfl, by simp, by simp, fun i x hx => by simp at hx, by simp, rfl⟩
  | [], _ :: _, _, _, _, _, hp, _, _ => hp.elim
  | _ :: _, [], _, _, _, _, hp, _, _ => hp.elim
  | (j, a) :: ps, (j', v) :: qs, xs, i, cells, hb, hp, hl, hs => by
    obtain ⟨hjj, hno, hv, hp⟩ := hp
    simp only at hjj hno hv
    subst hjj
    simp only [litRow] at hl
    split at hl
    · rename_i e
      subst e
      split at hl
      · rename_i y ys h1 h2
        cases hl
        simp only [List.length_cons] at hs
        have hvc := hv.cells hno
        have hvw := views_rep g hz (hb (j, a) (by simp)) hvc
        have hk := decOne_rep h1 hvw
        have hkl := hk.len
        rw [Array.length_toList] at hkl
        have hsz : j * k.sz + k.sz ≤ cells.size := by
          have : (j + 1) * k.sz ≤ (j + (ps.length + 1)) * k.sz := Nat.mul_le_mul_right _ (by omega)
          rw [Nat.succ_mul] at this; omega
        simp only [Instr.fill]
        rw [if_neg (by simp only [Bool.or_eq_true, decide_eq_true_eq]; omega), fold_splice]
        obtain ⟨cells', flat, h3, h4, h5, h6, h7, h8⟩ := lit_fill g hz (ps := ps) (qs := qs) (xs := ys) (i := j + 1) (cells := (splice cells.toList (j * k.sz) v.cells.toList).toArray) (fun p hp => hb p (List.mem_cons_of_mem _ hp)) hp h2 (by
          rw [List.size_toArray, splice_length]
          have e9 : cells.toList.length = cells.size := Array.length_toList
          rw [e9, show j + 1 + ps.length = j + (ps.length + 1) by omega]; exact hs)
        refine ⟨cells', v.cells.toList ++ flat, h3, ?_, ?_, ?_, ?_, by simp [h8]⟩
        · rw [h4, List.toList_toArray, splice_eq _ _ _ (by rw [Array.length_toList, Array.length_toList]; omega)]
          have e1 : (j + 1) * k.sz = j * k.sz + k.sz := Nat.succ_mul _ _
          have e2 : (j + 1 + ps.length) * k.sz = (j + (ps.length + 1)) * k.sz := by congr 1; omega
          rw [List.length_cons, e1, e2]
          have l1 : (cells.toList.take (j * k.sz) ++ v.cells.toList).length = j * k.sz + k.sz := by
            rw [List.length_append, List.length_take, Array.length_toList, Array.length_toList]; omega
          rw [← l1, List.take_left]
          have l2 : (j + (ps.length + 1)) * k.sz = (cells.toList.take (j * k.sz) ++ v.cells.toList).length + (ps.length * k.sz) := by
            rw [l1, Nat.add_mul, Nat.add_mul]; omega
          have hd : (cells.toList.take (j * k.sz) ++ v.cells.toList ++ cells.toList.drop (j * k.sz + v.cells.toList.length)).drop ((j + (ps.length + 1)) * k.sz) = cells.toList.drop ((j + (ps.length + 1)) * k.sz) := by
            rw [l2, List.drop_append, List.drop_eq_nil_of_le (by omega), List.nil_append, Nat.add_sub_cancel_left, List.drop_drop]
            congr 1
            rw [l1, Array.length_toList]; omega
          rw [hd]
          simp [List.append_assoc]
        · rw [List.length_append, h5, Array.length_toList, hkl, List.length_cons, Nat.succ_mul]; omega
        · intro n x hx
          cases n with
          | zero =>
            simp only [List.getElem?_cons_zero, Option.some.injEq] at hx; subst hx
            have hkl' : v.cells.toList.length = k.sz := by rw [Array.length_toList]; exact hkl
            rw [Nat.zero_mul, List.drop_zero, ← hkl', List.take_left]
            exact hk
          | succ n =>
            have := h6 n x (by simpa using hx)
            have hkl' : v.cells.toList.length = k.sz := by rw [Array.length_toList]; exact hkl
            have e : (n + 1) * k.sz = v.cells.toList.length + n * k.sz := by rw [hkl', Nat.succ_mul]; omega
            rw [e, List.drop_append, List.drop_eq_nil_of_le (by omega), List.nil_append, Nat.add_sub_cancel_left]
            exact this
        · intro q hq
          rcases List.mem_append.1 hq with hq | hq
          · exact hk.one q hq
          · exact h7 q hq
      · cases hl
    · cases hl

/-- A step behind what was handed away. -/
theorem Next.drop {Z1 : Nat → Prop} {h1 : Hp} (n : Next Z1 ψ h1 w B0 O N Z' ψ' h' w') (hz : ∀ b, Z b → Z1 b) (hz1 : ∀ b, Z1 b → Z b ∨ Own ψ h b) (hsub : ∀ id o, h1 id = some o → h id = some o) : Next Z ψ h w B0 O N Z' ψ' h' w' := by
  have hn : ∀ id, h1 id ≠ none → h id ≠ none := fun id hn => by
    obtain ⟨o, ho⟩ := Option.ne_none_iff_exists'.1 hn
    rw [hsub id o ho]; simp
  have ho : ∀ b, Own ψ h1 b → Own ψ h b := fun b ⟨id, h2, h3⟩ => ⟨id, hn id h2, h3⟩
  refine ⟨fun b hb => n.zsub b (hz b hb), fun b hb => ?_, ⟨n.keep.os, n.keep.tape, n.keep.output, n.keep.size, fun b hb hno => n.keep.block b hb (fun h => hno (ho b h))⟩, fun id hid => (n.ids id hid).imp (fun ⟨h2, h3⟩ => ⟨hn id h2, h3⟩) (fun h => h), n.good⟩
  rcases n.zfrom b hb with h2 | h2 | h2
  · exact (hz1 b h2).imp (fun h => h) (fun h => .inl h)
  · exact .inr (.inl (ho b h2))
  · exact .inr (.inr h2)

theorem Parts.subH {h h' : Hp} (hs : ∀ id o, h' id = some o → h id = some o) : ∀ {ps : List (Nat × AV)} {qs : List (Nat × Value)}, Parts Z ψ h w ps qs → Parts Z ψ h' w ps qs := by
  intro ps
  induction ps with
  | nil => intro qs hp; cases qs with
    | nil => trivial
    | cons q r => exact hp.elim
  | cons p r ih => intro qs hp; cases qs with
    | nil => exact hp.elim
    | cons q s => exact ⟨hp.1, hp.2.1, hp.2.2.1.subH hs, ih hp.2.2.2⟩

/-- A literal row: the operation, and what it leaves. -/
theorem next_lit {hh : Heap} {Z1 : Nat → Prop} (g : Good Z1 ψ h w B0 O) (g0 : Good Z ψ hh.get w B0 O) (hz : ∀ b, Z b → Z1 b) (hB : B0 ≤ w.heap.size) {id : Nat} (hN : N id) {t e : TypeId} {k : K} {i : TypeInfo} {z : Value} (ht : P.underlying t = some (.slice e)) (he : ElemOk P e k i z)
    {ps : List (Nat × AV)} {qs : Array (Nat × Value)} {xs : List k.T} (hos : ∀ p ∈ ps, ∀ id b, AV.osl id ∈ p.2.cells → hh.get id ≠ none → ob (ψ id) = some b → Z1 b) (hp : Parts Z ψ hh.get w ps qs.toList) (hl : litRow k hh 0 ps = some xs) (hn : ps.length * k.sz ≤ 1048576)
    (hment : ∀ i ty cs, h i = some (.box ty cs) → MentL (fun i => i ≠ id) cs) :
    ∃ v' w', (Instr.buildSlice t ps.length qs).run P w = .ok v' w' ∧ Next Z1 ψ h w B0 O N Z1 (upd ψ id v') (upd h id (some (.own (.row e k) xs))) w' ∧ (v'.cells = #[v'] ∧ v'.oneCell' = true) ∧ (∀ b, Own ψ h b → w'.heap[b]? = w.heap[b]?) ∧ (∀ b, ob v' = some b → w.heap.size ≤ b) ∧ ∃ A c, v' = .slice A c c := by
  let zeros : Array Value := (Array.range (ps.length * k.sz)).map (z.cells[· % z.cells.size]!)
  have hzs : zeros.size = ps.length * k.sz := by simp [zeros]
  obtain ⟨cells', flat, h1, h2, h3, h4, h5, h6⟩ := lit_fill (Z' := Z1) g0 hz (ps := ps) (qs := qs.toList) (xs := xs) (i := 0) (cells := zeros) hos hp hl (by rw [Nat.zero_add, hzs]; exact Nat.le_refl _)
  have hflat : cells'.toList = flat := by
    rw [h2, Nat.zero_mul, List.take_zero, List.nil_append, Nat.zero_add, List.drop_eq_nil_of_le (by rw [Array.length_toList, hzs]; exact Nat.le_refl _), List.append_nil]
  have hcs : cells'.size = ps.length * k.sz := by rw [← Array.length_toList, hflat]; exact h3
  have hpos := k.sz_pos
  have hlen : ps.length ≤ 1048576 := Nat.le_trans (Nat.le_mul_of_pos_right _ hpos) hn
  have hown : (w.alloc (.cells cells' e)).ownsRow 0 e k.sz (.slice (some ⟨w.heap.size, 0, none⟩) ps.length ps.length) xs.length flat := by
    have := World.ownsRow_lit (base := 0) (e := e) (size := k.sz) w cells' ps.length (Nat.zero_le _) (by simp only [maxLen]; omega) hcs
    rw [h6, ← hflat]; exact this
  refine ⟨.slice (some ⟨w.heap.size, 0, none⟩) ps.length ps.length, w.alloc (.cells cells' e), ?_, next_row g hB id e hN (vs := flat) (Keep.alloc _ _ _ _) (fun b hb => heap_alloc_old w _ (g.own_lt hb)) (OwnR.of hown) (h4.elim2 ((Keep.alloc ψ h w _).same g)) (fun b hb => by simp only [ob] at hb; split at hb <;> cases hb; exact Nat.le_refl _) hment, (OwnR.of hown).one, fun b hb => heap_alloc_old w _ (g.own_lt hb), fun b hb => by simp only [ob] at hb; split at hb <;> cases hb; exact Nat.le_refl _, _, _, rfl⟩
  · show _ = Result.ok (Value.slice (some ⟨w.heap.size, 0, none⟩) ps.length ps.length) _
    have hcond : ¬ ps.length * k.sz > 2 ^ 24 := by omega
    have hc : P.cellsOf e = k.sz := by simp [Program.cellsOf, he.info, he.size]
    simp only [Instr.buildSlice, Sem.run_bind, run_underlying ht, Result.andThen_ok, run_sizeOf' he.info, hc]
    rw [if_neg hcond]
    have hnew : (newRow e cells').run P w = .ok ⟨w.heap.size, 0, none⟩ (w.alloc (.cells cells' e)) := rfl
    by_cases h0 : ps.length * k.sz = 0
    · have hz0 : zeros = #[] := Array.eq_empty_of_size_eq_zero (by rw [hzs, h0])
      have hz1 : (Array.range (ps.length * k.sz)).map (fun x => (#[] : Array Value)[x % (#[] : Array Value).size]!) = #[] := Array.eq_empty_of_size_eq_zero (by simp [h0])
      rw [if_pos h0]
      rw [hz0] at h1
      simp only [Sem.run_pure, Result.andThen_ok, hz1, h1, Sem.run_bind, hnew]
    · rw [if_neg h0]
      simp only [Sem.run_bind, run_zero he.info he.zero, Result.andThen_ok, Sem.run_pure]
      rw [show (Array.range (ps.length * k.sz)).map (fun x => z.cells[x % z.cells.size]!) = zeros from rfl, h1]
      simp only [Sem.run_bind, hnew, Result.andThen_ok, Sem.run_pure]

/-- A new row that becomes data at once. -/
theorem next_frz (g : Good Z ψ h w B0 O) (hB : B0 ≤ w.heap.size) {id : Nat} {e : TypeId} {k : K} {xs : List k.T} {v' : Value} (n : Next Z ψ h w B0 O N Z (upd ψ id v') (upd h id (some (.own (.row e k) xs))) w')
    (hsame : ∀ b, Own ψ h b → w'.heap[b]? = w.heap[b]?) (hnew : ∀ b, ob v' = some b → w.heap.size ≤ b) (hex : ∃ A c, v' = .slice A c c) :
    Next Z ψ h w B0 O N (fun b => Z b ∨ ob v' = some b) ψ h w' ∧ Rep (fun b => Z b ∨ ob v' = some b) ψ h w' (.sl true k xs) v' := by
  have hrow : OwnOb Z w' (.row e k) v' xs := by
    have := n.good.row id (.row e k) xs (upd_self _ _ _)
    rwa [upd_self] at this
  obtain ⟨vs, ho, hv⟩ := hrow
  have m : Next Z ψ h w B0 O (fun _ => False) Z ψ h w' := g.more n.keep hsame (fun _ _ => ⟨rfl, rfl⟩) (fun i ty cs hb => by
    have e : (fun _ : Nat => ¬ False) = fun _ => True := by funext i; simp
    rw [e]; exact MentL.top cs) (fun _ _ _ h => h.elim) (fun _ _ _ h => h.elim) (fun _ _ h => h.elim) (fun _ _ _ h => h.elim) hB
  have hz : ∀ b, Z b → Z b ∨ ob v' = some b := fun b h => .inl h
  refine ⟨⟨hz, fun b hb => hb.imp (fun h => h) fun h => .inr (hnew b h), m.keep, fun i hi => .inl ((m.ids i hi).resolve_right (fun h => h)), ⟨fun i ty cs hb => ?_, fun i ok x hb => ?_, fun i b h1 h2 => ?_, m.good.apart, fun b hb => ?_⟩⟩, ?_⟩
  · obtain ⟨gg, vs, f1, f2, f3, f4⟩ := m.good.box i ty cs hb
    exact ⟨gg, vs, f1, f2, RepL.less hz (Same.refl _ _) (fun _ h => ⟨h, rfl⟩) f3, f4⟩
  · exact (m.good.row i ok x hb).kept hz (Same.refl _ _) (fun _ _ => rfl)
  · obtain ⟨k1, k2⟩ := m.good.live i b h1 h2
    refine ⟨fun hb => hb.elim k1 fun hb => ?_, k2⟩
    have := g.own_lt ⟨i, h1, h2⟩
    have := hnew b hb
    omega
  · rcases hb with hb | hb
    · exact m.good.zlt b hb
    · exact OwnOb.lt (ok := .row e k) ⟨vs, ho, hv⟩ hb
  · simp only [Rep]
    exact ⟨row_data ho hv (fun b h => .inl h) (fun b h => .inr h), fun _ => hex⟩
end Go.Vs
