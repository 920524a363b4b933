/- The abstract machine: Go's operations over values without a world: rows of cells are kept in a heap of the call's own, what came in or is handed back is a tree. Definitions alone. -/
import Derived.Orders
import Derived.Laws.Strings
set_option linter.unusedVariables false
set_option linter.unusedSimpArgs false
set_option linter.unusedSectionVars false
set_option linter.unnecessarySimpa false
namespace Go.Ab

/-- An abstract value. 'sl', 'ptr', 'map' name a block of the abstract heap; 'isl', 'eptr' hold what can no more be written ('tmp': as long as this call lasts). -/
inductive AV where
  | undef
  | bool (b : Bool)
  | int (k : IntKind) (n : Int)
  | str (s : List UInt8)
  | ptr (id off : Nat)
  | eptr (tmp : Bool) (cs : List AV) (off : Nat)
  | nilp
  | sl (id off len esz : Nat)
  | isl (tmp : Bool) (rows : List (List AV))
  | nils
  | map (id : Nat)
  | nilm
  | fn (f : FuncId) (cap : List AV)
  | nilf
  | ifc (t : TypeId) (v : AV)
  | nili
  | agg (cs : List AV)
  | tup (vs : List AV)
  deriving Inhabited

def AV.cells : AV → List AV
  | .agg cs => cs
  | v => [v]

/-- Fits into one cell of memory. -/
def AV.isCell : AV → Bool
  | .undef | .agg _ | .tup _ => false
  | _ => true

inductive Ob where
  | dead
  | row (bx : Bool) (e : TypeId) (cs : List AV)
  | map (es : List (AV × AV))
  deriving Inhabited

/-- The newest block stands first; block number id lies n - 1 - id behind. -/
structure Heap where
  n : Nat
  l : List Ob

def Heap.empty : Heap := ⟨0, []⟩
def Heap.get (H : Heap) (id : Nat) : Ob := if id < H.n then H.l.getD (H.n - 1 - id) .dead else .dead
def Heap.set (H : Heap) (id : Nat) (o : Ob) : Heap := ⟨H.n, H.l.set (H.n - 1 - id) o⟩
def Heap.push (H : Heap) (o : Ob) : Heap := ⟨H.n + 1, o :: H.l⟩

def mapO {α β : Type} (f : α → Option β) : List α → Option (List β)
  | [] => some []
  | x :: xs => match f x with
    | some y => match mapO f xs with
      | some ys => some (y :: ys)
      | none => none
    | none => none

def ofVal1 : Value → Option AV
  | .bool b => some (.bool b)
  | .int k n => some (.int k n)
  | .string s => some (.str s.data.toList)
  | .pointer none => some .nilp
  | .slice none 0 0 => some .nils
  | .map none => some .nilm
  | .nilFunc => some .nilf
  | .nilIface => some .nili
  | _ => none

def ofVal : Value → Option AV
  | .agg cs => (mapO ofVal1 cs.toList).map .agg
  | .tuple vs => if vs.size = 0 then some .undef else none
  | v => ofVal1 v

def ev (tm : List AV) : Operand → Option AV
  | .tmp t => some (tm.getD t .undef)
  | .const v => ofVal v
  | .global _ => none
  | .func f => some (.fn f [])

section
variable (P : Program)

def tsz (t : TypeId) : Option Nat := (P.info? t).map (·.size)
def tbytes (t : TypeId) : Option Nat := (P.info? t).map (·.bytes)
def tagg (t : TypeId) : Option Bool := (P.underlying t).map fun | .struct _ | .array _ _ => true | _ => false
def tzero (t : TypeId) : Option AV := ((P.info? t).bind (·.zero)).bind ofVal

def rd (H : Heap) (a : AV) (n : Nat) : Option (List AV) :=
  match a with
  | .ptr id off => match H.get id with
    | .row bx e0 cs => let r := (cs.drop off).take n; if r.length = n then some r else none
    | _ => none
  | .eptr _ cs off => let r := (cs.drop off).take n; if r.length = n then some r else none
  | _ => none

/-- How many cells a load of a type takes. -/
def loadN (t : TypeId) : Option Nat :=
  match tagg P t with
  | some true => tsz P t
  | some false => some 1
  | none => none

def loadA (H : Heap) (t : TypeId) (a : AV) : Option AV :=
  match tagg P t, loadN P t with
  | some true, some n => match rd H a n with
    | some r => some (.agg r)
    | none => none
  | some false, some n => match rd H a n with
    | some [v] => some v
    | _ => none
  | _, _ => none

def storeA (H : Heap) (t : TypeId) (a v : AV) : Option Heap :=
  match a, tsz P t with
  | .ptr id off, some n => match H.get id with
    | .row bx e0 cs =>
      let new := v.cells
      if new.length = n ∧ new.all AV.isCell = true ∧ off + n ≤ cs.length ∧ 0 < n then some (H.set id (.row bx e0 (cs.take off ++ new ++ cs.drop (off + n)))) else none
    | _ => none
  | _, _ => none

/-- The elements of a slice as rows of esz cells. -/
def chunk (esz : Nat) : Nat → List AV → List (List AV)
  | 0, _ => []
  | n + 1, cs => cs.take esz :: chunk esz n (cs.drop esz)

/-- The cells of a slice's elements, for elements of esz cells. -/
def slCells (H : Heap) (esz : Nat) (v : AV) : Option (Nat × List AV) :=
  match v with
  | .nils => some (0, [])
  | .sl id off len e => match H.get id with
    | .row bx e0 cs => let r := (cs.drop off).take (len * esz); if e = esz ∧ r.length = len * esz then some (len, r) else none
    | _ => none
  | .isl _ rows => if rows.all (fun r => r.length == esz) then some (rows.length, rows.flatten) else none
  | .str s => if esz = 1 then some (s.length, s.map fun b => .int .u8 b.toNat) else none
  | _ => none

def appendA (H : Heap) (elem : TypeId) (s x : AV) : Option (AV × Heap) :=
  match tsz P elem, tbytes P elem, tzero P elem with
  | some esz, some bytes, some z =>
    match slCells H esz x with
    | none => none
    | some (m, new) =>
      match s with
      | .nils =>
        if m = 0 then some (.nils, H)
        else if 0 < esz ∧ 2 * m * bytes ≤ 2 ^ 47 ∧ m ≤ 2 ^ 47 ∧ z.cells.length = esz then some (.sl H.n 0 m esz, H.push (.row false elem new)) else none
      | .sl id off len e => match H.get id with
        | .row bx e0 cs =>
          let old := (cs.drop off).take (len * esz)
          if e = esz ∧ e0 = elem ∧ 0 < esz ∧ old.length = len * esz ∧ 2 * (len + m) * bytes ≤ 2 ^ 47 ∧ len + m ≤ 2 ^ 47 ∧ z.cells.length = esz then
            some (.sl H.n 0 (len + m) esz, (H.set id .dead).push (.row false elem (old ++ new)))
          else none
        | _ => none
      | _ => none
  | _, _, _ => none

def loA : Option AV → Option Nat
  | none => some 0
  | some (.int _ n) => if 0 ≤ n then some n.toNat else none
  | _ => none

def hiA (len : Nat) : Option AV → Option Nat
  | none => some len
  | some (.int _ n) => if 0 ≤ n ∧ n ≤ (len : Int) then some n.toNat else none
  | _ => none

def sliceStrA (s : List UInt8) (lo hi : Option AV) : Option AV :=
  match loA lo, hiA s.length hi with
  | some l, some h => if l ≤ h then some (.str ((s.drop l).take (h - l))) else none
  | _, _ => none

def rowLen : List (List AV) → Nat → Bool
  | [], _ => true
  | r :: _, e => r.length == e

def sliceA (e : Nat) (x : AV) (lo hi : Option AV) : Option AV :=
  match x with
  | .sl id off len e' => match loA lo, hiA len hi with
    | some l, some h => if e' = e ∧ l ≤ h then some (.sl id (off + l * e) (h - l) e) else none
    | _, _ => none
  | .isl tmp rows => match loA lo, hiA rows.length hi with
    | some l, some h => if rowLen rows e = true ∧ l ≤ h then some (.isl tmp ((rows.drop l).take (h - l))) else none
    | _, _ => none
  | .nils => match loA lo, hiA 0 hi with
    | some l, some h => if l ≤ h then some .nils else none
    | _, _ => none
  | _ => none

def indexAddrA (t : TypeId) (x i : AV) : Option AV :=
  match i with
  | .int _ i =>
    if 0 ≤ i then
      match P.underlying t, x with
      | some (.slice elem), .sl id off len e => match tsz P elem with
        | some esz => if e = esz ∧ i < (len : Int) then some (.ptr id (off + i.toNat * esz)) else none
        | none => none
      | some (.slice elem), .isl tmp rows => match tsz P elem, rows[i.toNat]? with
        | some esz, some r => if r.length = esz then some (.eptr tmp r 0) else none
        | _, _ => none
      | some (.array len elem), .ptr id off => match tsz P elem with
        | some esz => if i < (len : Int) then some (.ptr id (off + i.toNat * esz)) else none
        | none => none
      | some (.array len elem), .eptr tmp cs off => match tsz P elem with
        | some esz => if i < (len : Int) then some (.eptr tmp cs (off + i.toNat * esz)) else none
        | none => none
      | _, _ => none
    else none
  | _ => none

def fieldAddrA (s : TypeId) (x : AV) (f : Nat) : Option AV :=
  match P.underlying s with
  | some (.struct fields) => match fields[f]? with
    | some fd => match tsz P fd.type with
      | some n => if n = 0 then none else match x with
        | .ptr id off => some (.ptr id (off + fd.offset))
        | .eptr tmp cs off => some (.eptr tmp cs (off + fd.offset))
        | _ => none
      | none => none
    | none => none
  | _ => none

def partA (t : TypeId) (cs : List AV) (off : Nat) : Option AV :=
  match tagg P t with
  | some true => match tsz P t with
    | some n => some (.agg ((cs.drop off).take n))
    | none => none
  | some false => cs[off]?
  | none => none

def fieldA (t : TypeId) (x : AV) (f : Nat) : Option AV :=
  match P.underlying t, x with
  | some (.struct fields), .agg cs => match fields[f]? with
    | some fd => partA P fd.type cs fd.offset
    | none => none
  | _, _ => none

def indexA (t : TypeId) (x i : AV) : Option AV :=
  match i with
  | .int _ i =>
    if 0 ≤ i then
      match P.underlying t, x with
      | some (.array len elem), .agg cs => match tsz P elem with
        | some esz => if i < (len : Int) then partA P elem cs (i.toNat * esz) else none
        | none => none
      | some .string, .str s => match s[i.toNat]? with
        | some b => some (.int .u8 b.toNat)
        | none => none
      | _, _ => none
    else none
  | _ => none

def fillA (place : Nat → Option (Nat × Nat)) (cells : List AV) : List (Nat × AV) → Option (List AV)
  | [] => some cells
  | (i, v) :: rest => match place i with
    | none => none
    | some (off, size) =>
      let new := v.cells
      if new.length = size ∧ off + size ≤ cells.length then fillA place (cells.take off ++ new ++ cells.drop (off + size)) rest else none

def buildA (t : TypeId) (parts : List (Nat × AV)) : Option AV :=
  match tzero P t with
  | some z =>
    match P.underlying t with
    | some (.struct fields) => if fields.toList.all (fun f => (tsz P f.type).isSome) = false then none else
      (fillA (fun i => match fields[i]? with
        | some f => match tsz P f.type with | some n => some (f.offset, n) | none => none
        | none => none) z.cells parts).map .agg
    | some (.array _ elem) => match tsz P elem with
      | some n => (fillA (fun i => some (i * n, n)) z.cells parts).map .agg
      | none => none
    | _ => none
  | none => none

def repL {α : Type} (x : List α) : Nat → List α
  | 0 => []
  | n + 1 => x ++ repL x n

def buildSliceA (H : Heap) (t : TypeId) (len : Nat) (parts : List (Nat × AV)) : Option (AV × Heap) :=
  match P.underlying t with
  | some (.slice elem) => match tsz P elem, tzero P elem with
    | some n, some z =>
      if 0 < n ∧ len * n ≤ 2 ^ 24 ∧ z.cells.length = n then
        match fillA (fun i => some (i * n, n)) (repL z.cells len) parts with
        | some cs => if cs.all AV.isCell = true then some (.sl H.n 0 len n, H.push (.row false elem cs)) else none
        | none => none
      else none
    | _, _ => none
  | _ => none

def makeSliceA (H : Heap) (t : TypeId) (l c : AV) : Option (AV × Heap) :=
  match P.underlying t, l, c with
  | some (.slice elem), .int _ l, .int _ c => match tsz P elem, tzero P elem, tbytes P elem with
    | some n, some z, some bytes =>
      if 0 < n ∧ 0 ≤ l ∧ l ≤ c ∧ c ≤ 2 ^ 47 ∧ bytes * c ≤ 2 ^ 47 ∧ z.cells.length = n ∧ z.cells.all AV.isCell = true then
        some (.sl H.n 0 l.toNat n, H.push (.row false elem (repL z.cells l.toNat)))
      else none
    | _, _, _ => none
  | _, _, _ => none

/-! ### equality -/
def keyEq : TypeDesc → AV → AV → Option Bool
  | .int _, .int k a, .int k' b => if k = k' then some (a == b) else none
  | .string, .str a, .str b => some (a == b)
  | .bool, .bool a, .bool b => some (a == b)
  | _, _, _ => none

def eqFields (r : TypeId → AV → AV → Option Bool) (xs ys : List AV) : List Field → Option Bool
  | [] => some true
  | f :: fs => if f.name = "_" then eqFields r xs ys fs else
    match partA P f.type xs f.offset, partA P f.type ys f.offset with
    | some a, some b => match r f.type a b with
      | some true => eqFields r xs ys fs
      | some false => some false
      | none => none
    | _, _ => none

def eqArr (r : TypeId → AV → AV → Option Bool) (elem n : Nat) (xs ys : List AV) : Nat → Nat → Option Bool
  | 0, _ => some true
  | m + 1, i => match partA P elem xs (i * n), partA P elem ys (i * n) with
    | some a, some b => match r elem a b with
      | some true => eqArr r elem n xs ys m (i + 1)
      | some false => some false
      | none => none
    | _, _ => none

/-- '==' of aggregates, part for part, down their types. -/
def eqA : Nat → TypeId → AV → AV → Option Bool
  | 0, _, _, _ => none
  | d + 1, t, x, y =>
    match P.underlying t, x, y with
    | some (.int _), .int k a, .int k' b => if k = k' then some (a == b) else none
    | some .string, .str a, .str b => some (a == b)
    | some .bool, .bool a, .bool b => some (a == b)
    | some (.struct fields), .agg xs, .agg ys =>
      if P.stoodInHeld t = false then eqFields P (eqA d) xs ys fields.toList else none
    | some (.array len elem), .agg xs, .agg ys => match tsz P elem with
      | some n => eqArr P (eqA d) elem n xs ys len 0
      | none => none
    | _, _, _ => none

def cmpInt (op : BinOp) (x y : Int) : Option AV :=
  match op with
  | .eql => some (.bool (x == y))
  | .neq => some (.bool (x != y))
  | .lss => some (.bool (x < y))
  | .leq => some (.bool (x ≤ y))
  | .gtr => some (.bool (x > y))
  | .geq => some (.bool (x ≥ y))
  | _ => none

def strOp (op : BinOp) (x y : List UInt8) : Option AV :=
  match op with
  | .add => if x.length + y.length < 2 ^ 62 then some (.str (x ++ y)) else none
  | .eql => some (.bool (x == y))
  | .neq => some (.bool !(x == y))
  | .lss => some (.bool (Op.bytesLess x y))
  | .leq => some (.bool (Op.bytesLess x y || x == y))
  | .gtr => some (.bool !(Op.bytesLess x y || x == y))
  | .geq => some (.bool !(Op.bytesLess x y))
  | _ => none

def bitsA (op : BinOp) (k : IntKind) (x y : Int) : Option AV :=
  let a := BitVec.ofInt k.bits x
  let b := BitVec.ofInt k.bits y
  match op with
  | .and => some (.int k (k.wrap (a &&& b).toNat))
  | .or => some (.int k (k.wrap (a ||| b).toNat))
  | .xor => some (.int k (k.wrap (a ^^^ b).toNat))
  | .andNot => some (.int k (k.wrap (a &&& ~~~b).toNat))
  | _ => none

def intOp (op : BinOp) (k : IntKind) (x y : Int) : Option AV :=
  match op with
  | .add => some (.int k (k.wrap (x + y)))
  | .sub => some (.int k (k.wrap (x - y)))
  | .mul => some (.int k (k.wrap (x * y)))
  | .quo => if y = 0 then none else some (.int k (k.wrap (x.tdiv y)))
  | .rem => if y = 0 then none else some (.int k (x.tmod y))
  | .shl | .shr => none
  | .and | .or | .xor | .andNot => bitsA op k x y
  | _ => cmpInt op x y

/-- nil against anything, where no look into memory is asked. -/
def nilEq (t : TypeDesc) (x y : AV) : Option Bool :=
  match t, x, y with
  | .slice _, .nils, .nils => some true
  | .slice _, .nils, .sl .. | .slice _, .sl .., .nils => some false
  | .slice _, .nils, .isl .. | .slice _, .isl .., .nils => some false
  | .pointer _, .nilp, .nilp => some true
  | .pointer _, .nilp, .ptr .. | .pointer _, .ptr .., .nilp | .pointer _, .nilp, .eptr .. | .pointer _, .eptr .., .nilp => some false
  | .map _ _, .nilm, .nilm => some true
  | .map _ _, .nilm, .map _ | .map _ _, .map _, .nilm => some false
  | .func _ _ _, .nilf, .nilf => some true
  | .func _ _ _, .nilf, .fn .. | .func _ _ _, .fn .., .nilf => some false
  | .interface _, .nili, .ifc .. | .interface _, .ifc .., .nili => some false
  | _, _, _ => none

def isConst : Operand → Bool
  | .const _ => true
  | _ => false

def eqDepth : Nat := 60

def binA (op : BinOp) (t : TypeId) (ox oy : Operand) (x y : AV) : Option AV :=
  match x, y with
  | .int k a, .int k' b =>
    match op with
    | .shl => if b < 0 then none else some (.int k (k.wrap (a * 2 ^ (min b.toNat k.bits))))
    | .shr => if b < 0 then none else some (.int k (a.fdiv (2 ^ (min b.toNat k.bits))))
    | _ => if k = k' then intOp op k a b else none
  | .str a, .str b => strOp op a b
  | .nili, .nili => match op, P.underlying t with
    | .eql, some (.interface _) => if isConst ox || isConst oy then some (.bool true) else none
    | .neq, some (.interface _) => if isConst ox || isConst oy then some (.bool false) else none
    | _, _ => none
  | .agg a, .agg b => if P.eqGuardType P.depth t = false then
      match op, eqA P eqDepth t (.agg a) (.agg b) with
      | .eql, some r => some (.bool r)
      | .neq, some r => some (.bool !r)
      | _, _ => none
    else none
  | .bool a, .bool b => match op, P.underlying t with
    | .eql, some .bool => some (.bool (a == b))
    | .neq, some .bool => some (.bool !(a == b))
    | _, _ => none
  | .ptr i a, .ptr j b => match P.underlying t with
    | some (.pointer e) => match op, tsz P e with
      | .eql, some (_ + 1) => if i = j then some (.bool (a == b)) else none
      | .neq, some (_ + 1) => if i = j then some (.bool !(a == b)) else none
      | _, _ => none
    | _ => none
  | x, y => match op, (P.underlying t).bind (nilEq · x y) with
    | .eql, some r => some (.bool r)
    | .neq, some r => some (.bool !r)
    | _, _ => none

def unA (op : UnOp) (x : AV) : Option AV :=
  match op, x with
  | .neg, .int k n => some (.int k (k.wrap (0 - n)))
  | .xor, .int k n => bitsA .xor k (if k.signed then -1 else k.max) n
  | .not, .bool b => some (.bool !b)
  | _, _ => none

def bytesOfInts : List AV → Option (List UInt8)
  | [] => some []
  | .int .u8 n :: xs => match bytesOfInts xs with
    | some r => some (UInt8.ofNat n.toNat :: r)
    | none => none
  | _ => none

def convA (H : Heap) (src dst : TypeId) (x : AV) : Option (AV × Heap) :=
  match P.underlying src, P.underlying dst, x with
  | some (.int _), some (.int k), .int _ n => some (.int k (k.wrap n), H)
  | some .string, some .string, .str s => some (.str s, H)
  | some (.slice e), some .string, x => match P.underlying e, slCells H 1 x with
    | some (.int .u8), some (_, cs) => (bytesOfInts cs).map fun s => (.str s, H)
    | _, _ => none
  | some .string, some (.slice e), .str s => match P.underlying e with
    | some (.int .u8) => some (.sl H.n 0 s.length 1, H.push (.row false e (s.map fun b => .int .u8 b.toNat)))
    | _ => none
  | some (.pointer t), some .unsafePointer, .ptr id off => match H.get id, tsz P t with
    | .row _ _ cs, some n => if n ≠ 0 ∧ off < cs.length then some (.ptr id off, H) else none
    | _, _ => none
  | some .unsafePointer, some (.pointer u), .ptr id off => match H.get id, tsz P u with
    | .row true e cs, some n => if n ≠ 0 ∧ off < cs.length ∧ liesAt P P.depth e (cs.length / P.cellsOf e) off u 1 = true then some (.ptr id off, H) else none
    | _, _ => none
  | _, _, _ => none

def minmax (isMax : Bool) : Int → List AV → Option Int
  | a, [] => some a
  | a, .int _ b :: xs => minmax isMax (if isMax then (if b > a then b else a) else (if b < a then b else a)) xs
  | _, _ => none

def lenA (H : Heap) (t : TypeId) (x : AV) : Option AV :=
  match P.underlying t, x with
  | some .string, .str s => some (.int .i64 s.length)
  | some (.array n _), _ => some (.int .i64 n)
  | some (.slice _), .sl _ _ len _ => some (.int .i64 len)
  | some (.slice _), .isl _ rows => some (.int .i64 rows.length)
  | some (.slice _), .nils => some (.int .i64 0)
  | some (.map _ _), .nilm => some (.int .i64 0)
  | some (.map _ _), .map id => match H.get id with
    | .map es => some (.int .i64 es.length)
    | _ => none
  | _, _ => none

def AV.isStr : AV → Bool
  | .str _ => true
  | _ => false

def keyOk : TypeDesc → AV → Bool
  | .int _, .int _ _ => true
  | .string, .str _ => true
  | .bool, .bool _ => true
  | .array n e, .agg ks => (match P.underlying e with | some .string => true | _ => false) && tsz P e == some 1 && ks.length == n && ks.all AV.isStr
  | _, _ => false

/-- Is the key k that of an entry? -/
def keyCmp (key : TypeId) (d : TypeDesc) (k a : AV) : Option Bool :=
  match d with
  | .array _ _ => if keyOk P d a = true then eqA P eqDepth key k a else none
  | _ => keyEq d k a

def findA (key : TypeId) (d : TypeDesc) (k : AV) : List (AV × AV) → Nat → Option (Option (Nat × AV))
  | [], _ => some none
  | (a, v) :: es, i => match keyCmp P key d k a with
    | some true => some (some (i, v))
    | some false => findA key d k es (i + 1)
    | none => none

def lookupA (H : Heap) (t : TypeId) (m k : AV) (ok : Bool) : Option AV :=
  match P.underlying t with
  | some (.map key elem) =>
    match P.underlying key, tzero P elem with
    | some kd, some z =>
      if keyOk P kd k = true then
        let es := match m with
          | .nilm => some []
          | .map id => match H.get id with
            | .map es => some es
            | _ => none
          | _ => none
        match es with
        | some es => match findA P key kd k es 0 with
          | some (some (_, v)) => some (if ok then .tup [v, .bool true] else v)
          | some none => some (if ok then .tup [z, .bool false] else z)
          | none => none
        | none => none
      else none
    | _, _ => none
  | _ => none

def setVal (es : List (AV × AV)) (i : Nat) (v : AV) : List (AV × AV) :=
  match es, i with
  | [], _ => []
  | (a, _) :: es, 0 => (a, v) :: es
  | e :: es, i + 1 => e :: setVal es i v

def mapUpdateA (H : Heap) (t : TypeId) (m k v : AV) : Option Heap :=
  match P.underlying t, m with
  | some (.map key _), .map id => match P.underlying key, H.get id with
    | some kd, .map es =>
      if keyOk P kd k = true ∧ v.isCell = true then
        match findA P key kd k es 0 with
        | some (some (i, _)) => some (H.set id (.map (setVal es i v)))
        | some none => some (H.set id (.map (es ++ [(k, v)])))
        | none => none
      else none
    | _, _ => none
  | _, _ => none

def assertA (x : AV) (asserted : TypeId) (commaOk : Bool) : Option AV :=
  match P.underlying asserted, x with
  | some (.interface _), _ => none
  | some _, .ifc t v =>
    if t = asserted then some (if commaOk then .tup [v, .bool true] else v)
    else if commaOk then (tzero P asserted).map fun z => .tup [z, .bool false] else none
  | some _, .nili => if commaOk then (tzero P asserted).map fun z => .tup [z, .bool false] else none
  | _, _ => none

inductive OR where
  | val (v : AV) (H : Heap)
  | pan (v : AV)
  | call (f : FuncId) (args : List AV)

def pureR (H : Heap) : Option AV → Option OR
  | some v => some (.val v H)
  | none => none
def heapR : Option Heap → Option OR
  | some H => some (.val .undef H)
  | none => none
def bothR : Option (AV × Heap) → Option OR
  | some (v, H) => some (.val v H)
  | none => none

def evs (tm : List AV) (xs : List Operand) : Option (List AV) := mapO (ev tm) xs
def evParts (tm : List AV) (xs : List (Nat × Operand)) : Option (List (Nat × AV)) := mapO (fun (i, x) => (ev tm x).map (i, ·)) xs
def evO (tm : List AV) : Option Operand → Option (Option AV)
  | none => some none
  | some x => (ev tm x).map some

def clearA (H : Heap) (elem : TypeId) (x : AV) : Option Heap :=
  match x with
  | .nils => some H
  | .sl id off len esz => if len = 0 then some H else match H.get id, tzero P elem with
    | .row bx e0 cs, some z => if z.cells.length = esz ∧ 0 < esz ∧ off + len * esz ≤ cs.length ∧ z.cells.all AV.isCell = true then
        some (H.set id (.row bx e0 (cs.take off ++ repL z.cells len ++ cs.drop (off + len * esz))))
      else none
    | _, _ => none
  | _ => none

def builtinA (H : Heap) (b : Builtin) (argTypes : Array TypeId) (args : List AV) : Option OR :=
  match b with
  | .len => match argTypes[0]?, args with
    | some t, x :: _ => pureR H (lenA P H t x)
    | _, _ => none
  | .append => match argTypes[0]?, argTypes[1]?, args with
    | some t, some tx, s :: x :: _ => match P.underlying t, P.underlying tx with
      | some (.slice elem), some (.slice _) => bothR (appendA P H elem s x)
      | some (.slice elem), some .string => bothR (appendA P H elem s x)
      | _, _ => none
    | _, _, _ => none
  | .clear => match argTypes[0]?, args with
    | some t, [x] => match P.underlying t with
      | some (.slice elem) => match clearA P H elem x with
        | some H' => some (.val (.tup []) H')
        | none => none
      | _ => none
    | _, _ => none
  | .max => match args with
    | .int k a :: xs => match minmax true a xs with
      | some r => pureR H (some (.int k r))
      | none => none
    | _ => none
  | .min => match args with
    | .int k a :: xs => match minmax false a xs with
      | some r => pureR H (some (.int k r))
      | none => none
    | _ => none
  | .unsafeSliceData => match args with
    | [.nils] => pureR H (some .nilp)
    | [.sl id off len _] => if 0 < len then pureR H (some (.ptr id off)) else none
    | _ => none
  | .unsafeString => match argTypes[0]?, args with
    | some _, [.nilp, .int _ n] => if n = 0 then pureR H (some (.str [])) else none
    | some pt, [.ptr id off, .int _ n] => match P.underlying pt, H.get id with
      | some (.pointer e), .row _ e0 cs =>
        let r := (cs.drop off).take n.toNat
        if e = e0 ∧ P.cellsOf e = 1 ∧ 0 < n ∧ r.length = n.toNat ∧ n < 2 ^ 62 then
          match bytesOfInts r with
          | some s => some (.val (.str s) (H.set id .dead))
          | none => none
        else none
      | _, _ => none
    | _, _ => none
  | _ => none

def opA (o : Oper) (tm : List AV) (H : Heap) : Option OR :=
  match o.op with
  | .move x | .assign x => pureR H (ev tm x)
  | .pick c a b => match ev tm c with
    | some (.bool true) => pureR H (ev tm a)
    | some (.bool false) => pureR H (ev tm b)
    | _ => none
  | .alloc t => match tzero P t with
    | some z => if z.cells.all AV.isCell = true then some (.val (.ptr H.n 0) (H.push (.row true t z.cells))) else none
    | none => none
  | .box t x => match ev tm x with
    | some v => if v.cells.all AV.isCell = true then some (.val (.ptr H.n 0) (H.push (.row true t v.cells))) else none
    | none => none
  | .build t parts => match evParts tm parts.toList with
    | some ps => pureR H (buildA P t ps)
    | none => none
  | .buildSlice t len parts => match evParts tm parts.toList with
    | some ps => bothR (buildSliceA P H t len ps)
    | none => none
  | .load t a => match ev tm a with
    | some a => pureR H (loadA P H t a)
    | none => none
  | .store t a x => match ev tm a, ev tm x with
    | some a, some x => heapR (storeA P H t a x)
    | _, _ => none
  | .nilCheck x => match ev tm x with
    | some (.ptr id off) => some (.val (.ptr id off) H)
    | some (.eptr t cs off) => some (.val (.eptr t cs off) H)
    | some (.fn f cap) => some (.val (.fn f cap) H)
    | _ => none
  | .binOp op t x y _ => match ev tm x, ev tm y with
    | some a, some b => pureR H (binA P op t x y a b)
    | _, _ => none
  | .unOp op _ x => match ev tm x with
    | some a => pureR H (unA op a)
    | none => none
  | .convert src dst x => match ev tm x with
    | some a => bothR (convA P H src dst a)
    | none => none
  | .makeInterface t x => match ev tm x, P.underlying t with
    | some _, some (.interface _) => none
    | some v, some _ => some (.val (.ifc t v) H)
    | _, _ => none
  | .makeFunc (.func f) first captured => if first.size = 0 then
      match evs tm captured.toList with
      | some vs => some (.val (.fn f vs) H)
      | none => none
    else none
  | .makeMap _ none => some (.val (.map H.n) (H.push (.map [])))
  | .makeMap t (some x) => match ev tm x, P.underlying t with
    | some (.int _ _), some (.map _ _) => some (.val (.map H.n) (H.push (.map [])))
    | _, _ => none
  | .makeSlice t l c => match ev tm l, ev tm c with
    | some l, some c => bothR (makeSliceA P H t l c)
    | _, _ => none
  | .slice t x lo hi none => match P.underlying t, ev tm x, evO tm lo, evO tm hi with
    | some .string, some (.str s), some lo, some hi => pureR H (sliceStrA s lo hi)
    | some (.slice elem), some x, some lo, some hi => match tsz P elem with
      | some e => pureR H (sliceA e x lo hi)
      | none => none
    | some (.array n elem), some (.ptr id off), some lo, some hi => match tsz P elem, H.get id with
      | some e, .row _ _ cs => if off + n * e ≤ cs.length then pureR H (sliceA e (.sl id off n e) lo hi) else none
      | _, _ => none
    | _, _, _, _ => none
  | .fieldAddr s x f => match ev tm x with
    | some a => pureR H (fieldAddrA P s a f)
    | none => none
  | .field t x f => match ev tm x with
    | some a => pureR H (fieldA P t a f)
    | none => none
  | .indexAddr t x i => match ev tm x, ev tm i with
    | some a, some b => pureR H (indexAddrA P t a b)
    | _, _ => none
  | .index t x i => match ev tm x, ev tm i with
    | some a, some b => pureR H (indexA P t a b)
    | _, _ => none
  | .lookup t x i ok => match ev tm x, ev tm i with
    | some a, some b => pureR H (lookupA P H t a b ok)
    | _, _ => none
  | .mapUpdate t m k x | .insert t m k x => match ev tm m, ev tm k, ev tm x with
    | some m, some k, some x => heapR (mapUpdateA P H t m k x)
    | _, _, _ => none
  | .typeAssert x _ asserted ok => match ev tm x with
    | some a => pureR H (assertA P a asserted ok)
    | none => none
  | .extract x i => match ev tm x with
    | some (.tup vs) => match vs[i]? with
      | some v => some (.val v H)
      | none => none
    | _ => none
  | .call c => match evs tm c.args.toList with
    | some args => match c.callee with
      | .builtin b => builtinA P H b c.argTypes args
      | .value f => match ev tm f with
        | some (.fn f cap) => some (.call f (args ++ cap))
        | _ => none
      | .invoke _ _ => none
    | none => none
  | .panic x => match ev tm x with
    | some (.ifc t v) => some (.pan (.ifc t v))
    | _ => none
  | _ => none

/-! ### regions -/
inductive CR where
  | ret (v : AV)
  | pan (v : AV)

abbrev CallFn := FuncId → List AV → Heap → Option (CR × Heap)

inductive SR where
  | go (tm : List AV) (H : Heap)
  | pan (v : AV) (H : Heap)

def putA (tm : List AV) (d : Option Tmp) (v : AV) : List AV :=
  match d with
  | some d => tm.set d v
  | none => tm

def wantedA (ops : Array Oper) (o : Oper) (tm : List AV) : Bool :=
  match o.guard with
  | none => true
  | some (j, want) => match (ops[j]?).bind (·.dst) with
    | some d => match tm[d]? with
      | some (.bool b) => b == want
      | _ => false
    | none => false

def stepA (call : CallFn) (ops : Array Oper) (o : Oper) (tm : List AV) (H : Heap) : Option SR :=
  match wantedA ops o tm with
  | true => match opA P o tm H with
    | some (.val v H') => some (.go (putA tm o.dst v) H')
    | some (.pan v) => some (.pan v H)
    | some (.call f args) => match call f args H with
      | some (.ret v, H') => some (.go (putA tm o.dst v) H')
      | some (.pan v, H') => some (.pan v H')
      | none => none
    | none => none
  | false => some (.go (putA tm o.dst .undef) H)

def runOps (call : CallFn) (ops : Array Oper) : List Oper → List AV → Heap → Option SR
  | [], tm, H => some (.go tm H)
  | o :: os, tm, H => match stepA P call ops o tm H with
    | some (.go tm H) => runOps call ops os tm H
    | r => r

/-- As 'runOps', and every state on the way, the first one first. -/
def runTrace (call : CallFn) (ops : Array Oper) : List Oper → List AV → Heap → Option (List (List AV × Heap) × SR)
  | [], tm, H => some ([(tm, H)], .go tm H)
  | o :: os, tm, H => match stepA P call ops o tm H with
    | some (.go tm' H') => match runTrace call ops os tm' H' with
      | some (l, r) => some ((tm, H) :: l, r)
      | none => none
    | some (.pan v H') => some ([(tm, H)], .pan v H')
    | none => none

mutual
def AV.beq : AV → AV → Bool
  | .undef, .undef => true
  | .bool a, .bool b => a == b
  | .int k a, .int k' b => k == k' && a == b
  | .str a, .str b => a == b
  | .ptr a b, .ptr c d => a == c && b == d
  | .eptr t cs o, .eptr t' cs' o' => t == t' && o == o' && AV.beqs cs cs'
  | .nilp, .nilp => true
  | .sl a b c d, .sl a' b' c' d' => a == a' && b == b' && c == c' && d == d'
  | .isl t r, .isl t' r' => t == t' && AV.beqss r r'
  | .nils, .nils => true
  | .map a, .map b => a == b
  | .nilm, .nilm => true
  | .fn f c, .fn f' c' => f == f' && AV.beqs c c'
  | .nilf, .nilf => true
  | .ifc t v, .ifc t' v' => t == t' && AV.beq v v'
  | .nili, .nili => true
  | .agg a, .agg b => AV.beqs a b
  | .tup a, .tup b => AV.beqs a b
  | _, _ => false
def AV.beqs : List AV → List AV → Bool
  | [], [] => true
  | x :: xs, y :: ys => AV.beq x y && AV.beqs xs ys
  | _, _ => false
def AV.beqss : List (List AV) → List (List AV) → Bool
  | [], [] => true
  | x :: xs, y :: ys => AV.beqs x y && AV.beqss xs ys
  | _, _ => false
end

def Ob.same : Ob → Ob → Bool
  | .row x e a, .row y f b => x == y && e == f && AV.beqs a b
  | .map a, .map b => AV.beqs (a.map Prod.fst) (b.map Prod.fst) && AV.beqs (a.map Prod.snd) (b.map Prod.snd)
  | .dead, .dead => true
  | _, _ => false

/-! What may come in another order. -/
inductive Cls where
  | quiet | load | other | new | store | writer
  deriving DecidableEq

def clsOf : Op → Cls
  | .load .. | .lookup .. => .load
  | .store .. => .store
  | .mapUpdate .. | .insert .. | .panic _ => .writer
  | .call { callee := .builtin .len, argTypes, .. } => match (argTypes[0]?).bind P.underlying with
    | some (.map _ _) => .other
    | _ => .quiet
  | .call { callee := .builtin .min, .. } | .call { callee := .builtin .max, .. } | .call { callee := .builtin .unsafeSliceData, .. } => .quiet
  | .call _ => .writer
  | .alloc _ | .box .. | .buildSlice .. | .makeMap .. | .makeSlice .. => .new
  | .slice t _ _ _ _ => match P.underlying t with
    | some (.array _ _) => .other
    | _ => .quiet
  | .convert src dst _ => match P.underlying src, P.underlying dst with
    | some (.int _), _ => .quiet
    | some .string, some .string => .quiet
    | _, some (.slice _) => .writer
    | _, _ => .other
  | _ => .quiet

def edgesOf (acc : List Nat) : List Edge → Nat
  | [] => 0
  | e :: es => if Region.binds .any e then (2 ^ e.on ||| acc.getD e.on 0) ||| edgesOf acc es else edgesOf acc es

/-- For each operation the set of those that come before it in every order. -/
def ancsGo : List Oper → List Nat → List Nat
  | [], acc => acc
  | o :: os, acc => ancsGo os (acc ++ [edgesOf acc o.after.toList])

def ancs (ops : List Oper) : List Nat := ancsGo ops []
end
end Go.Ab

/- The abstract machine: code, calls. Definitions alone. -/
namespace Go.Ab

mutual
/-- As a tree: what is read out of the heap is copied. 'tmp': it is lent (to a callee) as long as the call lasts; else it is handed back for good. -/
def frz (tmp : Bool) (H : Heap) : Nat → AV → Option AV
  | 0, _ => none
  | k + 1, v => match v with
    | .sl id off len esz => match H.get id with
      | .row _ _ cs =>
        let r := (cs.drop off).take (len * esz)
        if r.length = len * esz ∧ 0 < esz then
          match frzs tmp H k r with
          | some cs' => some (.isl tmp (chunk esz len cs'))
          | none => none
        else none
      | _ => none
    | .isl t rows => if tmp || !t then some (.isl t rows) else none
    | .eptr t cs off => if tmp || !t then some (.eptr t cs off) else none
    | .ptr .. | .map .. => none
    | .fn f cap => match frzs tmp H k cap with
      | some cap' => some (.fn f cap')
      | none => none
    | .ifc t x => match frz tmp H k x with
      | some x' => some (.ifc t x')
      | none => none
    | .agg cs => match frzs tmp H k cs with
      | some cs' => some (.agg cs')
      | none => none
    | .tup cs => match frzs tmp H k cs with
      | some cs' => some (.tup cs')
      | none => none
    | v => some v
def frzs (tmp : Bool) (H : Heap) : Nat → List AV → Option (List AV)
  | 0, _ => none
  | k + 1, l => match l with
    | [] => some []
    | x :: xs => match frz tmp H k x with
      | some y => match frzs tmp H k xs with
        | some ys => some (y :: ys)
        | none => none
      | none => none
end

section
variable (P : Program)

/-- Which two operations may come in either order and have to be looked at; 'none': an order that is not served. -/
def pairsOf (ops : List Oper) : Option (List (Nat × Nat)) :=
  let an := ancs ops
  let cl := ops.map fun o => clsOf P o.op
  let idx := List.range ops.length
  let un (i j : Nat) : Bool := i != j && !(an.getD j 0).testBit i && !(an.getD i 0).testBit j
  let wr (i : Nat) : Bool := cl.getD i .quiet = .writer || cl.getD i .quiet = .store
  let ps := idx.flatMap fun i => (idx.filter fun j => wr j && un i j).map fun j => (i, j)
  if ps.all fun (i, j) => cl.getD i .quiet != .writer && cl.getD i .quiet != .other && (cl.getD i .quiet != .store || cl.getD j .quiet = .store) then
    some (ps.filter fun (i, j) => cl.getD i .quiet = .load || cl.getD i .quiet = .store || (cl.getD i .quiet = .new && i < j))
  else none

/-- Each slot is written once; who reads a slot that the region writes comes before or after its writer in every order; no operation comes after one behind it. -/
def okDraw (ops : Array Oper) : Bool :=
  let an := ancs ops.toList
  let idx := List.range ops.size
  idx.all fun i => an.getD i 0 < 2 ^ i && match ops[i]? with
    | some o => idx.all fun j => i == j || match ops[j]? with
      | some o' => match o'.dst with
        | some d => o.dst != some d && (!(o.looksAt ops).contains d || (if j < i then (an.getD i 0).testBit j else (an.getD j 0).testBit i))
        | none => true
      | none => true
    | none => true

def eqO : Option (List AV) → Option (List AV) → Bool
  | some x, some y => AV.beqs x y
  | none, none => true
  | _, _ => false

/-- Does operation j, as it stands in the text, leave alone what operation i looks at? -/
def pairOk (ops : Array Oper) (snaps : List (List AV × Heap)) (i j : Nat) : Bool :=
  match snaps[i]?, snaps[j]?, snaps[j + 1]?, ops[i]? with
  | some (tmi, Hi), some (_, Hj), some (_, Hk), some o =>
    if wantedA ops o tmi then
      match o.op with
      | .load t a => match ev tmi a, loadN P t with
        | some x, some m => eqO (rd Hj x m) (rd Hk x m)
        | _, _ => false
      | .lookup _ m _ _ => match ev tmi m with
        | some (.map id) => Ob.same (Hj.get id) (Hk.get id)
        | some .nilm => true
        | _ => false
      | .store _ a _ => match ev tmi a with
        | some (.ptr id _) => Ob.same (Hj.get id) (Hk.get id)
        | _ => false
      | _ => Ob.same (Hj.get Hi.n) (Hk.get Hi.n)
    else true
  | _, _, _, _ => false

/-- All that stand behind operation j in the text come behind it in every order. -/
def lastly (ops : List Oper) (j : Nat) : Bool :=
  let an := ancs ops
  (List.range ops.length).all fun i => i ≤ j || (an.getD i 0).testBit j

def runDraw (call : CallFn) (ops : Array Oper) (tm : List AV) (H : Heap) : Option SR :=
  if okDraw ops then
    match runTrace P call ops ops.toList tm H, pairsOf P ops.toList with
    | some (snaps, .go tm' H'), some ps => if ps.all fun (i, j) => pairOk P ops snaps i j then some (.go tm' H') else none
    | some (snaps, .pan v H'), some ps =>
      let j := snaps.length - 1
      if lastly ops.toList j && ps.all (fun (i, j') => i < j && j' < j → pairOk P ops snaps i j') then some (.pan v H') else none
    | _, _ => none
  else none

inductive AX where
  | normal
  | exit (id : Nat)
  | ret
  | pan (v : AV)

def iter (body : List AV → Heap → Option (AX × List AV × Heap)) : Nat → List AV → Heap → Option (AX × List AV × Heap)
  | 0, _, _ => none
  | n + 1, tm, H => match body tm H with
    | some (.normal, tm', H') => iter body n tm' H'
    | r => r

def ofSR (tm0 : List AV) : Option SR → Option (AX × List AV × Heap)
  | some (.go tm H) => some (.normal, tm, H)
  | some (.pan v H) => some (.pan v, tm0, H)
  | none => none

def runCode (call : CallFn) (n : Nat) : Code → List AV → Heap → Option (AX × List AV × Heap)
  | .skip, tm, H => some (.normal, tm, H)
  | .label _, tm, H => some (.normal, tm, H)
  | .region _ ops draw, tm, H => ofSR tm (match draw with
    | true => runDraw P call ops tm H
    | false => runOps P call ops ops.toList tm H)
  | .seq a b, tm, H => match runCode call n a tm H with
    | some (.normal, tm', H') => runCode call n b tm' H'
    | r => r
  | .cond c a b, tm, H => match ev tm c with
    | some (.bool true) => runCode call n a tm H
    | some (.bool false) => runCode call n b tm H
    | _ => none
  | .block id b, tm, H => match runCode call n b tm H with
    | some (.exit i, tm', H') => if i = id then some (.normal, tm', H') else some (.exit i, tm', H')
    | r => r
  | .loop b, tm, H => iter (fun tm H => runCode call n b tm H) n tm H
  | .scope b, tm, H => runCode call n b tm H
  | .exit id, tm, H => some (.exit id, tm, H)
  | .ret, tm, H => some (.ret, tm, H)
  | _, _, _ => none

def resA1 (tm : List AV) (H : Heap) : ResultVar → Option AV
  | .tmp t => some (tm.getD t .undef)
  | .cell a t => loadA P H t (tm.getD a .undef)

def resA (fn : Func) (tm : List AV) (H : Heap) : Option AV :=
  match mapO (resA1 P tm H) fn.results.toList with
  | some [v] => some v
  | some vs => some (.tup vs)
  | none => none

def callBody (call : CallFn) (n : Nat) (fn : Func) (args : List AV) (H : Heap) : Option (CR × Heap) :=
  match fn.body with
  | some c => match runCode P call n c (args ++ List.replicate (fn.ntmps - args.length) .undef) H with
    | some (.normal, tm, H') | some (.ret, tm, H') => match resA P fn tm H' with
      | some v => some (.ret v, H')
      | none => none
    | some (.pan v, _, H') => some (.pan v, H')
    | _ => none
  | none => none

/-- A function that defers one closure, outside of every loop: what stands before it, the closure, what stands behind it. -/
def splitDefer : Code → Option (List Code × Tmp × FuncId × Array Operand × Code)
  | .seq (.region id ops false) rest =>
    match ops.toList with
    | [⟨some t, .makeFunc (.func g) ⟨[]⟩ caps, _, _, _, none⟩, ⟨none, .defer ⟨.value (.tmp t'), ⟨[]⟩, _⟩, _, _, _, none⟩] =>
      if t = t' then some ([], t, g, caps, rest) else none
    | _ => match splitDefer rest with
      | some (pre, r) => some (.region id ops false :: pre, r)
      | none => none
  | .seq a rest => match splitDefer rest with
    | some (pre, r) => some (a :: pre, r)
    | none => none
  | _ => none

def runSeq (call : CallFn) (n : Nat) : List Code → List AV → Heap → Option (AX × List AV × Heap)
  | [], tm, H => some (.normal, tm, H)
  | c :: cs, tm, H => match runCode P call n c tm H with
    | some (.normal, tm', H') => runSeq call n cs tm' H'
    | r => r

/-- The slots that a piece of code writes. -/
def dsts : Code → List Tmp
  | .region _ ops _ => ops.toList.filterMap (·.dst)
  | .seq a b | .cond _ a b => dsts a ++ dsts b
  | .block _ b | .loop b | .scope b => dsts b
  | _ => []

def resTmps (fn : Func) : List Tmp := fn.results.toList.map fun | .tmp t => t | .cell t _ => t

/-- The deferred closure: its first operation is 'recover()', which gives rv. -/
def runClosure (call : CallFn) (n : Nat) (g : FuncId) (args : List AV) (rv : AV) (H : Heap) : Option Heap :=
  match P.funcs[g]? with
  | some fn => match fn.body with
    | some (.seq (.region _ ops false) rest) => match ops.toList with
      | ⟨some t, .call ⟨.builtin .recover, ⟨[]⟩, _⟩, _, _, _, none⟩ :: os =>
        match runOps P call ops os ((args ++ List.replicate (fn.ntmps - args.length) AV.undef).set t rv) H with
        | some (.go tm H1) => match runCode P call n rest tm H1 with
          | some (.normal, _, H2) | some (.ret, _, H2) => if fn.results.size = 0 then some H2 else none
          | _ => none
        | _ => none
      | _ => none
    | _ => none
  | none => none

def callDef (call : CallFn) (n : Nat) (fn : Func) (args : List AV) (H : Heap) : Option (CR × Heap) :=
  match fn.body with
  | some c => match splitDefer c with
    | some (pre, t, g, caps, post) =>
      match runSeq P call n pre (args ++ List.replicate (fn.ntmps - args.length) .undef) H with
      | some (.normal, tm, H1) => match (if t < tm.length then evs tm caps.toList else none) with
        | some vs => match runCode P call n post (tm.set t (.fn g vs)) H1 with
          | some (.normal, tm', H2) | some (.ret, tm', H2) => match runClosure P call n g vs .nili H2 with
            | some H3 => match resA P fn tm' H3 with
              | some v => some (.ret v, H3)
              | none => none
            | none => none
          | some (.pan p, _, H2) => if (resTmps fn).all (fun t => !(dsts post).contains t) then
            match runClosure P call n g vs p H2 with
            | some H3 => match resA P fn (tm.set t (.fn g vs)) H3 with
              | some v => some (.ret v, H3)
              | none => none
            | none => none
            else none
          | _ => none
        | none => none
      | some (.ret, tm, H1) => match resA P fn tm H1 with
        | some v => some (.ret v, H1)
        | none => none
      | _ => none
    | none => none
  | none => none

structure Cfg where
  ok : FuncId → Bool
  pure : FuncId → Bool
  dfr : FuncId → Bool
  sum : CallFn

def bodyA (cfg : Cfg) (call : CallFn) (n : Nat) (f : FuncId) (fn : Func) (args : List AV) (H : Heap) : Option (CR × Heap) :=
  match cfg.dfr f with
  | true => callDef P call n fn args H
  | false => callBody P call n fn args H

def callN (cfg : Cfg) : Nat → CallFn
  | 0, _, _, _ => none
  | k + 1, f, args, H => match cfg.sum f args H with
    | some r => some r
    | none => match cfg.ok f, P.funcs[f]? with
      | true, some fn => match cfg.pure f with
        | true => match frzs true H 100000 args with
          | some args' => match bodyA P cfg (callN cfg k) k f fn args' Heap.empty with
            | some (.ret v, H') => match frz false H' 100000 v with
              | some v' => some (.ret v', H)
              | none => none
            | _ => none
          | none => none
        | false => bodyA P cfg (callN cfg k) k f fn args H
      | _, _ => none
end
end Go.Ab
