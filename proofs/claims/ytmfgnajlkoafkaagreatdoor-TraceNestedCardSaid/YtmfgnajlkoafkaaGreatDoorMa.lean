/- The abstract machine: data as values, mutable locals as blocks; its operations; its big steps over the model's own code. How the abstract machine's data and values stand in the model's memory; what keeps that. What the machine's steps on memory keep. Each operation of the machine that makes and writes no memory answers as the model's does. Operators, conversions, lengths: the machine's answers are the model's. Operators and conversions as steps. Unary operators, conversions, slices, maps read, lengths. A map looked up, a slice cut, a conversion, constants, structs put together. Slices cut; conversions; structs put together. Steps that make and write memory. Stores; maps written; structs and slices put together. Structs and slices put together; make, append, copy; conversions. Slices of the machine's own: made, put together, appended to. -/
import Derived.WalkKit
set_option linter.all false
set_option maxHeartbeats 2000000
section
namespace Go.AM
open Go

/-- Immutable data. -/
inductive D where
  | bool (b : Bool)
  | int (k : IntKind) (n : Int)
  | str (s : ByteArray)
  | nilp
  | ptr (row : List D) (off : Nat)
  | list (rows : List (List D))
  | nilm
  | map (ks vs : List D)
  | nilf
  | fn (f : FuncId) (first cap : List D)
  | nili
  | iface (t : TypeId) (v : D)
  | agg (cells : List D)
  | tuple (vs : List D)
  deriving Inhabited

/-- What a slot or a cell of the machine holds: data, or a way to what may still change. -/
inductive V where
  | d (x : D)
  | ref (b off : Nat)
  | sref (b off len sz : Nat)
  | mref (b : Nat)
  | nils
  | own (t : Nat) (rows : List (List D))
  | fn (f : FuncId) (first cap : List V)
  | iface (t : TypeId) (v : V)
  | agg (cells : List V)
  | tuple (vs : List V)
  | yld (b : Nat)
  | unk
  deriving Inhabited

/-- how code is left -/
inductive Ex where
  | normal
  | exit (id : Nat)
  | ret
  deriving DecidableEq
/-- how far a loop over a function is -/
inductive LSt where
  | ready
  | busy
  | done (x : Ex)
  | over
inductive Block where
  | dead
  | cells (vs : List V)
  | map (ks : List D) (vs : List V)
  | tok (e : TypeId) (sz : Nat)
  | siter (s : ByteArray) (pos : Nat)
  | loopb (f : FuncId) (e : Nat → V) (ps : List Nat) (assign body : Code) (st : LSt)
  | mfresh (m : V) (n : Nat)
  | mpend (m : V) (n j : Nat)
  | mcur (m : V) (n j : Nat)
  | mover

structure Heap where
  blk : Nat → Block
  next : Nat

def Heap.empty : Heap := ⟨fun _ => .dead, 0⟩
def Heap.upd (h : Heap) (b : Nat) (x : Block) : Heap := ⟨fun c => if c = b then x else h.blk c, h.next⟩

abbrev Env := Nat → V
def Env.put (e : Env) (d : Option Nat) (v : V) : Env :=
  match d with
  | some s => fun t => if t = s then v else e t
  | none => e

/-! ### data out of values -/
def plainL : List V → Option (List D)
  | [] => some []
  | .d x :: vs => (plainL vs).map (x :: ·)
  | .nils :: vs => (plainL vs).map (.list [] :: ·)
  | _ :: _ => none
def V.toD : V → Option D
  | .d x => some x
  | .nils => some (.list [])
  | .own _ rows => some (.list rows)
  | .agg vs => (plainL vs).map .agg
  | _ => none
def allD : List V → Option (List D)
  | [] => some []
  | v :: vs => match v.toD, allD vs with
    | some d, some ds => some (d :: ds)
    | _, _ => none
def D.scalar : D → Bool
  | .agg _ | .tuple _ => false
  | _ => true
def V.scalar : V → Bool
  | .d x => x.scalar
  | .agg _ | .tuple _ | .unk => false
  | _ => true
def V.cells : V → List V
  | .d (.agg cs) => cs.map .d
  | .agg vs => vs
  | v => [v]
/-- strict data: no own slices among the parts -/
def allD' : List V → Option (List D)
  | [] => some []
  | .d x :: vs => (allD' vs).map (x :: ·)
  | _ :: _ => none
def mkAgg (vs : List V) : V := match allD' vs with
  | some ds => .d (.agg ds)
  | none => .agg vs
def mkTuple (vs : List V) : V := match allD' vs with
  | some ds => .d (.tuple ds)
  | none => .tuple vs

def ofCell : Value → Option V
  | .bool b => some (.d (.bool b))
  | .int k n => some (.d (.int k n))
  | .string s => some (.d (.str s))
  | .pointer none => some (.d .nilp)
  | .slice none 0 0 => some .nils
  | .map none => some (.d .nilm)
  | .nilFunc => some (.d .nilf)
  | .nilIface => some (.d .nili)
  | _ => none
def ofCells : List Value → Option (List V)
  | [] => some []
  | v :: vs => match ofCell v, ofCells vs with
    | some x, some xs => some (x :: xs)
    | _, _ => none
def ofValue : Value → Option V
  | .agg cs => (ofCells cs.toList).map mkAgg
  | .tuple vs => if vs.size = 0 then some (.d (.tuple [])) else none
  | v => ofCell v

/-! ### operations -/
section
variable (P : Program)
def isAggB (t : TypeId) : Bool := match P.underlying t with
  | some (.struct _) | some (.array _ _) => true
  | _ => false
def aggD : TypeDesc → Bool
  | .struct _ | .array _ _ => true
  | _ => false
/-- is it a struct or an array, and how many cells it takes -/
def tyT (t : TypeId) : Option (Bool × Nat) := match P.underlying t, P.info? t with
  | some d, some i => some (aggD d, i.size)
  | _, _ => none
def sizeT (t : TypeId) : Option Nat := (P.info? t).map (·.size)
def bytesT (t : TypeId) : Option Nat := (P.info? t).map (·.bytes)
def zeroT (t : TypeId) : Option V := (((P.info? t).bind (·.zero)).bind ofValue).bind fun z => if z.cells.all V.scalar = true then some z else none
def placesT (t : TypeId) : Option (List (Nat × Nat)) := match P.underlying t with
  | some (.struct fs) => fs.toList.mapM fun f => (P.info? f.type).map fun i => (f.offset, i.size)
  | _ => none
end

def loadV (agg : Bool) (sz : Nat) (v : V) (h : Heap) : Option V :=
  match v with
  | .d (.ptr row off) =>
    if agg then (if off + sz ≤ row.length then some (.d (.agg ((row.drop off).take sz))) else none) else (row[off]?).map .d
  | .ref b off => match h.blk b with
    | .cells vs => if agg then (if off + sz ≤ vs.length then some (mkAgg ((vs.drop off).take sz)) else none) else vs[off]?
    | _ => none
  | _ => none
def spliceAt (vs : List V) (off : Nat) (cs : List V) : List V := vs.take off ++ cs ++ vs.drop (off + cs.length)
def storeV (sz : Nat) (a v : V) (h : Heap) : Option Heap :=
  match a with
  | .ref b off => match h.blk b with
    | .cells vs =>
      if v.cells.length = sz ∧ off + sz ≤ vs.length ∧ v.cells.all V.scalar = true then some (h.upd b (.cells (spliceAt vs off v.cells))) else none
    | _ => none
  | _ => none
def allocV (id : Nat) (v : V) (h : Heap) : Option (V × Heap) :=
  if v.cells.all V.scalar = true then some (.ref id 0, h.upd id (.cells v.cells)) else none
/-- a variable: kept as data where the code never writes it -/
def boxV (mu : Bool) (id : Nat) (v : V) (h : Heap) : Option (V × Heap) :=
  if mu then allocV id v h else
  match allD v.cells with
  | some ds => if ds.all D.scalar = true then some (.d (.ptr ds 0), h) else none
  | none => allocV id v h
def fieldAddrV (off : Nat) : V → Option V
  | .d (.ptr row o) => some (.d (.ptr row (o + off)))
  | .ref b o => some (.ref b (o + off))
  | _ => none
def nilCheckV : V → Option V
  | .d .nilp | .d .nili | .d .nilf | .unk => none
  | .d (.iface ..) => none
  | v => some v
def rowsOf : V → Option (List (List D))
  | .d (.list rows) => some rows
  | .own _ rows => some rows
  | .nils => some []
  | _ => none
def indexAddrS (sz : Nat) (x i : V) : Option V :=
  match i with
  | .d (.int _ n) => match x with
    | .sref b off len s => if 0 ≤ n ∧ n < len ∧ s = sz then some (.ref b (off + n.toNat * sz)) else none
    | x => match rowsOf x with
      | some rows => if 0 ≤ n then (match rows[n.toNat]? with
        | some row => if row.length = sz then some (.d (.ptr row 0)) else none
        | none => none) else none
      | none => none
  | _ => none
def indexAddrA (n sz : Nat) (x i : V) : Option V :=
  match i with
  | .d (.int _ j) => if 0 ≤ j ∧ j < n then fieldAddrV (j.toNat * sz) x else none
  | _ => none
def partV (agg : Bool) (sz off : Nat) (cs : List V) : Option V :=
  if agg then (if off + sz ≤ cs.length then some (mkAgg ((cs.drop off).take sz)) else none) else cs[off]?
def fieldV (agg : Bool) (sz off : Nat) : V → Option V
  | .d (.agg cs) => partV agg sz off (cs.map .d)
  | .agg cs => partV agg sz off cs
  | _ => none
def indexA (n : Nat) (agg : Bool) (sz : Nat) (x i : V) : Option V :=
  match i with
  | .d (.int _ j) => if 0 ≤ j ∧ j < n then fieldV agg sz (j.toNat * sz) x else none
  | _ => none
def indexStr (x i : V) : Option V :=
  match x, i with
  | .d (.str s), .d (.int _ j) => if 0 ≤ j then (s[j.toNat]?).map fun b => .d (.int .u8 b.toNat) else none
  | _, _ => none
def extractV (i : Nat) : V → Option V
  | .d (.tuple vs) => (vs[i]?).map .d
  | .tuple vs => vs[i]?
  | _ => none

def intArithD (op : BinOp) (k : IntKind) (x y : Int) : Option D :=
  match op with
  | .add => some (.int k (k.wrap (x + y)))
  | .sub => some (.int k (k.wrap (x - y)))
  | .mul => some (.int k (k.wrap (x * y)))
  | .quo => if y = 0 then none else some (.int k (k.wrap (x.tdiv y)))
  | .rem => if y = 0 then none else some (.int k (x.tmod y))
  | .and => some (.int k (bits .and k x y))
  | .or => some (.int k (bits .or k x y))
  | .xor => some (.int k (bits .xor k x y))
  | .andNot => some (.int k (bits .andNot k x y))
  | .eql => some (.bool (x == y))
  | .neq => some (.bool (x != y))
  | .lss => some (.bool (x < y))
  | .leq => some (.bool (x ≤ y))
  | .gtr => some (.bool (x > y))
  | .geq => some (.bool (x ≥ y))
  | _ => none
def shiftD (op : BinOp) (k : IntKind) (x y : Int) : Option D :=
  if y < 0 then none else
  match op with
  | .shl => some (.int k (k.wrap (x * 2 ^ min y.toNat k.bits)))
  | .shr => some (.int k (x.fdiv (2 ^ min y.toNat k.bits)))
  | _ => none
def strOpD (op : BinOp) (x y : ByteArray) : Option D :=
  match op with
  | .add => if ((x.size + y.size : Nat) : Int) ≤ 9223372036854775807 then some (.str (x ++ y)) else none
  | .eql => some (.bool (x.toList == y.toList))
  | .neq => some (.bool !(x.toList == y.toList))
  | .lss => some (.bool (Op.bytesLess x.toList y.toList))
  | .leq => some (.bool (Op.bytesLess x.toList y.toList || x.toList == y.toList))
  | .gtr => some (.bool !(Op.bytesLess x.toList y.toList || x.toList == y.toList))
  | .geq => some (.bool !(Op.bytesLess x.toList y.toList))
  | _ => none
/-- equality of scalar data of one type; none where it is not told -/
def eqD : D → D → Option Bool
  | .bool a, .bool b => some (a == b)
  | .int k a, .int k' b => if k = k' then some (a == b) else none
  | .str a, .str b => some (a == b)
  | .nilp, .nilp => some true
  | .nilp, .ptr _ _ | .ptr _ _, .nilp => some false
  | .nili, .nili => some true
  | .nili, .iface _ _ | .iface _ _, .nili => some false
  | .nilm, .map _ _ | .map _ _, .nilm => some false
  | .nilm, .nilm => some true
  | .nilf, .nilf => some true
  | .nilf, .fn _ _ _ | .fn _ _ _, .nilf => some false
  | _, _ => none

/-! ### equality, as the model's entry goes over the type -/
def eqFieldsV (eq : TypeId → V → V → Option Bool) (P : Program) : List Field → List V → List V → Option Bool
  | [], _, _ => some true
  | f :: fs, xs, ys =>
    if f.name ≠ "_" then
      match tyT P f.type with
      | some q => match partV q.1 q.2 f.offset xs, partV q.1 q.2 f.offset ys with
        | some x, some y => match eq f.type x y with
          | some true => eqFieldsV eq P fs xs ys
          | some false => some false
          | none => none
        | _, _ => none
      | none => none
    else none
def eqElemsV (eq : TypeId → V → V → Option Bool) (e : TypeId) (q : Bool × Nat) : (n i : Nat) → List V → List V → Option Bool
  | 0, _, _, _ => some true
  | n + 1, i, xs, ys =>
    match partV q.1 q.2 (i * q.2) xs, partV q.1 q.2 (i * q.2) ys with
    | some x, some y => match eq e x y with
      | some true => eqElemsV eq e q n (i + 1) xs ys
      | some false => some false
      | none => none
    | _, _ => none
def eqV (P : Program) (c : Bool) : Nat → TypeId → V → V → Option Bool
  | 0, _, _, _ => none
  | d + 1, t, x, y =>
    match P.underlying t with
    | some .bool => match x, y with | .d (.bool a), .d (.bool b) => some (a == b) | _, _ => none
    | some (.int _) => match x, y with | .d (.int k a), .d (.int k' b) => if k = k' then some (a == b) else none | _, _ => none
    | some .string => match x, y with | .d (.str a), .d (.str b) => some (a == b) | _, _ => none
    | some (.pointer _) => match x, y with
      | .d .nilp, .d .nilp => some true
      | .d .nilp, .d (.ptr _ _) | .d (.ptr _ _), .d .nilp | .d .nilp, .ref _ _ | .ref _ _, .d .nilp => some false
      | _, _ => none
    | some (.interface _) => match x, y with
      | .d .nili, .d .nili => if c then some true else none
      | .d .nili, .d (.iface _ _) | .d (.iface _ _), .d .nili | .d .nili, .iface _ _ | .iface _ _, .d .nili => some false
      | _, _ => none
    | some (.slice _) => match x, y with
      | .nils, .nils => some true
      | .nils, .own _ _ | .own _ _, .nils => some false
      | .nils, .d (.list (_ :: _)) | .d (.list (_ :: _)), .nils => some false
      | _, _ => none
    | some (.map _ _) => match x, y with
      | .d .nilm, .d .nilm => some true
      | .d .nilm, .d (.map _ _) | .d (.map _ _), .d .nilm | .d .nilm, .mref _ | .mref _, .d .nilm => some false
      | _, _ => none
    | some (.func _ _ _) => match x, y with
      | .d .nilf, .d .nilf => some true
      | .d .nilf, .d (.fn _ _ _) | .d (.fn _ _ _), .d .nilf | .d .nilf, .fn _ _ _ | .fn _ _ _, .d .nilf => some false
      | _, _ => none
    | some (.struct fs) =>
      if P.stoodInHeld t = false then
        match x, y with
        | .d (.agg xs), .d (.agg ys) => eqFieldsV (eqV P false d) P fs.toList (xs.map .d) (ys.map .d)
        | _, _ => none
      else none
    | some (.array n e) =>
      match tyT P e, x, y with
      | some q, .d (.agg xs), .d (.agg ys) => eqElemsV (eqV P false d) e q n 0 (xs.map .d) (ys.map .d)
      | _, _, _ => none
    | _ => none
def isConstO : Operand → Bool
  | .const _ => true
  | _ => false
def intOpD (op : BinOp) (k k' : IntKind) (a b : Int) : Option D := match op with
  | .shl | .shr => shiftD op k a b
  | _ => if k = k' then intArithD op k a b else none
def eqOpV (P : Program) (c : Bool) (op : BinOp) (t : TypeId) (x y : V) : Option V := match op with
  | .eql => if P.eqGuardType P.depth t = false ∨ isAggB P t = false then (eqV P c 50 t x y).map fun b => .d (.bool b) else none
  | .neq => if P.eqGuardType P.depth t = false ∨ isAggB P t = false then (eqV P c 50 t x y).map fun b => .d (.bool !b) else none
  | _ => none
def binV (P : Program) (c : Bool) (op : BinOp) (t : TypeId) (x y : V) : Option V :=
  match x, y with
  | .d (.int k a), .d (.int k' b) => (intOpD op k k' a b).map .d
  | .d (.str a), .d (.str b) => (strOpD op a b).map .d
  | x, y => eqOpV P c op t x y
def unV (op : UnOp) : V → Option V
  | .d (.bool b) => match op with | .not => some (.d (.bool !b)) | _ => none
  | .d (.int k n) => match op with
    | .neg => some (.d (.int k (k.wrap (0 - n))))
    | .xor => some (.d (.int k (bits .xor k (if k.signed then -1 else k.max) n)))
    | _ => none
  | _ => none
def byteRow (b : UInt8) : List D := [.int .u8 b.toNat]
def byteOfRow : List D → Option UInt8
  | [.int .u8 n] => if 0 ≤ n ∧ n < 256 then some (UInt8.ofNat n.toNat) else none
  | _ => none
def bytesOfRows : List (List D) → Option (List UInt8)
  | [] => some []
  | r :: rs => match byteOfRow r, bytesOfRows rs with
    | some b, some bs => some (b :: bs)
    | _, _ => none
def convV (P : Program) (src dst : TypeId) (x : V) : Option V :=
  match P.underlying src, P.underlying dst with
  | some _, some (.int k) => match x with
    | .d (.int _ n) => some (.d (.int k (k.wrap n)))
    | _ => none
  | some s, some .string => match x with
    | .d (.str b) => some (.d (.str b))
    | .d (.int _ n) => some (.d (.str (Utf8.encode n)))
    | .d (.list rows) => match s with
      | .slice e => match P.underlying e with
        | some (.int .u8) => (bytesOfRows rows).map fun bs => .d (.str ⟨bs.toArray⟩)
        | _ => none
      | _ => none
    | _ => none
  | _, _ => none
def mkIface (t : TypeId) : V → Option V
  | .d x => some (.d (.iface t x))
  | .unk => none
  | v => some (.iface t v)
def mkFn (f : FuncId) (first cap : List V) : V := match allD' first, allD' cap with
  | some a, some b => .d (.fn f a b)
  | _, _ => .fn f first cap

/-! ### maps -/
def keyEq : D → D → Option Bool
  | .int k a, .int k' b => if k = k' then some (a == b) else none
  | .str a, .str b => some (a == b)
  | .bool a, .bool b => some (a == b)
  | _, _ => none
/-- the place of a key -/
def findK (k : D) : List D → Nat → Option (Option Nat)
  | [], _ => some none
  | x :: xs, i => match keyEq k x with
    | some true => some (some i)
    | some false => findK k xs (i + 1)
    | none => none
def keyKind : TypeDesc → D → Bool
  | .int _, .int _ _ | .string, .str _ | .bool, .bool _ => true
  | _, _ => false
def keyTyped (P : Program) (t : TypeId) (k : D) : Bool := match P.underlying t with
  | some kd => keyKind kd k
  | none => false
/-- what a lookup finds -/
def foundV (k : D) (m : V) (h : Heap) : Option (Option V) := match m with
  | .d .nilm => some none
  | .d (.map ks vs) => if ks.length = vs.length then (findK k ks 0).map fun i => i.bind fun i => (vs[i]?).map .d else none
  | .mref b => match h.blk b with
    | .map ks vs => if ks.length = vs.length then (findK k ks 0).map fun i => i.bind fun i => vs[i]? else none
    | _ => none
  | _ => none
def lookRes (ok : Bool) (r : Option V) (z : Option V) : Option V := match r with
  | some v => some (if ok then mkTuple [v, .d (.bool true)] else v)
  | none => z.map fun z => if ok then mkTuple [z, .d (.bool false)] else z
def lookupV (P : Program) (t : TypeId) (ok : Bool) (m k : V) (h : Heap) : Option V :=
  match P.underlying t, k with
  | some (.map kt e), .d k =>
    if keyTyped P kt k then (foundV k m h).bind fun r => lookRes ok r (zeroT P e) else none
  | _, _ => none
def mapUpdV (P : Program) (t : TypeId) (m k v : V) (h : Heap) : Option Heap :=
  match P.underlying t, m, k with
  | some (.map kt _), .mref b, .d k =>
    if keyTyped P kt k then
      match h.blk b with
      | .map ks vs => match findK k ks 0 with
        | some (some i) => some (h.upd b (.map ks (vs.set i v)))
        | some none => some (h.upd b (.map (ks ++ [k]) (vs ++ [v])))
        | none => none
      | _ => none
    else none
  | _, _, _ => none

/-! ### slices -/
def headLen (sz : Nat) : List (List D) → Bool
  | [] => true
  | r :: _ => r.length == sz
def cutRows (rows : List (List D)) (l n : Nat) : List (List D) := (rows.drop l).take (n - l)
def boundO : Option V → Nat → Option Nat
  | none, d => some d
  | some (.d (.int _ n)), _ => if 0 ≤ n then some n.toNat else none
  | _, _ => none
def sliceV (P : Program) (t : TypeId) (x : V) (lo hi mx : Option V) : Option V :=
  match mx with
  | some _ => none
  | none => match P.underlying t, x with
    | some .string, .d (.str s) => match boundO hi s.size with
      | some n => match boundO lo 0 with
        | some l => if l ≤ n ∧ n ≤ s.size then some (.d (.str (s.extract l n))) else none
        | none => none
      | none => none
    | some (.slice e), .sref b off len sz => match boundO hi len, boundO lo 0, sizeT P e with
      | some n, some l, some z => if l ≤ n ∧ n ≤ len ∧ sz = z ∧ 0 < n then some (if l < n then .sref b (off + l * sz) (n - l) sz else .d (.list [])) else none
      | _, _, _ => none
    | some (.slice e), x => match rowsOf x, sizeT P e with
      | some rows, some z => match boundO hi rows.length, boundO lo 0 with
        | some n, some l => if l ≤ n ∧ n ≤ rows.length ∧ headLen z rows = true then some (.d (.list (cutRows rows l n))) else none
        | _, _ => none
      | _, _ => none
    | some (.array n e), .ref b off => match boundO hi n, boundO lo 0, sizeT P e with
      | some m, some l, some z => if l < m ∧ m ≤ n then some (.sref b (off + l * z) (m - l) z) else none
      | _, _, _ => none
    | _, _ => none
def fillV (cells : List V) : List (Nat × Nat × V) → Option (List V)
  | [] => some cells
  | (off, sz, v) :: ps => if v.cells.length = sz ∧ off + sz ≤ cells.length ∧ v.cells.all V.scalar = true then fillV (spliceAt cells off v.cells) ps else none
def chunk (sz : Nat) : Nat → List D → List (List D)
  | 0, _ => []
  | n + 1, ds => ds.take sz :: chunk sz n (ds.drop sz)
def rowsBytes : Nat := 17592186044416
def partsOf (place : Nat → Option (Nat × Nat)) : List (Nat × V) → Option (List (Nat × Nat × V))
  | [] => some []
  | p :: ps => match place p.1, partsOf place ps with
    | some q, some qs => some ((q.1, q.2, p.2) :: qs)
    | _, _ => none
def bsliceV (P : Program) (mu : Bool) (t : TypeId) (n : Nat) (ps : List (Nat × V)) (id : Nat) (h : Heap) : Option (V × Heap) :=
  match P.underlying t with
  | some (.slice e) => match sizeT P e, zeroT P e with
    | some sz, some z =>
      if 0 < sz ∧ n * sz ≤ 16777216 ∧ z.cells.length = sz then
        match (partsOf (fun i => some (i * sz, sz)) ps).bind (fillV (List.replicate n z.cells).flatten) with
        | some cells =>
          if cells.all V.scalar = true then
            if mu then some (.sref id 0 n sz, h.upd id (.cells cells)) else
            match allD cells with
            | some ds => some (.own id (chunk sz n ds), h.upd id (.tok e sz))
            | none => none
          else none
        | none => none
      else none
    | _, _ => none
  | _ => none
def msliceV (P : Program) (mu : Bool) (t : TypeId) (len cap : V) (id : Nat) (h : Heap) : Option (V × Heap) :=
  match P.underlying t, len, cap with
  | some (.slice e), .d (.int _ l), .d (.int _ c) => match sizeT P e, bytesT P e, zeroT P e with
    | some sz, some by_, some z =>
      if 0 ≤ l ∧ l ≤ c ∧ 0 < sz ∧ c ≤ 1099511627776 ∧ by_ * c ≤ 140737488355328 ∧ z.cells.length = sz ∧ z.cells.all V.scalar = true then
        if mu then some (.sref id 0 l.toNat sz, h.upd id (.cells ((List.replicate l.toNat z.cells).flatten))) else
        match allD z.cells with
        | some ds => some (.own id (List.replicate l.toNat ds), h.upd id (.tok e sz))
        | none => none
      else none
    | _, _, _ => none
  | _, _, _ => none
def newsOf (sz : Nat) (x : V) (h : Heap) : Option (List (List D)) :=
  match x with
  | .sref b off len s => if s = sz ∧ 0 < sz then (match h.blk b with
    | .cells vs => if off + len * sz ≤ vs.length then (allD ((vs.drop off).take (len * sz))).map (chunk sz len) else none
    | _ => none) else none
  | x => rowsOf x
def isSliceV : V → Bool
  | .nils | .own _ _ | .d (.list _) | .sref _ _ _ _ => true
  | _ => false
def appendV (P : Program) (t : TypeId) (s x : V) (id : Nat) (h : Heap) : Option (V × Heap) :=
  match P.underlying t with
  | some (.slice e) => match sizeT P e, bytesT P e, zeroT P e with
    | some sz, some by_, some z =>
      match newsOf sz x h with
      | some [] => if isSliceV s = true then some (s, h) else none
      | some ys =>
        if 0 < sz ∧ headLen sz ys = true ∧ z.cells.length = sz then
          match s with
          | .nils => if ys.length * by_ ≤ rowsBytes ∧ ys.length ≤ rowsBytes then some (.own id ys, h.upd id (.tok e sz)) else none
          | .own t rows => if (rows.length + ys.length) * by_ ≤ rowsBytes ∧ rows.length + ys.length ≤ rowsBytes then
              (match h.blk t with
              | .tok e' sz' => if e' = e ∧ sz' = sz then some (.own id (rows ++ ys), (h.upd t .dead).upd id (.tok e sz)) else none
              | _ => none) else none
          | _ => none
        else none
      | none => none
    | _, _, _ => none
  | _ => none
def lenV (d : TypeDesc) (x : V) (h : Heap) : Option V := match d with
  | .string => match x with
    | .d (.str s) => some (.d (.int .i64 s.size))
    | _ => none
  | .array n _ => some (.d (.int .i64 n))
  | .slice _ => match x with
    | .sref _ _ n _ => some (.d (.int .i64 n))
    | x => (rowsOf x).map fun rows => .d (.int .i64 rows.length)
  | .map _ _ => match x with
    | .d .nilm => some (.d (.int .i64 0))
    | .d (.map ks _) => some (.d (.int .i64 ks.length))
    | .mref b => match h.blk b with
      | .map ks _ => some (.d (.int .i64 ks.length))
      | _ => none
    | _ => none
  | _ => none
def max2D : D → D → Option D
  | .int k x, .int _ y => some (.int k (if y > x then y else x))
  | _, _ => none
def min2D : D → D → Option D
  | .int k x, .int _ y => some (.int k (if y < x then y else x))
  | _, _ => none
def stepD (g : D → D → Option D) (a : D) (v : V) : Option D := match v with
  | .d y => g a y
  | _ => none
def foldD (g : D → D → Option D) : List V → Option V
  | .d x :: rest => (rest.foldlM (stepD g) x).map .d
  | _ => none
def copyV (P : Program) (t : TypeId) (dst src : V) (h : Heap) : Option (V × Heap) :=
  match P.underlying t, dst with
  | some (.slice e), .sref b off len sz => match sizeT P e, newsOf sz src h, h.blk b with
    | some z, some ys, .cells vs =>
      let n := min ys.length len
      let cs := ((ys.take n).flatten).map V.d
      if z = sz ∧ 0 < sz ∧ off + len * sz ≤ vs.length ∧ headLen sz ys = true then
        some (.d (.int .i64 n), h.upd b (.cells (spliceAt vs off cs))) else none
    | _, _, _ => none
  | _, _ => none

def undefV : V := .d (.tuple [])
/-- the bytes of a string -/
def convB (P : Program) (dst : TypeId) (x : V) : Option V := match x, P.underlying dst with
  | .d (.str b), some (.slice e) => match P.underlying e with
    | some (.int .u8) => some (.d (.list (b.data.toList.map byteRow)))
    | _ => none
  | _, _ => none
def convX (P : Program) (src dst : TypeId) (x : V) : Option V := match convB P dst x, P.underlying src with
  | some v, some _ => some v
  | _, _ => convV P src dst x
/-! ### loops over maps and strings -/
def mapOf (m : V) (h : Heap) : Option (List D × List V) := match m with
  | .d .nilm => some ([], [])
  | .d (.map ks vs) => some (ks, vs.map .d)
  | .mref b => match h.blk b with
    | .map ks vs => some (ks, vs)
    | _ => none
  | _ => none
def rangeV (d : TypeDesc) (x : V) (id : Nat) (h : Heap) : Option (V × Heap) := match d with
  | .string => match x with
    | .d (.str s) => some (.ref id 0, h.upd id (.siter s 0))
    | _ => none
  | .map _ _ => match mapOf x h with
    | some c => if c.1.length = c.2.length then some (.ref id 0, h.upd id (.mfresh x c.1.length)) else none
    | none => none
  | _ => none
def atV (m : V) (n j : Nat) (h : Heap) : Option (D × V) := match mapOf m h with
  | some c => if c.1.length = n ∧ c.2.length = n then (match c.1[j]?, c.2[j]? with
    | some k, some v => some (k, v)
    | _, _ => none) else none
  | none => none
def nextV (str : Bool) (x : V) (h : Heap) : Option (V × Heap) := match x with
  | .ref b 0 => match h.blk b, str with
    | .siter s pos, true => if pos < s.size then some (.d (.tuple [.bool true, .int .i64 pos, .int .i32 (Utf8.decode s pos).1]), h.upd b (.siter s (pos + (Utf8.decode s pos).2))) else some (.d (.tuple [.bool false]), h)
    | .mpend m n j, false => (atV m n j h).map fun kv => (mkTuple [.d (.bool true), .d kv.1, kv.2], h.upd b (.mcur m n j))
    | _, _ => none
  | _ => none
def entryV (x : V) (h : Heap) : Option V := match x with
  | .ref b 0 => match h.blk b with
    | .mcur m n j => (atV m n j h).map fun kv => mkTuple [.d kv.1, kv.2]
    | _ => none
  | _ => none
/-! ### one operation that calls no function -/
section
variable (P : Program) (glob : Nat → V)
def evO (e : Env) : Operand → V
  | .tmp t => e t
  | .const v => (ofValue v).getD .unk
  | .global g => glob g
  | .func f => .d (.fn f [] [])
def fieldOff (P : Program) (t : TypeId) (i : Nat) : Option (Nat × TypeId) := match P.underlying t with
  | some (.struct fs) => (fs[i]?).map fun f => (f.offset, f.type)
  | _ => none
def buildV (t : TypeId) (ps : List (Nat × V)) : Option V :=
  match zeroT P t, P.underlying t with
  | some z, some (.struct _) => (placesT P t).bind fun pl => ((partsOf (pl[·]?) ps).bind (fillV z.cells)).map mkAgg
  | some z, some (.array _ e) => (sizeT P e).bind fun sz => ((partsOf (fun i => some (i * sz, sz)) ps).bind (fillV z.cells)).map mkAgg
  | _, _ => none
def builtinV (mu : Bool) (b : Builtin) (ts : List TypeId) (xs : List V) (id : Nat) (h : Heap) : Option (V × Heap) :=
  match b, ts, xs with
  | .len, [t], [x] => match P.underlying t with
    | some d => (lenV d x h).map (·, h)
    | none => none
  | .append, [t, tx], [s, x] => if tx = t ∧ mu = false then appendV P t s x id h else none
  | .copy, [t, tx], [d, x] => if tx = t then copyV P t d x h else none
  | .max, _, xs => (foldD max2D xs).map (·, h)
  | .min, _, xs => (foldD min2D xs).map (·, h)
  | _, _, _ => none
def stepV (mu : Bool) (op : Op) (r : Operand → V) (id : Nat) (h : Heap) : Option (V × Heap) :=
  match op with
  | .move x | .assign x => some (r x, h)
  | .pick c a b => match r c with
    | .d (.bool t) => some (if t then r a else r b, h)
    | _ => none
  | .alloc t => (zeroT P t).bind fun z => allocV id z h
  | .box _ x => boxV mu id (r x) h
  | .build t ps => (buildV P t (ps.toList.map fun p => (p.1, r p.2))).map (·, h)
  | .buildSlice t n ps => bsliceV P mu t n (ps.toList.map fun p => (p.1, r p.2)) id h
  | .load t a => (tyT P t).bind fun q => (loadV q.1 q.2 (r a) h).map (·, h)
  | .store t a x => (sizeT P t).bind fun sz => (storeV sz (r a) (r x) h).map (undefV, ·)
  | .nilCheck x => (nilCheckV (r x)).map (·, h)
  | .binOp op t x y _ => (binV P (isConstO x || isConstO y) op t (r x) (r y)).map (·, h)
  | .unOp op _ x => (unV op (r x)).map (·, h)
  | .convert s d x => (convX P s d (r x)).map (·, h)
  | .makeInterface t x => match P.underlying t with
    | some (.interface _) | none => none
    | some _ => (mkIface t (r x)).map (·, h)
  | .makeFunc (.func f) a c => some (mkFn f (a.toList.map r) (c.toList.map r), h)
  | .makeMap t none => match P.underlying t with
    | some (.map _ _) => some (.mref id, h.upd id (.map [] []))
    | _ => none
  | .makeSlice t l c => msliceV P mu t (r l) (r c) id h
  | .slice t x lo hi mx => (sliceV P t (r x) (lo.map r) (hi.map r) (mx.map r)).map (·, h)
  | .fieldAddr t x i => match fieldOff P t i with
    | some (off, ft) => (match sizeT P ft with
      | some 0 | none => none
      | some _ => (fieldAddrV off (r x)).map (·, h))
    | none => none
  | .field t x i => match fieldOff P t i with
    | some (off, ft) => (tyT P ft).bind fun q => (fieldV q.1 q.2 off (r x)).map (·, h)
    | none => none
  | .indexAddr t x i => match P.underlying t with
    | some (.slice e) => (sizeT P e).bind fun sz => (indexAddrS sz (r x) (r i)).map (·, h)
    | some (.array n e) => (sizeT P e).bind fun sz => (indexAddrA n sz (r x) (r i)).map (·, h)
    | _ => none
  | .index t x i => match P.underlying t with
    | some .string => (indexStr (r x) (r i)).map (·, h)
    | some (.array n e) => (tyT P e).bind fun q => (indexA n q.1 q.2 (r x) (r i)).map (·, h)
    | _ => none
  | .lookup t m k ok => (lookupV P t ok (r m) (r k) h).map (·, h)
  | .mapUpdate t m k x | .insert t m k x => (mapUpdV P t (r m) (r k) (r x) h).map (undefV, ·)
  | .extract x i => (extractV i (r x)).map (·, h)
  | .range t x => (P.underlying t).bind fun d => rangeV d (r x) id h
  | .next x s => nextV s (r x) h
  | .entry x => (entryV (r x) h).map (·, h)
  | .call { callee := .builtin b, args, argTypes } => builtinV P mu b argTypes.toList (args.toList.map r) id h
  | _ => none

/-! ### code -/
/-- what a call enters: a function, or the round of a loop -/
inductive Tgt where
  | fn (f : FuncId)
  | yld (b : Nat)
abbrev CallF := Tgt → List V → Heap → Option (V × Heap)
/-- the variables of the packages: what they hold as data; what else holds of every world from here on -/
structure Gb where
  v : Nat → V
  inv : World → Prop
  keep : ∀ w w' : World, inv w → Go.RowKit.Below w.heap.size w w' → inv w'
instance : Coe Gb (Nat → V) := ⟨Gb.v⟩
instance : CoeFun Gb (fun _ => Nat → V) := ⟨Gb.v⟩
/-- what a machine is told beside the program: which functions it may enter, which slots hold slices that are written, which calls are kept apart (pure), and what some functions answer -/
structure Cfg where
  fns : FuncId → Option Func
  mutS : FuncId → Nat → Bool
  pureF : FuncId → Bool
  primF : FuncId → Option (List D → Option D)
  primV : FuncId → Option (List V → Option V)
  glob : Gb

def wantedV (ops : Array Oper) (e : Env) (o : Oper) : Option Bool :=
  match o.guard with
  | none => some true
  | some (j, want) => match (ops[j]?).bind (·.dst) with
    | some s => match e s with
      | .d (.bool b) => some (b == want)
      | .unk => none
      | _ => some false
    | none => some false
variable (C : Cfg)
/-- the function that a call enters, and its arguments -/
def targetV (v : V) (xs : List V) : Option (Tgt × List V) := match v with
  | .d (.fn g a b) => some (.fn g, a.map .d ++ xs ++ b.map .d)
  | .fn g a b => some (.fn g, a ++ xs ++ b)
  | .yld b => some (.yld b, xs)
  | _ => none
def calleeV (r : Operand → V) (c : Call) : Option (Tgt × List V) :=
  match c.callee with
  | .value f => targetV (r f) (c.args.toList.map r)
  | _ => none
def muO (f : FuncId) (d : Option Nat) : Bool := match d with
  | some s => C.mutS f s
  | none => false
def stepC (callF : CallF) (f : FuncId) (o : Oper) (e : Env) (id : Nat) (h : Heap) : Option (V × Heap) :=
  match o.op with
  | .call { callee := .builtin b, args, argTypes } => stepV P (muO C f o.dst) (.call { callee := .builtin b, args, argTypes }) (evO C.glob e) id h
  | .call c => match calleeV (evO C.glob e) c with
    | some (g, vs) => callF g vs h
    | none => none
  | op => stepV P (muO C f o.dst) op (evO C.glob e) id h
def runOps (callF : CallF) (f : FuncId) (all : Array Oper) (base : Nat) : (ops : List Oper) → (i : Nat) → Env → Heap → Option (Env × Heap)
  | [], _, e, h => some (e, h)
  | o :: os, i, e, h => match wantedV all e o with
    | none => none
    | some false => runOps callF f all base os (i + 1) (e.put o.dst undefV) h
    | some true => match stepC P C callF f o e (base + i) h with
      | none => none
      | some (v, h') => runOps callF f all base os (i + 1) (e.put o.dst v) h'

/-! ### regions whose order is open: what each operation touches -/
inductive Fp where
  | none
  | rd (l : List Nat)
  | wr (l : List Nat)
  | bad
def fpR : V → Fp
  | .ref b _ => .rd [b]
  | _ => .none
def fpW : V → Fp
  | .ref b _ => .wr [b]
  | _ => .bad
def fpRM : V → Fp
  | .mref b => .rd [b]
  | _ => .none
def fpWM : V → Fp
  | .mref b => .wr [b]
  | _ => .bad
def fpApp (s x : V) (id : Nat) : Fp := match s, x with
  | _, .sref _ _ _ _ => .bad
  | .own t _, _ => .wr [t, id]
  | _, _ => .wr [id]
def footV (op : Op) (r : Operand → V) (id : Nat) : Fp :=
  match op with
  | .load _ a => fpR (r a)
  | .store _ a _ => fpW (r a)
  | .alloc _ | .box _ _ | .makeMap _ _ | .makeSlice _ _ _ | .buildSlice _ _ _ => .wr [id]
  | .lookup _ m _ _ => fpRM (r m)
  | .mapUpdate _ m _ _ | .insert _ m _ _ => fpWM (r m)
  | .call { callee := .builtin b, args, .. } => match b, args.toList.map r with
    | .len, [x] => fpRM x
    | .append, [s, x] => fpApp s x id
    | .max, _ | .min, _ => .none
    | _, _ => .bad
  | .move _ | .assign _ | .pick _ _ _ | .build _ _ | .nilCheck _ | .binOp _ _ _ _ _ | .unOp _ _ _ | .convert _ _ _ | .makeInterface _ _ | .makeFunc _ _ _ | .slice _ _ _ _ _
  | .fieldAddr _ _ _ | .field _ _ _ | .indexAddr _ _ _ | .index _ _ _ | .extract _ _ => .none
  | _ => .bad
/-- a call that leaves the machine's memory alone: it is told what it answers, or it is kept apart -/
def apartC (t : Tgt) (vs : List V) : Bool := match t with
  | .fn f => (C.primF f).isSome || (C.primV f).isSome || (C.pureF f && (allD vs).isSome)
  | .yld _ => false
def footC (o : Oper) (e : Env) (id : Nat) : Fp :=
  match o.op with
  | .call { callee := .builtin b, args, argTypes } => footV (.call { callee := .builtin b, args, argTypes }) (evO C.glob e) id
  | .call c => match calleeV (evO C.glob e) c with
    | some (g, vs) => if apartC C g vs then .none else .bad
    | none => .bad
  | op => footV op (evO C.glob e) id
def runOpsF (callF : CallF) (f : FuncId) (all : Array Oper) (base : Nat) : (ops : List Oper) → (i : Nat) → Env → Heap → Option (List Fp × Env × Heap)
  | [], _, e, h => some ([], e, h)
  | o :: os, i, e, h => match wantedV all e o with
    | none => none
    | some false => (runOpsF callF f all base os (i + 1) (e.put o.dst undefV) h).map fun r => (Fp.none :: r.1, r.2)
    | some true => match stepC P C callF f o e (base + i) h with
      | none => none
      | some (v, h') => (runOpsF callF f all base os (i + 1) (e.put o.dst v) h').map fun r => (footC C o e (base + i) :: r.1, r.2)
def noCommon (a b : List Nat) : Bool := a.all fun x => b.all fun y => x != y
def compat : Fp → Fp → Bool
  | .none, .none => true
  | .bad, _ | _, .bad => false
  | .none, _ | _, .none => true
  | .rd _, .rd _ => true
  | .rd a, .wr b | .wr a, .rd b | .wr a, .wr b => noCommon a b
/-- the operations that stand ahead of each one on some way of edges -/
def predMasks (ops : Array Oper) : List Nat :=
  ops.toList.foldl (fun acc o => acc ++ [(o.after.toList.filter (Region.binds .any)).foldl (fun s d => s ||| (1 <<< d.on) ||| acc.getD d.on 0) 0]) []
def predsOf (ops : Array Oper) : List (List Nat) := (predMasks ops).map fun m => (List.range ops.size).filter fun i => (m >>> i) % 2 == 1
def looksOf (ops : Array Oper) (o : Oper) : List Tmp := Oper.looksAt ops o
/-- by the text alone: edges lead back; two operations that name one slot are ordered, where one of them writes it -/
def drawOk (ops : Array Oper) : Bool :=
  let T := predsOf ops
  let n := ops.size
  ops.toList.zipIdx.all fun (o, j) =>
    (o.after.toList.all fun d => !Region.binds .any d || decide (d.on < j)) &&
    ((T.getD j []).all fun i => (o.after.toList.any fun d => Region.binds .any d && (d.on == i || (T.getD d.on []).contains i))) &&
    ((List.range n).all fun i => i == j || (T.getD j []).contains i || (T.getD i []).contains j ||
      (match ops[i]? with
      | some p => match p.dst with
        | some s => !(Oper.looksAt ops o).contains s && o.dst != some s
        | none => true
      | none => true))
def notBad : Fp → Bool
  | .bad => false
  | _ => true
/-- by what the run touched: two operations in no order touch nothing in common -/
def touchOk (T : List (List Nat)) (fps : List Fp) : Bool :=
  fps.all notBad &&
  (List.range fps.length).all fun j => (List.range j).all fun i => (T.getD j []).contains i || compat (fps.getD i .bad) (fps.getD j .bad)
/-- what is asked of a function's operations, once for all: every slot lies in the frame -/
def opsOk (N : Nat) (ops : Array Oper) : Bool := ops.all fun o => match o.dst with
  | some d => decide (d < N)
  | none => true
def codeOk (N : Nat) : Code → Bool
  | .region _ ops draw => opsOk N ops && (!draw || drawOk ops)
  | .seq a b | .cond _ a b => codeOk N a && codeOk N b
  | .block _ c | .loop c => codeOk N c
  | .rangeFunc _ ps a c => (ps.toList.all fun p => decide (p < N)) && codeOk N a && codeOk N c
  | _ => true
abbrev Res := Option (Ex × Env × Heap)
def iterC (body : Env → Heap → Res) : Nat → Env → Heap → Res
  | 0, _, _ => none
  | n + 1, e, h => match body e h with
    | some (.normal, e', h') => iterC body n e' h'
    | x => x
def seqC (x : Res) (k : Env → Heap → Res) : Res := match x with
  | some (.normal, e, h) => k e h
  | x => x
def blockC (id : Nat) : Res → Res
  | some (.exit i, e, h) => if i = id then some (.normal, e, h) else some (.exit i, e, h)
  | x => x
def condC (v : V) (a b : Res) : Res := match v with
  | .d (.bool true) => a
  | .d (.bool false) => b
  | _ => none
/-- a loop over a map, by its text: which slot holds the iterator, what is asked first, where the loop is left -/
structure MapLoop where
  it : Nat
  rid : Nat
  op0 : Oper
  nx : Nat
  op1 : Oper
  more : Nat
  out : Nat
  rest : Code
def mapLoop? : Code → Option MapLoop
  | .seq (.region rid ops false) (.seq (.cond (.tmp m) .skip (.exit out)) rest) => match ops.toList with
    | [o0, o1] => match o0.dst, o0.op, o0.guard, o1.dst, o1.op, o1.guard with
      | some nx, .next (.tmp it) false, none, some more, .extract (.tmp x) 0, none =>
        if x = nx ∧ m = more ∧ nx ≠ more ∧ it ≠ nx ∧ it ≠ more then some ⟨it, rid, o0, nx, o1, more, out, rest⟩ else none
      | _, _, _, _, _, _ => none
    | _ => none
  | _ => none
/-- the slots that code may write -/
def dstsC : Code → List Nat
  | .region _ ops _ => ops.toList.filterMap (·.dst)
  | .seq a b | .cond _ a b => dstsC a ++ dstsC b
  | .block _ c | .loop c => dstsC c
  | _ => []
def forget (l : List Nat) (e : Env) : Env := fun t => if l.contains t then .unk else e t
/-- the same data, as far as it is told -/
def likeV : V → V → Bool
  | .d (.bool a), .d (.bool b) => a == b
  | .d (.int k a), .d (.int l b) => decide (k = l) && a == b
  | .d .nilp, .d .nilp => true
  | .d .nilm, .d .nilm => true
  | .d .nili, .d .nili => true
  | .d .nilf, .d .nilf => true
  | .nils, .nils => true
  | _, _ => false
/-- what is known behind either of two ways out -/
def meetE (l : List Nat) (e1 e2 : Env) : Env := fun t => if l.contains t then (if likeV (e1 t) (e2 t) then e1 t else .unk) else e1 t
def meetR (l : List Nat) : List Res → Option (Option (Ex × Env))
  | [] => some none
  | none :: _ => none
  | some (.normal, _, _) :: rs => meetR l rs
  | some (x, e, _) :: rs => match meetR l rs with
    | some none => some (some (x, meetE l e e))
    | some (some (y, e')) => if x = y then some (some (x, meetE l e e')) else none
    | none => none
def roFp : Fp → Bool
  | .none | .rd _ => true
  | _ => false
def roOk : List Oper → List Fp → Bool
  | o :: os, fp :: fps => (roFp fp || (match o.op with | .next _ false | .entry _ => true | _ => false)) && roOk os fps
  | _, [] => true
  | [], _ => false
/-- a loop over a map whose rounds leave what there is alone: one round for each entry, each from the loop's begin; they go on, or they all leave alike -/
def mapC (run : Env → Heap → Res) (L : MapLoop) (l : List Nat) (e : Env) (h : Heap) : Res :=
  match e L.it with
  | .ref b 0 => match h.blk b with
    | .mfresh m n => match mapOf m h with
      | some c => if c.1.length = n ∧ c.2.length = n ∧ l.contains L.it = false then
          match meetR l ((List.range n).map fun j => run ((forget l e).put (some L.it) (.ref h.next 0)) ⟨((h.upd b .dead).upd h.next (.mpend m n j)).blk, h.next + 1⟩) with
          | some none => some (.exit L.out, forget l e, h.upd b .dead)
          | some (some (x, e')) => some (x, fun t => if l.contains t then e' t else e t, h.upd b .dead)
          | none => none
        else none
      | none => none
    | _ => none
  | _ => none
def putAll : List Nat → List V → Env → Env
  | p :: ps, v :: vs, e => putAll ps vs (e.put (some p) v)
  | _, _, e => e
/-- a loop over a function -/
def rangeC (callF : CallF) (f : FuncId) (g : V) (ps : List Nat) (a c : Code) (e : Env) (h : Heap) : Res :=
  match targetV g [.yld h.next] with
  | some (.fn f', xs) => match callF (.fn f') xs ⟨(h.upd h.next (.loopb f e ps a c .ready)).blk, h.next + 1⟩ with
    | some (_, h2) => match h2.blk h.next with
      | .loopb f2 e2 ps2 a2 c2 .ready => some (.normal, e, h2.upd h.next (.loopb f2 e2 ps2 a2 c2 .over))
      | .loopb f2 e2 ps2 a2 c2 (.done x) => some (x, e, h2.upd h.next (.loopb f2 e2 ps2 a2 c2 .over))
      | _ => none
    | none => none
  | _ => none
def denC (callF : CallF) (n : Nat) (f : FuncId) : Code → Bool → Env → Heap → Res
  | .skip, _, e, h => some (.normal, e, h)
  | .label _, _, e, h => some (.normal, e, h)
  | .region _ ops false, false, e, h => match runOps P C callF f ops h.next ops.toList 0 e ⟨h.blk, h.next + ops.size⟩ with
    | some (e', h') => some (.normal, e', h')
    | none => none
  | .region _ ops true, false, e, h => match runOpsF P C callF f ops h.next ops.toList 0 e ⟨h.blk, h.next + ops.size⟩ with
    | some (fps, e', h') => if touchOk (predsOf ops) fps then some (.normal, e', h') else none
    | none => none
  | .region _ ops d, true, e, h => match runOpsF P C callF f ops h.next ops.toList 0 e ⟨h.blk, h.next + ops.size⟩ with
    | some (fps, e', h') => if roOk ops.toList fps = true ∧ (d = true → touchOk (predsOf ops) fps = true) then some (.normal, e', h') else none
    | none => none
  | .seq a b, ro, e, h => seqC (denC callF n f a ro e h) (denC callF n f b ro)
  | .cond c a b, ro, e, h => condC (evO C.glob e c) (denC callF n f a ro e h) (denC callF n f b ro e h)
  | .block id c, ro, e, h => blockC id (denC callF n f c ro e h)
  | .loop c, ro, e, h => match ro, mapLoop? c with
    | false, some L => mapC (denC callF n f c true) L (dstsC c) e h
    | _, none => iterC (denC callF n f c ro) n e h
    | true, some _ => none
  | .rangeFunc g ps a c, false, e, h => rangeC callF f (evO C.glob e g) ps.toList a c e h
  | .exit id, _, e, h => some (.exit id, e, h)
  | .ret, _, e, h => some (.ret, e, h)
  | _, _, _, _ => none
/-- the round of a loop over a function: what a call of its yield does -/
def roundC (callF : CallF) (n : Nat) (b : Nat) (vs : List V) (h : Heap) : Option (V × Heap) :=
  match h.blk b with
  | .loopb f e ps a c .ready => if vs.length = ps.length then
      match denC P C callF n f a false (putAll ps vs e) h with
      | some (.normal, e2, h2) => match h2.blk b with
        | .loopb f2 x2 ps2 a2 c2 .ready => match denC P C callF n f c false e2 (h2.upd b (.loopb f2 x2 ps2 a2 c2 .busy)) with
          | some (x, _, h3) => match h3.blk b with
            | .loopb f3 x3 ps3 a3 c3 .busy => match x with
              | .normal => some (.d (.bool true), h3.upd b (.loopb f3 x3 ps3 a3 c3 .ready))
              | x => some (.d (.bool false), h3.upd b (.loopb f3 x3 ps3 a3 c3 (.done x)))
            | _ => none
          | none => none
        | _ => none
      | _ => none
    else none
  | _ => none

def resV (e : Env) (h : Heap) : List ResultVar → Option (List V)
  | [] => some []
  | .tmp t :: rs => (resV e h rs).map (e t :: ·)
  | .cell a t :: rs => match tyT P t, resV e h rs with
    | some q, some vs => (loadV q.1 q.2 (e a) h).map (· :: vs)
    | _, _ => none
def resultV (e : Env) (h : Heap) (rs : List ResultVar) : Option V :=
  match resV P e h rs with
  | some [v] => some v
  | some vs => some (mkTuple vs)
  | none => none

/-- what a finished call hands back becomes data: what it made may no longer change -/
def freezeV (h : Heap) : Nat → V → Option D
  | 0, _ => none
  | n + 1, v => match v with
    | .d x => some x
    | .nils => some (.list [])
    | .own _ rows => some (.list rows)
    | .agg vs => (vs.mapM (freezeV h n)).map .agg
    | .tuple vs => (vs.mapM (freezeV h n)).map .tuple
    | .ref b off => match h.blk b with
      | .cells vs => (vs.mapM (freezeV h n)).map (.ptr · off)
      | _ => none
    | .sref b off len sz => match h.blk b with
      | .cells vs => if off + len * sz ≤ vs.length ∧ 0 < sz then (((vs.drop off).take (len * sz)).mapM (freezeV h n)).map (fun ds => .list (chunk sz len ds)) else none
      | _ => none
    | .mref b => match h.blk b with
      | .map ks vs => if ks.length = vs.length then (vs.mapM (freezeV h n)).map (.map ks ·) else none
      | _ => none
    | .iface t v => (freezeV h n v).map (.iface t)
    | .fn f a b => match a.mapM (freezeV h n), b.mapM (freezeV h n) with
      | some x, some y => some (.fn f x y)
      | _, _ => none
    | .unk | .yld _ => none
def argEnv (vs : List V) : Env := fun t => vs.getD t undefV
/-- the whole of one call: the body from the arguments to the result -/
def bodyC (callF : CallF) (n : Nat) (f : FuncId) (vs : List V) (h : Heap) : Option (V × Heap) :=
  match C.fns f with
  | none => none
  | some fn => match fn.body with
    | none => none
    | some c => if vs.length ≤ fn.ntmps then (match denC P C callF n f c false (argEnv vs) h with
      | some (.normal, e, h') | some (.ret, e, h') => (resultV P e h' fn.results.toList).map (·, h')
      | _ => none) else none
def pickC (ic : CallF) (k : Nat) (t : Tgt) (vs : List V) (h : Heap) : Option (V × Heap) :=
  match t with
  | .yld b => ic (.yld b) vs h
  | .fn f => match C.primF f with
    | some g => match allD vs with
      | some ds => (g ds).map fun d => (.d d, h)
      | none => none
    | none => match C.primV f with
    | some g => (g vs).map fun v => (v, h)
    | none => match (if C.pureF f then allD vs else none) with
      | some ds => match ic (.fn f) (ds.map .d) Heap.empty with
        | some (v, h') => (freezeV h' k v).map fun d => (.d d, h)
        | none => none
      | none => ic (.fn f) vs h
def icall : Nat → CallF
  | 0, _, _, _ => none
  | k + 1, .fn f, vs, h => bodyC P C (pickC C (icall k) k) k f vs h
  | k + 1, .yld b, vs, h => roundC P C (pickC C (icall k) k) k b vs h
def pcall (k : Nat) (f : FuncId) (ds : List D) : Option D :=
  match icall P C k (.fn f) (ds.map .d) Heap.empty with
  | some (v, h') => freezeV h' k v
  | none => none
end
end Go.AM
end
section
namespace Go.AM
open Go Go.RowKit

abbrev Muts := Nat → Nat → Prop
/-- no entry was ever taken out of the map -/
def BornOk (es : Array MapEntry) (c : Nat) : Prop := c = es.size ∧ es.toList.map MapEntry.born = List.range es.size
mutual
def RD (w : World) (M : Muts) : D → Value → Prop
  | .bool b, v => v = .bool b
  | .int k n, v => v = .int k n
  | .str s, v => v = .string s
  | .nilp, v => v = .pointer none
  | .ptr row off, v => ∃ b o, v = .pointer (some ⟨b, o + off, none⟩) ∧ At w M row b o
  | .list rows, v => ∃ x cap, v = .slice x rows.length cap ∧ rows.length ≤ cap ∧ (rows ≠ [] → ∃ b o sz, x = some ⟨b, o, none⟩ ∧ RowsAt w M rows b o sz)
  | .nilm, v => v = .map none
  | .map ks vs, v => ∃ r es c, v = .map (some r) ∧ ¬ M r 0 ∧ w.heap[r]? = some (.map es c) ∧ BornOk es c ∧ RDL w M ks (es.toList.map MapEntry.key) ∧ RDL w M vs (es.toList.map MapEntry.val)
  | .nilf, v => v = .nilFunc
  | .fn f a c, v => ∃ xs ys, v = .func (.func f) xs ys ∧ RDL w M a xs.toList ∧ RDL w M c ys.toList
  | .nili, v => v = .nilIface
  | .iface t x, v => ∃ y, v = .iface t y ∧ RD w M x y
  | .agg cs, v => ∃ xs, v = .agg xs ∧ RDL w M cs xs.toList
  | .tuple cs, v => ∃ xs, v = .tuple xs ∧ RDL w M cs xs.toList
def At (w : World) (M : Muts) : List D → Nat → Nat → Prop
  | [], _, _ => True
  | d :: ds, b, o => ¬ M b o ∧ d.scalar = true ∧ (∃ v, w.cell? ⟨b, o, none⟩ = some v ∧ RD w M d v) ∧ At w M ds b (o + 1)
def RowsAt (w : World) (M : Muts) : List (List D) → Nat → Nat → Nat → Prop
  | [], _, _, _ => True
  | r :: rs, b, o, sz => r.length = sz ∧ At w M r b o ∧ RowsAt w M rs b (o + sz) sz
def RDL (w : World) (M : Muts) : List D → List Value → Prop
  | [], vs => vs = []
  | d :: ds, vs => ∃ v vs', vs = v :: vs' ∧ RD w M d v ∧ RDL w M ds vs'
end

/-- nothing that data reads has turned -/
structure Ext (w : World) (M : Muts) (w' : World) (M' : Muts) : Prop where
  cell : ∀ b o v, ¬ M b o → w.cell? ⟨b, o, none⟩ = some v → w'.cell? ⟨b, o, none⟩ = some v
  map : ∀ r es c, ¬ M r 0 → w.heap[r]? = some (.map es c) → w'.heap[r]? = some (.map es c)
  muts : ∀ b o, ¬ M b o → b < w.heap.size → ¬ M' b o
  size : w.heap.size ≤ w'.heap.size

theorem Ext.refl (w : World) (M : Muts) : Ext w M w M := ⟨fun _ _ _ _ h => h, fun _ _ _ _ h => h, fun _ _ h _ => h, Nat.le_refl _⟩
theorem lt_of_map {w : World} {r : Nat} {es : Array MapEntry} {c : Nat} (h : w.heap[r]? = some (.map es c)) : r < w.heap.size :=
  (Array.getElem?_eq_some_iff.1 h).1

mutual
theorem RD.mono {w w' : World} {M M' : Muts} (x : Ext w M w' M') : ∀ (d : D) (v : Value), RD w M d v → RD w' M' d v
  | .bool _, _, h => h
  | .int _ _, _, h => h
  | .str _, _, h => h
  | .nilp, _, h => h
  | .ptr row off, v, h => by
    obtain ⟨b, o, e, h⟩ := h
    exact ⟨b, o, e, At.mono x row b o h⟩
  | .list rows, v, h => by
    obtain ⟨a, cap, e, hc, h⟩ := h
    refine ⟨a, cap, e, hc, fun hn => ?_⟩
    obtain ⟨b, o, sz, e, h⟩ := h hn
    exact ⟨b, o, sz, e, RowsAt.mono x rows b o sz h⟩
  | .nilm, _, h => h
  | .map ks vs, v, h => by
    obtain ⟨r, es, c, e, hm, hr, hbn, hk, hv⟩ := h
    exact ⟨r, es, c, e, x.muts r 0 hm (lt_of_map hr), x.map r es c hm hr, hbn, RDL.mono x ks _ hk, RDL.mono x vs _ hv⟩
  | .nilf, _, h => h
  | .fn f a c, v, h => by
    obtain ⟨xs, ys, e, h1, h2⟩ := h
    exact ⟨xs, ys, e, RDL.mono x a _ h1, RDL.mono x c _ h2⟩
  | .nili, _, h => h
  | .iface t y, v, h => by
    obtain ⟨z, e, h⟩ := h
    exact ⟨z, e, RD.mono x y z h⟩
  | .agg cs, v, h => by
    obtain ⟨xs, e, h⟩ := h
    exact ⟨xs, e, RDL.mono x cs _ h⟩
  | .tuple cs, v, h => by
    obtain ⟨xs, e, h⟩ := h
    exact ⟨xs, e, RDL.mono x cs _ h⟩
theorem At.mono {w w' : World} {M M' : Muts} (x : Ext w M w' M') : ∀ (ds : List D) (b o : Nat), At w M ds b o → At w' M' ds b o
  | [], _, _, _ => trivial
  | d :: ds, b, o, h => by
    obtain ⟨hm, hs, ⟨v, hv, hd⟩, hr⟩ := h
    exact ⟨x.muts b o hm (World.block_lt_of_cell? _ _ hv), hs, ⟨v, x.cell b o v hm hv, RD.mono x d v hd⟩, At.mono x ds b (o + 1) hr⟩
theorem RowsAt.mono {w w' : World} {M M' : Muts} (x : Ext w M w' M') : ∀ (rs : List (List D)) (b o sz : Nat), RowsAt w M rs b o sz → RowsAt w' M' rs b o sz
  | [], _, _, _, _ => trivial
  | r :: rs, b, o, sz, h => by
    obtain ⟨hl, ha, hr⟩ := h
    exact ⟨hl, At.mono x r b o ha, RowsAt.mono x rs b (o + sz) sz hr⟩
theorem RDL.mono {w w' : World} {M M' : Muts} (x : Ext w M w' M') : ∀ (ds : List D) (vs : List Value), RDL w M ds vs → RDL w' M' ds vs
  | [], _, h => h
  | d :: ds, vs, h => by
    obtain ⟨v, vs', e, h1, h2⟩ := h
    exact ⟨v, vs', e, RD.mono x d v h1, RDL.mono x ds vs' h2⟩
end

/-- the ghost: which ids there are, and the model's block of each; of a slice of the call's own also its form -/
structure G where
  dom : Nat → Prop
  rho : Nat → Nat
  cap : Nat → Nat
  ln : Nat → Nat
  sz : Nat → Nat
  el : Nat → TypeId
  it : Nat → Obj
  dfr : Nat → Prop
  lps : Nat → Prop

structure GLe (g g' : G) : Prop where
  dom : ∀ b, g.dom b → g'.dom b
  rho : ∀ b, g.dom b → g'.rho b = g.rho b
  cap : ∀ b, g.dom b → g'.cap b = g.cap b
  ln : ∀ b, g.dom b → g'.ln b = g.ln b
  sz : ∀ b, g.dom b → g'.sz b = g.sz b
  el : ∀ b, g.dom b → g'.el b = g.el b
  it : ∀ b, g.dom b → g'.it b = g.it b
  dfr : ∀ b, g.dfr b → g'.dfr b
  lps : ∀ b, g.lps b → g'.lps b
theorem GLe.refl (g : G) : GLe g g := ⟨fun _ h => h, fun _ _ => rfl, fun _ _ => rfl, fun _ _ => rfl, fun _ _ => rfl, fun _ _ => rfl, fun _ _ => rfl, fun _ h => h, fun _ h => h⟩
theorem GLe.trans {a b c : G} (h : GLe a b) (k : GLe b c) : GLe a c :=
  ⟨fun x hx => k.dom x (h.dom x hx), fun x hx => (k.rho x (h.dom x hx)).trans (h.rho x hx), fun x hx => (k.cap x (h.dom x hx)).trans (h.cap x hx),
   fun x hx => (k.ln x (h.dom x hx)).trans (h.ln x hx), fun x hx => (k.sz x (h.dom x hx)).trans (h.sz x hx), fun x hx => (k.el x (h.dom x hx)).trans (h.el x hx),
   fun x hx => (k.it x (h.dom x hx)).trans (h.it x hx), fun x hx => k.dfr x (h.dfr x hx), fun x hx => k.lps x (h.lps x hx)⟩

mutual
def VR (w : World) (M : Muts) (g : G) : V → Value → Prop
  | .d x, v => RD w M x v
  | .ref b off, v => g.dom b ∧ v = .pointer (some ⟨g.rho b, off, none⟩)
  | .sref b off len _, v => g.dom b ∧ ∃ cap, v = .slice (some ⟨g.rho b, off, none⟩) len cap ∧ len ≤ cap
  | .mref b, v => g.dom b ∧ v = .map (some (g.rho b))
  | .nils, v => v = .slice none 0 0
  | .own t rows, v => g.dom t ∧ v = .slice (some ⟨g.rho t, 0, none⟩) rows.length (g.cap t) ∧ rows.length ≤ g.cap t ∧ g.ln t = rows.length ∧ RowsAt w M rows (g.rho t) 0 (g.sz t)
  | .fn f a c, v => ∃ xs ys, v = .func (.func f) xs ys ∧ VRL w M g a xs.toList ∧ VRL w M g c ys.toList
  | .iface t x, v => ∃ y, v = .iface t y ∧ VR w M g x y
  | .agg cs, v => ∃ xs, v = .agg xs ∧ VRL w M g cs xs.toList
  | .tuple cs, v => ∃ xs, v = .tuple xs ∧ VRL w M g cs xs.toList
  | .yld b, v => g.dom b ∧ v = .func (.yield (g.rho b)) #[] #[]
  | .unk, _ => True
def VRL (w : World) (M : Muts) (g : G) : List V → List Value → Prop
  | [], vs => vs = []
  | x :: xs, vs => ∃ v vs', vs = v :: vs' ∧ VR w M g x v ∧ VRL w M g xs vs'
end
mutual
theorem VR.mono {w w' : World} {M M' : Muts} {g g' : G} (x : Ext w M w' M') (y : GLe g g') : ∀ (u : V) (v : Value), VR w M g u v → VR w' M' g' u v
  | .d d, v, h => RD.mono x d v h
  | .ref b off, v, h => ⟨y.dom b h.1, by rw [y.rho b h.1]; exact h.2⟩
  | .sref b off len _, v, h => ⟨y.dom b h.1, by rw [y.rho b h.1]; exact h.2⟩
  | .mref b, v, h => ⟨y.dom b h.1, by rw [y.rho b h.1]; exact h.2⟩
  | .nils, v, h => h
  | .own t rows, v, h => by
    obtain ⟨h0, h1, h2, h3, h4⟩ := h
    refine ⟨y.dom t h0, ?_, ?_, ?_, ?_⟩
    · rw [y.rho t h0, y.cap t h0]; exact h1
    · rw [y.cap t h0]; exact h2
    · rw [y.ln t h0]; exact h3
    · rw [y.rho t h0, y.sz t h0]; exact RowsAt.mono x _ _ _ _ h4
  | .fn f a c, v, h => by
    obtain ⟨xs, ys, e, h1, h2⟩ := h
    exact ⟨xs, ys, e, VRL.mono x y a _ h1, VRL.mono x y c _ h2⟩
  | .iface t u, v, h => by
    obtain ⟨z, e, h⟩ := h
    exact ⟨z, e, VR.mono x y u z h⟩
  | .agg cs, v, h => by
    obtain ⟨xs, e, h⟩ := h
    exact ⟨xs, e, VRL.mono x y cs _ h⟩
  | .tuple cs, v, h => by
    obtain ⟨xs, e, h⟩ := h
    exact ⟨xs, e, VRL.mono x y cs _ h⟩
  | .yld b, v, h => ⟨y.dom b h.1, by rw [y.rho b h.1]; exact h.2⟩
  | .unk, _, _ => trivial
theorem VRL.mono {w w' : World} {M M' : Muts} {g g' : G} (x : Ext w M w' M') (y : GLe g g') : ∀ (us : List V) (vs : List Value), VRL w M g us vs → VRL w' M' g' us vs
  | [], _, h => h
  | u :: us, vs, h => by
    obtain ⟨v, vs', e, h1, h2⟩ := h
    exact ⟨v, vs', e, VR.mono x y u v h1, VRL.mono x y us vs' h2⟩
end

/-! ### small facts on lists -/
section
variable {w : World} {M : Muts} {g : G}
theorem VRL.length : ∀ {us : List V} {vs : List Value}, VRL w M g us vs → vs.length = us.length
  | [], vs, h => by simp [VRL] at h; simp [h]
  | u :: us, vs, h => by
    obtain ⟨v, vs', rfl, _, h2⟩ := h
    simp [VRL.length h2]
theorem VRL.get : ∀ {us : List V} {vs : List Value} (_ : VRL w M g us vs) (i : Nat) (u : V), us[i]? = some u → ∃ v, vs[i]? = some v ∧ VR w M g u v
  | [], _, _, i, u, hu => by simp at hu
  | x :: us, vs, h, i, u, hu => by
    obtain ⟨v, vs', rfl, h1, h2⟩ := h
    cases i with
    | zero => simp at hu; subst hu; exact ⟨v, by simp, h1⟩
    | succ i => simpa using VRL.get h2 i u (by simpa using hu)
theorem VRL.append : ∀ {us us' : List V} {vs vs' : List Value}, VRL w M g us vs → VRL w M g us' vs' → VRL w M g (us ++ us') (vs ++ vs')
  | [], us', vs, vs', h, h' => by simp [VRL] at h; subst h; simpa using h'
  | u :: us, us', vs, vs', h, h' => by
    obtain ⟨v, ws, rfl, h1, h2⟩ := h
    exact ⟨v, ws ++ vs', rfl, h1, VRL.append h2 h'⟩
theorem VRL.take : ∀ {us : List V} {vs : List Value} (n : Nat), VRL w M g us vs → VRL w M g (us.take n) (vs.take n)
  | us, vs, 0, _ => by simp [VRL]
  | [], vs, n + 1, h => by simp [VRL] at h; subst h; simp [VRL]
  | u :: us, vs, n + 1, h => by
    obtain ⟨v, ws, rfl, h1, h2⟩ := h
    exact ⟨v, ws.take n, by simp, h1, VRL.take n h2⟩
theorem VRL.drop : ∀ {us : List V} {vs : List Value} (n : Nat), VRL w M g us vs → VRL w M g (us.drop n) (vs.drop n)
  | us, vs, 0, h => by simpa using h
  | [], vs, n + 1, h => by simp [VRL] at h; subst h; simp [VRL]
  | u :: us, vs, n + 1, h => by
    obtain ⟨v, ws, rfl, h1, h2⟩ := h
    simpa using VRL.drop n h2
theorem VRL.set : ∀ {us : List V} {vs : List Value} (_ : VRL w M g us vs) (i : Nat) (u : V) (v : Value), VR w M g u v → VRL w M g (us.set i u) (vs.set i v)
  | [], vs, h, i, u, v, _ => by simp [VRL] at h; subst h; simp [VRL]
  | x :: us, vs, h, 0, u, v, hu => by
    obtain ⟨v', ws, rfl, h1, h2⟩ := h
    exact ⟨v, ws, by simp, hu, h2⟩
  | x :: us, vs, h, i + 1, u, v, hu => by
    obtain ⟨v', ws, rfl, h1, h2⟩ := h
    exact ⟨v', ws.set i v, by simp, h1, VRL.set h2 i u v hu⟩
theorem RDL.toVRL : ∀ {ds : List D} {vs : List Value}, RDL w M ds vs → VRL w M g (ds.map V.d) vs
  | [], vs, h => h
  | d :: ds, vs, h => by
    obtain ⟨v, vs', e, h1, h2⟩ := h
    exact ⟨v, vs', e, h1, RDL.toVRL h2⟩
theorem VRL.toRDL : ∀ {ds : List D} {vs : List Value}, VRL w M g (ds.map V.d) vs → RDL w M ds vs
  | [], vs, h => h
  | d :: ds, vs, h => by
    obtain ⟨v, vs', e, h1, h2⟩ := h
    exact ⟨v, vs', e, h1, VRL.toRDL h2⟩
theorem allD'_eq : ∀ {us : List V} {ds : List D}, allD' us = some ds → us = ds.map V.d
  | [], ds, h => by simp [allD'] at h; subst h; rfl
  | u :: us, ds, h => by
    cases u with
    | d x =>
      simp only [allD'] at h
      cases h' : allD' us with
      | none => rw [h'] at h; cases h
      | some es =>
        rw [h'] at h
        simp at h
        subst h
        simp [allD'_eq h']
    | _ => simp [allD'] at h
theorem VR_mkAgg {us : List V} {vs : Array Value} (h : VRL w M g us vs.toList) : VR w M g (mkAgg us) (.agg vs) := by
  unfold mkAgg
  cases h' : allD' us with
  | none => exact ⟨vs, rfl, h⟩
  | some ds =>
    rw [allD'_eq h'] at h
    exact ⟨vs, rfl, VRL.toRDL h⟩
theorem VR_mkTuple {us : List V} {vs : Array Value} (h : VRL w M g us vs.toList) : VR w M g (mkTuple us) (.tuple vs) := by
  unfold mkTuple
  cases h' : allD' us with
  | none => exact ⟨vs, rfl, h⟩
  | some ds =>
    rw [allD'_eq h'] at h
    exact ⟨vs, rfl, VRL.toRDL h⟩
theorem RD.one {d : D} {v : Value} (h : RD w M d v) (hs : d.scalar = true) : v.oneCell' = true ∧ v.cells = #[v] := by
  cases d <;> simp only [RD, D.scalar] at h hs <;> first | cases hs | skip
  case bool => subst h; exact ⟨rfl, rfl⟩
  case int => subst h; exact ⟨rfl, rfl⟩
  case str => subst h; exact ⟨rfl, rfl⟩
  case nilp => subst h; exact ⟨rfl, rfl⟩
  case ptr => obtain ⟨b, o, rfl, _⟩ := h; exact ⟨rfl, rfl⟩
  case list => obtain ⟨b, o, rfl, _⟩ := h; exact ⟨rfl, rfl⟩
  case nilm => subst h; exact ⟨rfl, rfl⟩
  case map => obtain ⟨b, o, c, rfl, _⟩ := h; exact ⟨rfl, rfl⟩
  case nilf => subst h; exact ⟨rfl, rfl⟩
  case fn => obtain ⟨b, o, rfl, _⟩ := h; exact ⟨rfl, rfl⟩
  case nili => subst h; exact ⟨rfl, rfl⟩
  case iface => obtain ⟨b, rfl, _⟩ := h; exact ⟨rfl, rfl⟩
theorem VR.one {x : V} {v : Value} (h : VR w M g x v) (hs : x.scalar = true) : v.oneCell' = true ∧ v.cells = #[v] := by
  cases x <;> simp only [VR, V.scalar] at h hs <;> first | cases hs | skip
  case d => exact RD.one h hs
  case ref => obtain ⟨_, rfl⟩ := h; exact ⟨rfl, rfl⟩
  case sref => obtain ⟨_, c, rfl, _⟩ := h; exact ⟨rfl, rfl⟩
  case mref => obtain ⟨_, rfl⟩ := h; exact ⟨rfl, rfl⟩
  case nils => subst h; exact ⟨rfl, rfl⟩
  case own => obtain ⟨_, rfl, _⟩ := h; exact ⟨rfl, rfl⟩
  case fn => obtain ⟨b, o, rfl, _⟩ := h; exact ⟨rfl, rfl⟩
  case iface => obtain ⟨b, rfl, _⟩ := h; exact ⟨rfl, rfl⟩
  case yld => obtain ⟨_, rfl⟩ := h; exact ⟨rfl, rfl⟩
theorem VRL.ones : ∀ {us : List V} {vs : List Value}, VRL w M g us vs → us.all V.scalar = true → ∀ c ∈ vs, c.oneCell' = true
  | [], vs, h, _, c, hc => by simp [VRL] at h; subst h; cases hc
  | x :: us, vs, h, hs, c, hc => by
    obtain ⟨v, ws, rfl, h1, h2⟩ := h
    simp only [List.all_cons, Bool.and_eq_true] at hs
    cases hc with
    | head => exact (VR.one h1 hs.1).1
    | tail _ hc => exact VRL.ones h2 hs.2 c hc
theorem VR_cells {x : V} {v : Value} (h : VR w M g x v) (hs : x.cells.all V.scalar = true) : VRL w M g x.cells v.cells.toList ∧ ∀ c ∈ v.cells.toList, c.oneCell' = true := by
  have key : VRL w M g x.cells v.cells.toList := by
    have one : ∀ {x : V}, x.cells = [x] → VR w M g x v → x.cells.all V.scalar = true → VRL w M g x.cells v.cells.toList := by
      intro x e h hs
      rw [e] at hs ⊢
      simp only [List.all_cons, List.all_nil, Bool.and_true] at hs
      rw [(VR.one h hs).2]
      exact ⟨v, [], rfl, h, rfl⟩
    cases x with
    | d y =>
      cases y with
      | agg cs =>
        obtain ⟨xs, rfl, h⟩ := h
        exact RDL.toVRL h
      | _ => exact one rfl h hs
    | agg cs =>
      obtain ⟨xs, rfl, h⟩ := h
      exact h
    | _ => exact one rfl h hs
  exact ⟨key, key.ones hs⟩
end

/-! ### the state of the machine in the model's memory -/
def live : Block → Bool
  | .dead | .mover => false
  | _ => true
def mutB : Block → Nat → Nat → Prop   -- which cells of its block may change: for an own slice those behind its end
  | .dead, _, _ | .mover, _, _ | .mcur _ _ _, _, _ | .mfresh _ _, _, _ => False
  | .tok _ _, e, o => e ≤ o
  | _, _, _ => True
def Mut (M0 : Muts) (h : Heap) (g : G) : Muts := fun b o => M0 b o ∨ ∃ id, g.dom id ∧ g.rho id = b ∧ mutB (h.blk id) (g.ln id * g.sz id) o
def Ex.code : Ex → Code
  | .ret => .ret
  | .exit i => .exit i
  | .normal => .skip
def LSt.ok (r : Loop) : LSt → Prop
  | .ready => r.state = .ready ∧ r.pending = none
  | .busy => r.state = .busy
  | .done x => r.state = .done ∧ r.pending = some x.code
  | .over => True
def LoopOk (r : Loop) (ps : List Nat) (a c : Code) (st : LSt) : Prop :=
  r.params.toList = ps ∧ r.assign = a ∧ r.body = c ∧ codeOk r.tmps.size a = true ∧ codeOk r.tmps.size c = true ∧ (∀ p ∈ ps, p < r.tmps.size) ∧ st.ok r
def BlkOk (w : World) (M : Muts) (g : G) (B0 id : Nat) : Block → Prop
  | .dead | .mover => True
  | .mpend _ _ _ => False
  | .cells vs => g.dom id ∧ B0 ≤ g.rho id ∧ vs.all V.scalar = true ∧ ∃ cur e, w.heap[g.rho id]? = some (.cells cur e (0, 0)) ∧ vs.length ≤ cur.size ∧ VRL w M g vs (cur.toList.take vs.length)
  | .map ks vs => g.dom id ∧ B0 ≤ g.rho id ∧ ∃ es c, w.heap[g.rho id]? = some (.map es c) ∧ BornOk es c ∧ RDL w M ks (es.toList.map MapEntry.key) ∧ VRL w M g vs (es.toList.map MapEntry.val)
  | .tok e sz => g.dom id ∧ B0 ≤ g.rho id ∧ ∃ cur, w.heap[g.rho id]? = some (.cells cur e (0, 0)) ∧ g.ln id ≤ g.cap id ∧ g.cap id ≤ maxLen ∧ cur.size = g.cap id * sz ∧ 0 < sz ∧ g.sz id = sz
  | .siter s pos => g.dom id ∧ B0 ≤ g.rho id ∧ w.heap[g.rho id]? = some (.stringIter s pos)
  | .loopb _ e ps a c st => g.dom id ∧ B0 ≤ g.rho id ∧ ∃ r : Loop, w.heap[g.rho id]? = some (.loop r) ∧ LoopOk r ps a c st ∧ ∀ t, VR w M g (e t) (r.tmps.getD t undef)
  | .mfresh m n => g.dom id ∧ B0 ≤ g.rho id ∧ ∃ mo, w.heap[g.rho id]? = some (.mapIter mo n #[] n) ∧ VR w M g m (.map mo)
  | .mcur m n j => g.dom id ∧ B0 ≤ g.rho id ∧ ∃ r since seen, w.heap[g.rho id]? = some (.mapIter (some r) since seen n) ∧ seen.back? = some j ∧ g.it id = .mapIter (some r) since seen n ∧ VR w M g m (.map (some r))

/-- what stays the same through one pure call: the world at its begin, the callers' own memory, what the variables of the package hold -/
structure Base where
  w0 : World
  M0 : Muts
  glob : Gb
  hinv : glob.inv w0

structure Inv (B : Base) (h : Heap) (g : G) (w : World) : Prop where
  below : Below B.w0.heap.size B.w0 w
  m0 : ∀ b o, B.M0 b o → b < B.w0.heap.size
  blk : ∀ id, BlkOk w (Mut B.M0 h g) g B.w0.heap.size id (h.blk id)
  inj : ∀ i j, live (h.blk i) = true → live (h.blk j) = true → g.rho i = g.rho j → i = j
  lt : ∀ id, g.dom id → g.rho id < w.heap.size
  nxt : ∀ id, g.dom id → id < h.next
  dead : ∀ id, ¬ g.dom id → live (h.blk id) = false
  glob : ∀ n, VR w (Mut B.M0 h g) g (B.glob n) (.pointer (some ⟨n, 0, none⟩))
  dfr : ∀ d, g.dfr d → B.w0.heap.size ≤ d ∧ w.heap[d]? = some (.deferred (some []))
  lps : ∀ l, g.lps l → B.w0.heap.size ≤ l ∧ ∃ r, w.heap[l]? = some (.loop r)
end Go.AM
end
section
namespace Go.AM
open Go Go.RowKit
section
variable {B : Base} {h : Heap} {g : G} {w : World}

theorem BlkOk.mono {w' : World} {M M' : Muts} {g' : G} {B0 id : Nat} {b : Block} (x : Ext w M w' M') (y : GLe g g')
    (hb : w'.heap[g.rho id]? = w.heap[g.rho id]?) : BlkOk w M g B0 id b → BlkOk w' M' g' B0 id b := by
  intro k
  cases b with
  | dead => trivial
  | mover => trivial
  | mpend _ _ _ => exact k.elim
  | cells vs =>
    obtain ⟨h0, h1, h2, cur, e, h3, h4, h5⟩ := k
    exact ⟨y.dom _ h0, by rw [y.rho _ h0]; exact h1, h2, cur, e, by rw [y.rho _ h0, hb]; exact h3, h4, VRL.mono x y _ _ h5⟩
  | map ks vs =>
    obtain ⟨h0, h1, es, c, h2, hbn, h3, h4⟩ := k
    exact ⟨y.dom _ h0, by rw [y.rho _ h0]; exact h1, es, c, by rw [y.rho _ h0, hb]; exact h2, hbn, RDL.mono x _ _ h3, VRL.mono x y _ _ h4⟩
  | tok e sz =>
    obtain ⟨h0, h1, cur, h2, h3, h4, h5, h6, h7⟩ := k
    exact ⟨y.dom _ h0, by rw [y.rho _ h0]; exact h1, cur, by rw [y.rho _ h0, hb]; exact h2, by rw [y.ln _ h0, y.cap _ h0]; exact h3,
      by rw [y.cap _ h0]; exact h4, by rw [y.cap _ h0]; exact h5, h6, by rw [y.sz _ h0]; exact h7⟩
  | siter s pos =>
    obtain ⟨h0, h1, h2⟩ := k
    exact ⟨y.dom _ h0, by rw [y.rho _ h0]; exact h1, by rw [y.rho _ h0, hb]; exact h2⟩
  | loopb f e ps a c st =>
    obtain ⟨h0, h1, r, h2, h3, h4⟩ := k
    exact ⟨y.dom _ h0, by rw [y.rho _ h0]; exact h1, r, by rw [y.rho _ h0, hb]; exact h2, h3, fun t => VR.mono x y _ _ (h4 t)⟩
  | mfresh m n =>
    obtain ⟨h0, h1, mo, h2, h3⟩ := k
    exact ⟨y.dom _ h0, by rw [y.rho _ h0]; exact h1, mo, by rw [y.rho _ h0, hb]; exact h2, VR.mono x y _ _ h3⟩
  | mcur m n j =>
    obtain ⟨h0, h1, r, since, seen, h2, h3, h4, h5⟩ := k
    exact ⟨y.dom _ h0, by rw [y.rho _ h0]; exact h1, r, since, seen, by rw [y.rho _ h0, hb]; exact h2, h3, by rw [y.it _ h0]; exact h4, VR.mono x y _ _ h5⟩
theorem BlkOk.idle {M : Muts} {B0 id : Nat} {b : Block} (hl : live b = false) : BlkOk w M g B0 id b := by cases b <;> first | trivial | simp [live] at hl
def isLoop : Block → Bool
  | .loopb .. => true
  | _ => false
theorem BlkOk.obj {M : Muts} {B0 id : Nat} {b : Block} (hl : live b = true) (h : BlkOk w M g B0 id b) : ∃ o, w.heap[g.rho id]? = some o ∧ (∀ x, o ≠ .deferred x) ∧ ((∃ r, o = .loop r) → isLoop b = true) := by
  cases b with
  | dead => simp [live] at hl
  | mover => simp [live] at hl
  | mpend _ _ _ => exact h.elim
  | cells vs => obtain ⟨_, _, _, cur, e, h3, _⟩ := h; exact ⟨_, h3, (fun x hx => by cases hx), (fun ⟨r, hr⟩ => by cases hr)⟩
  | map ks vs => obtain ⟨_, _, es, c, h3, _⟩ := h; exact ⟨_, h3, (fun x hx => by cases hx), (fun ⟨r, hr⟩ => by cases hr)⟩
  | tok e sz => obtain ⟨_, _, cur, h3, _⟩ := h; exact ⟨_, h3, (fun x hx => by cases hx), (fun ⟨r, hr⟩ => by cases hr)⟩
  | siter s pos => obtain ⟨_, _, h3⟩ := h; exact ⟨_, h3, (fun x hx => by cases hx), (fun ⟨r, hr⟩ => by cases hr)⟩
  | loopb f e ps a c st => obtain ⟨_, _, r, h3, _⟩ := h; exact ⟨_, h3, (fun x hx => by cases hx), (fun _ => rfl)⟩
  | mfresh m n => obtain ⟨_, _, mo, h3, _⟩ := h; exact ⟨_, h3, (fun x hx => by cases hx), (fun ⟨r, hr⟩ => by cases hr)⟩
  | mcur m n j => obtain ⟨_, _, r, since, seen, h3, _⟩ := h; exact ⟨_, h3, (fun x hx => by cases hx), (fun ⟨r, hr⟩ => by cases hr)⟩
theorem BlkOk.loop {M : Muts} {B0 id : Nat} {b : Block} (hl : isLoop b = true) (h : BlkOk w M g B0 id b) : ∃ r, w.heap[g.rho id]? = some (.loop r) := by
  cases b <;> simp only [isLoop] at hl <;> first | cases hl | skip
  obtain ⟨_, _, r, h3, _⟩ := h; exact ⟨r, h3⟩

/-- the ghost with one more id -/
def G.add (g : G) (id r cap ln sz : Nat) (el : TypeId) : G :=
  { dom := fun x => g.dom x ∨ x = id
    rho := fun x => if x = id then r else g.rho x
    cap := fun x => if x = id then cap else g.cap x
    ln := fun x => if x = id then ln else g.ln x
    sz := fun x => if x = id then sz else g.sz x
    el := fun x => if x = id then el else g.el x
    it := g.it
    dfr := g.dfr
    lps := g.lps }
theorem GLe.add {id : Nat} (hid : ¬ g.dom id) (r cap ln sz : Nat) (el : TypeId) : GLe g (g.add id r cap ln sz el) := by
  have ne : ∀ b, g.dom b → b ≠ id := fun b hb e => hid (e ▸ hb)
  exact ⟨fun b hb => .inl hb, fun b hb => by simp [G.add, ne b hb], fun b hb => by simp [G.add, ne b hb], fun b hb => by simp [G.add, ne b hb], fun b hb => by simp [G.add, ne b hb], fun b hb => by simp [G.add, ne b hb], fun _ _ => rfl, fun _ h => h, fun _ h => h⟩

theorem Heap.upd_same (h : Heap) (b : Nat) (x : Block) : (h.upd b x).blk b = x := by simp [Heap.upd]
theorem Heap.upd_ne (h : Heap) {b c : Nat} (x : Block) (hn : c ≠ b) : (h.upd b x).blk c = h.blk c := by simp [Heap.upd, hn]
theorem live_dom (I : Inv B h g w) {id : Nat} (hl : live (h.blk id) = true) : g.dom id := Classical.byContradiction fun hn => by
  rw [I.dead id hn] at hl; cases hl
theorem rho_ge (I : Inv B h g w) {id : Nat} (hl : live (h.blk id) = true) : B.w0.heap.size ≤ g.rho id := by
  have := I.blk id
  cases hb : h.blk id <;> rw [hb] at this hl <;> first | exact this.2.1 | exact this.elim | (simp [live] at hl)

theorem alloc_step (I : Inv B h g w) {id : Nat} (hid : ¬ g.dom id) (hlt : id < h.next) (b : Block) (o : Obj) (cap ln sz : Nat) (el : TypeId) {w' : World}
    (hw : Below w.heap.size w w') (hs : w'.heap.size = w.heap.size + 1) (ho : w'.heap[w.heap.size]? = some o)
    (hb : Ext w (Mut B.M0 h g) w' (Mut B.M0 (h.upd id b) (g.add id w.heap.size cap ln sz el)) → GLe g (g.add id w.heap.size cap ln sz el) →
      BlkOk w' (Mut B.M0 (h.upd id b) (g.add id w.heap.size cap ln sz el)) (g.add id w.heap.size cap ln sz el) B.w0.heap.size id b) :
    Inv B (h.upd id b) (g.add id w.heap.size cap ln sz el) w' ∧ Ext w (Mut B.M0 h g) w' (Mut B.M0 (h.upd id b) (g.add id w.heap.size cap ln sz el)) ∧
      GLe g (g.add id w.heap.size cap ln sz el) := by
  have y := GLe.add hid w.heap.size cap ln sz el
  have hB : B.w0.heap.size ≤ w.heap.size := I.below.size
  have x : Ext w (Mut B.M0 h g) w' (Mut B.M0 (h.upd id b) (g.add id w.heap.size cap ln sz el)) := by
    refine ⟨fun c o v _ hv => ?_, fun r es c _ hr => ?_, fun c o hm hc => ?_, hw.size⟩
    · rw [World.cell?_of_block (hw.block c (World.block_lt_of_cell? _ _ hv))]; exact hv
    · rw [hw.block r (lt_of_map hr)]; exact hr
    · rintro (h0 | ⟨i, hd, hr, hmut⟩)
      · exact hm (.inl h0)
      · by_cases hi : i = id
        · subst hi; simp [G.add] at hr; omega
        · have hd' : g.dom i := hd.resolve_right hi
          refine hm (.inr ⟨i, hd', by simpa [G.add, hi] using hr, ?_⟩)
          rw [Heap.upd_ne _ _ hi] at hmut
          simpa [G.add, hi] using hmut
  refine ⟨?_, x, y⟩
  refine ⟨I.below.trans (hw.mono hB), I.m0, fun i => ?_, fun i j hi hj hr => ?_, fun i hd => ?_, fun i hd => ?_, fun i hd => ?_, fun n => VR.mono x y _ _ (I.glob n), fun d hd => ?_, fun l hl => ?_⟩
  · by_cases hi : i = id
    · subst hi; rw [Heap.upd_same]; exact hb x y
    · rw [Heap.upd_ne _ _ hi]
      cases hl : live (h.blk i)
      · exact BlkOk.idle hl
      · exact BlkOk.mono x y (hw.block _ (I.lt i (live_dom I hl))) (I.blk i)
  · by_cases hi' : i = id
    · by_cases hj' : j = id
      · rw [hi', hj']
      · rw [Heap.upd_ne _ _ hj'] at hj
        have := I.lt j (live_dom I hj)
        simp [G.add, hi', hj'] at hr; omega
    · rw [Heap.upd_ne _ _ hi'] at hi
      by_cases hj' : j = id
      · have := I.lt i (live_dom I hi)
        simp [G.add, hi', hj'] at hr; omega
      · rw [Heap.upd_ne _ _ hj'] at hj
        exact I.inj i j hi hj (by simpa [G.add, hi', hj'] using hr)
  · by_cases hi : i = id
    · subst hi; simp [G.add]; omega
    · have := I.lt i (hd.resolve_right hi)
      simp [G.add, hi]; omega
  · rcases hd with hd | rfl
    · exact I.nxt i hd
    · exact hlt
  · have hi : i ≠ id := fun e => hd (.inr e)
    rw [Heap.upd_ne _ _ hi]
    exact I.dead i (fun h => hd (.inl h))
  · obtain ⟨h1, h2⟩ := I.dfr d hd
    exact ⟨h1, by rw [hw.block d ((Array.getElem?_eq_some_iff.1 h2).1)]; exact h2⟩
  · obtain ⟨h1, r, h2⟩ := I.lps l hl
    exact ⟨h1, r, by rw [hw.block l ((Array.getElem?_eq_some_iff.1 h2).1)]; exact h2⟩

/-- the same state in a world that has drawn, or that parts in nothing below its heap's end -/
theorem Inv.same (I : Inv B h g w) {w' : World} (hw : Below w.heap.size w w') : Inv B h g w' ∧ Ext w (Mut B.M0 h g) w' (Mut B.M0 h g) := by
  have x : Ext w (Mut B.M0 h g) w' (Mut B.M0 h g) := by
    refine ⟨fun c o v _ hv => ?_, fun r es c _ hr => ?_, fun c o hm hc => hm, hw.size⟩
    · rw [World.cell?_of_block (hw.block c (World.block_lt_of_cell? _ _ hv))]; exact hv
    · rw [hw.block r (lt_of_map hr)]; exact hr
  refine ⟨⟨I.below.trans (hw.mono I.below.size), I.m0, fun i => ?_, I.inj, fun i hd => Nat.lt_of_lt_of_le (I.lt i hd) hw.size, I.nxt, I.dead, fun n => VR.mono x (GLe.refl g) _ _ (I.glob n),
    fun d hd => ⟨(I.dfr d hd).1, by rw [hw.block d ((Array.getElem?_eq_some_iff.1 (I.dfr d hd).2).1)]; exact (I.dfr d hd).2⟩, fun l hl => ?_⟩, x⟩
  rotate_left
  · obtain ⟨h1, r, h2⟩ := I.lps l hl
    exact ⟨h1, r, by rw [hw.block l ((Array.getElem?_eq_some_iff.1 h2).1)]; exact h2⟩
  cases hl : live (h.blk i)
  · exact BlkOk.idle hl
  · exact BlkOk.mono x (GLe.refl g) (hw.block _ (I.lt i (live_dom I hl))) (I.blk i)

/-- a block whose contents turn: the machine's and the model's -/
theorem turn_step (I : Inv B h g w) {id : Nat} (b : Block) {w' : World} (hm : ∀ o, mutB (h.blk id) (g.ln id * g.sz id) o) (hm' : ∀ e o, mutB b e o)
    (hlv : live b = true) (hl : live (h.blk id) = true) (hlp : isLoop (h.blk id) = true → isLoop b = true)
    (hw : ∀ k, k ≠ g.rho id → w'.heap[k]? = w.heap[k]?) (hs : w'.heap.size = w.heap.size) (ho : w'.os = w.os) (ht : w'.tape = w.tape) (hou : w'.output = w.output)
    (hb : Ext w (Mut B.M0 h g) w' (Mut B.M0 (h.upd id b) g) → BlkOk w' (Mut B.M0 (h.upd id b) g) g B.w0.heap.size id b) :
    Inv B (h.upd id b) g w' ∧ Ext w (Mut B.M0 h g) w' (Mut B.M0 (h.upd id b) g) := by
  have hd := live_dom I hl
  have hge := rho_ge I hl
  have hM : ∀ o, Mut B.M0 h g (g.rho id) o := fun o => .inr ⟨id, hd, rfl, hm o⟩
  have x : Ext w (Mut B.M0 h g) w' (Mut B.M0 (h.upd id b) g) := by
    refine ⟨fun c o v hmm hv => ?_, fun r es c hmm hr => ?_, fun c o hmm hc => ?_, by rw [hs]; exact Nat.le_refl _⟩
    · rw [World.cell?_of_block (w := w) (hw c (fun e => hmm (by subst e; exact hM o)))]; exact hv
    · rw [hw r (fun e => hmm (by subst e; exact hM 0))]; exact hr
    · rintro (h0 | ⟨i, hdi, hr, hmut⟩)
      · exact hmm (.inl h0)
      · by_cases hi : i = id
        · subst hi; subst hr; exact hmm (hM o)
        · rw [Heap.upd_ne _ _ hi] at hmut
          exact hmm (.inr ⟨i, hdi, hr, hmut⟩)
  refine ⟨⟨?_, I.m0, fun i => ?_, fun i j hi hj hr => ?_, fun i hdi => by rw [hs]; exact I.lt i hdi, I.nxt, fun i hdi => ?_, fun n => VR.mono x (GLe.refl g) _ _ (I.glob n), fun d hd => ?_, fun l hlq => ?_⟩, x⟩
  · exact ⟨ho.trans I.below.os, ht.trans I.below.tape, hou.trans I.below.output, by rw [hs]; exact I.below.size, fun k hk => (hw k (by omega)).trans (I.below.block k hk)⟩
  · by_cases hi : i = id
    · subst hi; rw [Heap.upd_same]; exact hb x
    · rw [Heap.upd_ne _ _ hi]
      cases hli : live (h.blk i)
      · exact BlkOk.idle hli
      · exact BlkOk.mono x (GLe.refl g) (hw _ (fun e => hi (I.inj i id hli hl e))) (I.blk i)
  · by_cases hi' : i = id
    · by_cases hj' : j = id
      · rw [hi', hj']
      · rw [Heap.upd_ne _ _ hj'] at hj
        rw [hi'] at hr ⊢
        exact I.inj id j hl hj hr
    · rw [Heap.upd_ne _ _ hi'] at hi
      by_cases hj' : j = id
      · rw [hj'] at hr ⊢
        exact I.inj i id hi hl hr
      · rw [Heap.upd_ne _ _ hj'] at hj
        exact I.inj i j hi hj hr
  · have hi : i ≠ id := fun e => hdi (e ▸ hd)
    rw [Heap.upd_ne _ _ hi]
    exact I.dead i hdi
  · obtain ⟨h1, h2⟩ := I.dfr d hd
    refine ⟨h1, (hw d (fun e => ?_)).trans h2⟩
    obtain ⟨o, q1, q2, _⟩ := BlkOk.obj hl (I.blk id)
    rw [← e, h2] at q1
    exact q2 _ (Option.some.inj q1).symm
  · obtain ⟨h1, r, h2⟩ := I.lps l hlq
    by_cases e : l = g.rho id
    · obtain ⟨o, q1, _, q3⟩ := BlkOk.obj hl (I.blk id)
      subst e
      rw [h2] at q1
      exact ⟨h1, BlkOk.loop (hlp (q3 ⟨r, (Option.some.inj q1).symm⟩)) (hb x)⟩
    · exact ⟨h1, r, (hw l e).trans h2⟩
end
end Go.AM
end
section
namespace Go.AM
open Go Go.RowKit
section
variable {P : Program} {B : Base} {h : Heap} {g : G} {w : World} {M : Muts}

theorem addr_add (b o n : Nat) : (⟨b, o, none⟩ : Addr).add n = ⟨b, o + n, none⟩ := Addr.add_lit b o n
theorem tyT_spec {t : TypeId} {q : Bool × Nat} (h : tyT P t = some q) : ∃ d i, P.underlying t = some d ∧ P.info? t = some i ∧ q = (aggD d, i.size) := by
  unfold tyT at h
  split at h
  · rename_i d i hd hi; exact ⟨d, i, hd, hi, by simpa using h.symm⟩
  · cases h
theorem run_isAgg {t : TypeId} {d : TypeDesc} (hd : P.underlying t = some d) : (isAgg t).run P w = .ok (aggD d) w := by
  simp only [isAgg, Sem.run_bind, run_underlying hd, Result.andThen_ok]
  cases d <;> rfl
theorem run_sizeOf {t : TypeId} {i : TypeInfo} (hi : P.info? t = some i) : (sizeOf t).run P w = .ok i.size w := by
  simp [sizeOf, typeInfo, hi]
theorem sizeT_spec {t : TypeId} {n : Nat} (h : sizeT P t = some n) : ∃ i, P.info? t = some i ∧ i.size = n := by
  unfold sizeT at h
  cases hi : P.info? t with
  | none => rw [hi] at h; cases h
  | some i => rw [hi] at h; exact ⟨i, rfl, by simpa using h⟩

/-! cells in a row, and lists -/
theorem At.get : ∀ {ds : List D} {b o : Nat} (_ : At w M ds b o) (i : Nat) (d : D), ds[i]? = some d → ∃ v, w.cell? ⟨b, o + i, none⟩ = some v ∧ RD w M d v
  | [], _, _, _, i, d, hd => by simp at hd
  | x :: ds, b, o, hA, i, d, hd => by
    obtain ⟨_, _, ⟨v, hv, hx⟩, hr⟩ := hA
    cases i with
    | zero => simp at hd; subst hd; exact ⟨v, hv, hx⟩
    | succ i =>
      obtain ⟨u, h1, h2⟩ := At.get hr i d (by simpa using hd)
      exact ⟨u, by rw [show o + (i + 1) = o + 1 + i from by omega]; exact h1, h2⟩
theorem At.drop : ∀ {ds : List D} {b o : Nat} (n : Nat), At w M ds b o → At w M (ds.drop n) b (o + n)
  | ds, b, o, 0, hA => by simpa using hA
  | [], b, o, n + 1, _ => by simp [At]
  | x :: ds, b, o, n + 1, hA => by
    obtain ⟨_, _, _, hr⟩ := hA
    rw [show o + (n + 1) = o + 1 + n from by omega]
    simpa using At.drop n hr
theorem At.take : ∀ {ds : List D} {b o : Nat} (n : Nat), At w M ds b o → At w M (ds.take n) b o
  | ds, b, o, 0, _ => by simp [At]
  | [], b, o, n + 1, _ => by simp [At]
  | x :: ds, b, o, n + 1, hA => by
    obtain ⟨h1, h2, h3, hr⟩ := hA
    exact ⟨h1, h2, h3, At.take n hr⟩
theorem At.values : ∀ {ds : List D} {b o : Nat}, At w M ds b o → ∃ vs, RDL w M ds vs ∧ ∀ j v, vs[j]? = some v → w.cell? ⟨b, o + j, none⟩ = some v
  | [], _, _, _ => ⟨[], rfl, fun j v hv => by simp at hv⟩
  | d :: ds, b, o, hA => by
    obtain ⟨_, _, ⟨v, hv, hx⟩, hr⟩ := hA
    obtain ⟨vs, h1, h2⟩ := At.values hr
    refine ⟨v :: vs, ⟨v, vs, rfl, hx, h1⟩, fun j u hu => ?_⟩
    cases j with
    | zero => simp at hu; subst hu; exact hv
    | succ j => rw [show o + (j + 1) = o + 1 + j from by omega]; exact h2 j u (by simpa using hu)
theorem RDL.length : ∀ {ds : List D} {vs : List Value}, RDL w M ds vs → vs.length = ds.length
  | [], vs, h => by simp [RDL] at h; simp [h]
  | d :: ds, vs, h => by
    obtain ⟨v, vs', rfl, _, h2⟩ := h
    simp [RDL.length h2]
theorem RDL.get {ds : List D} {vs : List Value} (h : RDL w M ds vs) (i : Nat) (d : D) (hd : ds[i]? = some d) : ∃ v, vs[i]? = some v ∧ RD w M d v := by
  have := VRL.get (g := ⟨fun _ => False, id, id, id, id, id, fun _ => default, fun _ => False, fun _ => False⟩) (RDL.toVRL h) i (.d d) (by simp [hd])
  exact this
theorem RowsAt.get : ∀ {rs : List (List D)} {b o sz : Nat} (_ : RowsAt w M rs b o sz) (i : Nat) (r : List D), rs[i]? = some r → r.length = sz ∧ At w M r b (o + i * sz)
  | [], _, _, _, _, i, r, hr => by simp at hr
  | x :: rs, b, o, sz, hA, i, r, hr => by
    obtain ⟨h1, h2, h3⟩ := hA
    cases i with
    | zero => simp at hr; subst hr; exact ⟨h1, by simpa using h2⟩
    | succ i =>
      have := RowsAt.get h3 i r (by simpa using hr)
      rw [show o + (i + 1) * sz = o + sz + i * sz from by rw [Nat.add_mul]; omega]
      exact this

theorem run_loadVar {t : TypeId} {q : Bool × Nat} (hq : tyT P t = some q) (b o : Nat) (cs : List Value)
    (hc : ∀ j v, cs[j]? = some v → w.cell? ⟨b, o + j, none⟩ = some v) (hl : q.1 = true → cs.length = q.2) (hl' : q.1 = false → ∃ v, cs[0]? = some v) :
    (loadVar t ⟨b, o, none⟩).run P w = .ok (if q.1 then .agg cs.toArray else cs.getD 0 undef) w := by
  obtain ⟨d, i, hd, hi, rfl⟩ := tyT_spec hq
  simp only [loadVar, Sem.run_bind, run_isAgg hd, Result.andThen_ok]
  cases ha : aggD d with
  | true =>
    simp only [if_true, Sem.run_bind, run_sizeOf hi, Result.andThen_ok]
    have hl2 : cs.length = i.size := hl ha
    have := run_loadCells_list (P := P) (w := w) ⟨b, o, none⟩ cs (fun j v hj => by rw [addr_add]; exact hc j v hj)
    rw [← hl2, this]
    simp
  | false =>
    obtain ⟨v, hv⟩ := hl' ha
    have h0 := hc 0 v hv
    simp only [if_false, Bool.false_eq_true, run_load, Nat.add_zero] at h0 ⊢
    rw [h0]
    simp [List.getD, hv]

theorem load_sim (I : Inv B h g w) {t : TypeId} {q : Bool × Nat} (hq : tyT P t = some q) {a v : V} {av : Value} (ha : VR w (Mut B.M0 h g) g a av)
    (hv : loadV q.1 q.2 a h = some v) : ∃ v', (Instr.loadAt t av).run P w = .ok v' w ∧ VR w (Mut B.M0 h g) g v v' := by
  cases a with
  | d x =>
    cases x with
    | ptr row off =>
      obtain ⟨b, o, rfl, hA⟩ := ha
      simp only [loadV] at hv
      simp only [Instr.loadAt, Instr.sureAddr, Sem.run_bind, Sem.run_pure, Result.andThen_ok]
      obtain ⟨vs, h1, h2⟩ := At.values (At.drop off hA)
      cases hagg : q.1 with
      | true =>
        simp only [hagg, if_true] at hv
        split at hv
        · rename_i hle
          simp at hv; subst hv
          obtain ⟨ws, h3, h4⟩ := At.values (At.take q.2 (At.drop off hA))
          refine ⟨_, run_loadVar hq b (o + off) ws (fun j v hj => h4 j v hj) (fun _ => ?_) (fun e => by rw [hagg] at e; cases e), ?_⟩
          · rw [RDL.length h3]; simp; omega
          · simp only [hagg, if_true]
            exact ⟨_, rfl, by simpa using h3⟩
        · cases hv
      | false =>
        simp only [hagg, if_false, Bool.false_eq_true] at hv
        cases hd : row[off]? with
        | none => rw [hd] at hv; cases hv
        | some d =>
          rw [hd] at hv; simp at hv; subst hv
          obtain ⟨u, hu, hru⟩ := RDL.get h1 0 d (by simpa using hd)
          refine ⟨_, run_loadVar hq b (o + off) vs (fun j v hj => h2 j v hj) (fun e => by rw [hagg] at e; cases e) (fun _ => ⟨u, hu⟩), ?_⟩
          simp only [hagg, if_false, Bool.false_eq_true, List.getD, hu, Option.getD_some]
          exact hru
    | _ => simp [loadV] at hv
  | ref b off =>
    obtain ⟨hd, rfl⟩ := ha
    simp only [loadV] at hv
    have hb := I.blk b
    cases hblk : h.blk b with
    | cells vs =>
      rw [hblk] at hv hb
      obtain ⟨_, _, _, cur, e, h3, h4, h5⟩ := hb
      simp only [Instr.loadAt, Instr.sureAddr, Sem.run_bind, Sem.run_pure, Result.andThen_ok]
      have hcell : ∀ j v, (cur.toList.take vs.length)[j]? = some v → w.cell? ⟨g.rho b, j, none⟩ = some v := by
        intro j v hj
        rw [cell_of_row w _ j cur e (0, 0) h3]
        rw [List.getElem?_take] at hj
        split at hj
        · simpa using hj
        · cases hj
      cases hagg : q.1 with
      | true =>
        simp only [hagg, if_true] at hv
        split at hv
        · rename_i hle
          simp at hv; subst hv
          have h6 := VRL.take q.2 (VRL.drop off h5)
          refine ⟨_, run_loadVar hq (g.rho b) off (((cur.toList.take vs.length).drop off).take q.2) (fun j v hj => hcell _ _ ?_) (fun _ => ?_) (fun e => by rw [hagg] at e; cases e), ?_⟩
          · rw [List.getElem?_take] at hj
            split at hj
            · rw [List.getElem?_drop] at hj; exact hj
            · cases hj
          · rw [VRL.length h6]; simp; omega
          · simp only [hagg, if_true]
            exact VR_mkAgg (by simpa using h6)
        · cases hv
      | false =>
        simp only [hagg, if_false, Bool.false_eq_true] at hv
        obtain ⟨u, hu, hru⟩ := VRL.get h5 off v hv
        refine ⟨_, run_loadVar hq (g.rho b) off ((cur.toList.take vs.length).drop off) (fun j v hj => hcell _ _ ?_) (fun e => by rw [hagg] at e; cases e) (fun _ => ⟨u, by simpa using hu⟩), ?_⟩
        · rw [List.getElem?_drop] at hj; exact hj
        · have : ((cur.toList.take vs.length).drop off)[0]? = some u := by simpa using hu
          simp only [hagg, if_false, Bool.false_eq_true, List.getD, this, Option.getD_some]
          exact hru
    | _ => rw [hblk] at hv; simp at hv
  | _ => simp [loadV] at hv

theorem part_sim {t : TypeId} {q : Bool × Nat} (hq : tyT P t = some q) {us : List V} {cs : Array Value} {off : Nat} {v : V} (hu : VRL w M g us cs.toList)
    (hv : partV q.1 q.2 off us = some v) : ∃ v', (part t cs off).run P w = .ok v' w ∧ VR w M g v v' := by
  obtain ⟨d, i, hd, hi, rfl⟩ := tyT_spec hq
  simp only [part, Sem.run_bind, run_isAgg hd, Result.andThen_ok]
  simp only [partV] at hv
  cases ha : aggD d with
  | true =>
    simp only [ha, if_true] at hv
    split at hv
    · rename_i hle
      simp at hv; subst hv
      simp only [if_true, Sem.run_bind, run_sizeOf hi, Result.andThen_ok, Sem.run_pure]
      refine ⟨_, rfl, VR_mkAgg ?_⟩
      have h6 := VRL.take i.size (VRL.drop off hu)
      rw [Array.toList_extract, List.extract_eq_take_drop, show off + i.size - off = i.size from by omega]
      exact h6
    · cases hv
  | false =>
    simp only [ha, if_false, Bool.false_eq_true] at hv
    obtain ⟨u, hu1, hu2⟩ := VRL.get hu off v hv
    have h1 : cs[off]? = some u := by simpa using hu1
    simp only [if_false, Bool.false_eq_true, h1]
    exact ⟨u, rfl, hu2⟩

theorem fieldOff_spec {t : TypeId} {i off : Nat} {ft : TypeId} (hf : fieldOff P t i = some (off, ft)) :
    ∃ fs f, P.underlying t = some (.struct fs) ∧ fs[i]? = some f ∧ f.offset = off ∧ f.type = ft := by
  unfold fieldOff at hf
  split at hf
  · rename_i fs hfs
    cases hi : fs[i]? with
    | none => rw [hi] at hf; cases hf
    | some f =>
      rw [hi] at hf
      simp at hf
      exact ⟨fs, f, hfs, hi, hf.1, hf.2⟩
  · cases hf

theorem aggV_sim {t : TypeId} {q : Bool × Nat} (hq : tyT P t = some q) {off : Nat} {x v : V} {xv : Value} (hx : VR w M g x xv)
    (hv : fieldV q.1 q.2 off x = some v) : ∃ cs v', xv = .agg cs ∧ (part t cs off).run P w = .ok v' w ∧ VR w M g v v' := by
  cases x with
  | d y =>
    cases y with
    | agg cs =>
      obtain ⟨xs, rfl, h⟩ := hx
      obtain ⟨v', h1, h2⟩ := part_sim (g := g) hq (RDL.toVRL h) hv
      exact ⟨xs, v', rfl, h1, h2⟩
    | _ => simp [fieldV] at hv
  | agg cs =>
    obtain ⟨xs, rfl, h⟩ := hx
    obtain ⟨v', h1, h2⟩ := part_sim (g := g) hq h hv
    exact ⟨xs, v', rfl, h1, h2⟩
  | _ => simp [fieldV] at hv

theorem field_sim {t ft : TypeId} {i off : Nat} (hf : fieldOff P t i = some (off, ft)) {q : Bool × Nat} (hq : tyT P ft = some q) {x v : V} {xv : Value} (hx : VR w M g x xv)
    (hv : fieldV q.1 q.2 off x = some v) : ∃ v', (Instr.field t xv i).run P w = .ok v' w ∧ VR w M g v v' := by
  obtain ⟨fs, f, h1, h2, rfl, rfl⟩ := fieldOff_spec hf
  obtain ⟨cs, v', rfl, h3, h4⟩ := aggV_sim hq hx hv
  refine ⟨v', ?_, h4⟩
  simp only [Instr.field, Sem.run_bind, run_underlying h1, Result.andThen_ok, h2, asAgg, Sem.run_pure, h3]

theorem indexA_sim {t e : TypeId} {n : Nat} (ht : P.underlying t = some (.array n e)) {q : Bool × Nat} (hq : tyT P e = some q) {x i v : V} {xv iv : Value} (hx : VR w M g x xv) (hi : VR w M g i iv)
    (hv : indexA n q.1 q.2 x i = some v) : ∃ v', (Instr.index t xv iv).run P w = .ok v' w ∧ VR w M g v v' := by
  unfold indexA at hv
  split at hv
  · rename_i k j
    have hi' : iv = .int k j := hi
    subst hi'
    split at hv
    · rename_i hb
      obtain ⟨cs, v', rfl, h3, h4⟩ := aggV_sim hq hx hv
      obtain ⟨d, inf, hd, hinf, rfl⟩ := tyT_spec hq
      refine ⟨v', ?_, h4⟩
      simp only [Instr.index, asIntOf, Sem.run_bind, Sem.run_pure, Result.andThen_ok, run_underlying ht, if_pos hb, run_sizeOf hinf, h3]
    · cases hv
  · cases hv
theorem indexStr_sim {t : TypeId} (ht : P.underlying t = some .string) {x i v : V} {xv iv : Value} (hx : VR w M g x xv) (hi : VR w M g i iv)
    (hv : indexStr x i = some v) : ∃ v', (Instr.index t xv iv).run P w = .ok v' w ∧ VR w M g v v' := by
  unfold indexStr at hv
  split at hv
  · rename_i s k j
    have hi' : iv = .int k j := hi
    have hx' : xv = .string s := hx
    subst hi' hx'
    split at hv
    · rename_i hb
      cases hs : s[j.toNat]? with
      | none => rw [hs] at hv; cases hv
      | some c =>
        rw [hs] at hv; simp at hv; subst hv
        refine ⟨.int .u8 c.toNat, ?_, rfl⟩
        simp only [Instr.index, asIntOf, Sem.run_bind, Sem.run_pure, Result.andThen_ok, run_underlying ht, if_pos hb, hs]
    · cases hv
  · cases hv

theorem fieldAddr_sim {t ft : TypeId} {i off : Nat} (hf : fieldOff P t i = some (off, ft)) {sz : Nat} (hs : sizeT P ft = some (sz + 1)) {x v : V} {xv : Value} (hx : VR w M g x xv)
    (hv : fieldAddrV off x = some v) : ∃ v', (Instr.fieldAt t xv i).run P w = .ok v' w ∧ VR w M g v v' := by
  obtain ⟨fs, f, h1, h2, rfl, rfl⟩ := fieldOff_spec hf
  obtain ⟨inf, h3, h4⟩ := sizeT_spec hs
  have hne : ¬ inf.size = 0 := by omega
  cases x with
  | d y =>
    cases y with
    | ptr row o =>
      obtain ⟨b, o', rfl, h⟩ := hx
      simp [fieldAddrV] at hv; subst hv
      refine ⟨.pointer (some ⟨b, o' + (o + f.offset), none⟩), ?_, b, o', rfl, h⟩
      simp only [Instr.fieldAt, Sem.run_bind, run_underlying h1, Result.andThen_ok, h2, Instr.sureAddr, Sem.run_pure, fieldPlace, run_sizeOf h3, if_neg hne, addr_add, Nat.add_assoc]
    | _ => simp [fieldAddrV] at hv
  | ref b o =>
    obtain ⟨hd, rfl⟩ := hx
    simp [fieldAddrV] at hv; subst hv
    refine ⟨.pointer (some ⟨g.rho b, o + f.offset, none⟩), ?_, hd, rfl⟩
    simp only [Instr.fieldAt, Sem.run_bind, run_underlying h1, Result.andThen_ok, h2, Instr.sureAddr, Sem.run_pure, fieldPlace, run_sizeOf h3, if_neg hne, addr_add]
  | _ => simp [fieldAddrV] at hv

theorem rowsOf_sim {x : V} {xv : Value} {rows : List (List D)} (hx : VR w M g x xv) (hr : rowsOf x = some rows) :
    ∃ a cap, xv = .slice a rows.length cap ∧ rows.length ≤ cap ∧ (rows ≠ [] → ∃ b o sz, a = some ⟨b, o, none⟩ ∧ RowsAt w M rows b o sz) := by
  cases x with
  | d y =>
    cases y with
    | list rs => simp [rowsOf] at hr; subst hr; exact hx
    | _ => simp [rowsOf] at hr
  | own t rs =>
    simp [rowsOf] at hr; subst hr
    obtain ⟨_, rfl, h1, _, h2⟩ := hx
    exact ⟨_, _, rfl, h1, fun _ => ⟨_, _, _, rfl, h2⟩⟩
  | nils =>
    simp [rowsOf] at hr; subst hr
    have hx' : xv = .slice none 0 0 := hx
    subst hx'
    exact ⟨_, _, rfl, Nat.le_refl _, fun h => absurd rfl h⟩
  | _ => simp [rowsOf] at hr

theorem indexAddrS_sim {t e : TypeId} (ht : P.underlying t = some (.slice e)) {sz : Nat} (hs : sizeT P e = some sz) {x i v : V} {xv iv : Value} (hx : VR w M g x xv) (hi : VR w M g i iv)
    (hv : indexAddrS sz x i = some v) : ∃ v', (Instr.indexAt t xv iv).run P w = .ok v' w ∧ VR w M g v v' := by
  obtain ⟨inf, h3, h4⟩ := sizeT_spec hs
  unfold indexAddrS at hv
  split at hv
  · rename_i k n
    have hi' : iv = .int k n := hi
    subst hi'
    split at hv
    · rename_i b off len s
      obtain ⟨hd, cap, rfl, hc⟩ := hx
      split at hv
      · rename_i hb
        simp at hv; subst hv
        refine ⟨.pointer (some ⟨g.rho b, off + n.toNat * sz, none⟩), ?_, hd, rfl⟩
        simp only [Instr.indexAt, asIntOf, Sem.run_bind, Sem.run_pure, Result.andThen_ok, run_underlying ht, if_pos (show 0 ≤ n ∧ n < (len : Int) from ⟨hb.1, hb.2.1⟩), run_sizeOf h3, h4, addr_add]
      · cases hv
    · split at hv
      · rename_i rows hr
        obtain ⟨a, cap, rfl, hc, hA⟩ := rowsOf_sim hx hr
        split at hv
        · rename_i hn
          split at hv
          · rename_i row hrow
            split at hv
            · rename_i hl
              simp at hv; subst hv
              have hlt : n.toNat < rows.length := (List.getElem?_eq_some_iff.1 hrow).1
              obtain ⟨b, o, s, rfl, hR⟩ := hA (fun e => by subst e; simp at hlt)
              obtain ⟨h5, h6⟩ := RowsAt.get hR n.toNat row hrow
              have hs' : s = sz := by omega
              subst hs'
              refine ⟨.pointer (some ⟨b, o + n.toNat * s, none⟩), ?_, b, o + n.toNat * s, by simp, h6⟩
              have hb : 0 ≤ n ∧ n < (rows.length : Int) := ⟨hn, by omega⟩
              simp only [Instr.indexAt, asIntOf, Sem.run_bind, Sem.run_pure, Result.andThen_ok, run_underlying ht, if_pos hb, run_sizeOf h3, h4, addr_add]
            · cases hv
          · cases hv
        · cases hv
      · cases hv
  · cases hv
theorem indexAddrA_sim {t e : TypeId} {n : Nat} (ht : P.underlying t = some (.array n e)) {sz : Nat} (hs : sizeT P e = some sz) {x i v : V} {xv iv : Value} (hx : VR w M g x xv) (hi : VR w M g i iv)
    (hv : indexAddrA n sz x i = some v) : ∃ v', (Instr.indexAt t xv iv).run P w = .ok v' w ∧ VR w M g v v' := by
  obtain ⟨inf, h3, h4⟩ := sizeT_spec hs
  unfold indexAddrA at hv
  split at hv
  · rename_i k j
    have hi' : iv = .int k j := hi
    subst hi'
    split at hv
    · rename_i hb
      cases x with
      | d y =>
        cases y with
        | ptr row o =>
          obtain ⟨b, o', rfl, h⟩ := hx
          simp [fieldAddrV] at hv; subst hv
          refine ⟨.pointer (some ⟨b, o' + (o + j.toNat * sz), none⟩), ?_, b, o', rfl, h⟩
          simp only [Instr.indexAt, asIntOf, Sem.run_bind, Sem.run_pure, Result.andThen_ok, run_underlying ht, Instr.sureAddr, if_pos hb, run_sizeOf h3, h4, addr_add, Nat.add_assoc]
        | _ => simp [fieldAddrV] at hv
      | ref b o =>
        obtain ⟨hd, rfl⟩ := hx
        simp [fieldAddrV] at hv; subst hv
        refine ⟨.pointer (some ⟨g.rho b, o + j.toNat * sz, none⟩), ?_, hd, rfl⟩
        simp only [Instr.indexAt, asIntOf, Sem.run_bind, Sem.run_pure, Result.andThen_ok, run_underlying ht, Instr.sureAddr, if_pos hb, run_sizeOf h3, h4, addr_add]
      | _ => simp [fieldAddrV] at hv
    · cases hv
  · cases hv
theorem extract_sim {i : Nat} {x v : V} {xv : Value} (hx : VR w M g x xv) (hv : extractV i x = some v) : ∃ v', (Instr.extract xv i).run P w = .ok v' w ∧ VR w M g v v' := by
  cases x with
  | d y =>
    cases y with
    | tuple ds =>
      obtain ⟨xs, rfl, h⟩ := hx
      simp only [extractV] at hv
      cases hd : ds[i]? with
      | none => rw [hd] at hv; cases hv
      | some d =>
        rw [hd] at hv; simp at hv; subst hv
        obtain ⟨u, h1, h2⟩ := RDL.get h i d hd
        have h1' : xs[i]? = some u := by simpa using h1
        exact ⟨u, by simp only [Instr.extract, h1', Sem.run_pure], h2⟩
    | _ => simp [extractV] at hv
  | tuple us =>
    obtain ⟨xs, rfl, h⟩ := hx
    simp only [extractV] at hv
    obtain ⟨u, h1, h2⟩ := VRL.get h i v hv
    have h1' : xs[i]? = some u := by simpa using h1
    exact ⟨u, by simp only [Instr.extract, h1', Sem.run_pure], h2⟩
  | _ => simp [extractV] at hv
end
end Go.AM
end
section
namespace Go.AM
open Go Go.RowKit
section
variable {P : Program} {B : Base} {h : Heap} {g : G} {w : World} {M : Muts}

theorem andThen_of {α β : Type} {r : Result α} {a : α} {w' : World} {f : α → World → Result β} (h : r = .ok a w') : r.andThen f = f a w' := by rw [h]; rfl

theorem eqFields_sim (d D : Nat) (hDd : d ≤ D) (ih : ∀ t x y b xv yv, eqV P false d t x y = some b → VR w M g x xv → VR w M g y yv → (Op.equalIn D t xv yv).run P w = .ok b w) :
    ∀ (fs : List Field) (xs ys : List V) (b : Bool) (xv yv : Array Value), eqFieldsV (eqV P false d) P fs xs ys = some b → VRL w M g xs xv.toList → VRL w M g ys yv.toList →
      (Op.eqFields D xv yv fs).run P w = .ok b w
  | [], xs, ys, b, xv, yv, he, _, _ => by simp [eqFieldsV] at he; subst he; rfl
  | f :: fs, xs, ys, b, xv, yv, he, hx, hy => by
    simp only [eqFieldsV] at he
    split at he
    · rename_i hn
      split at he
      · rename_i q hq
        split at he
        · rename_i x y h1 h2
          obtain ⟨x', h3, h4⟩ := part_sim (P := P) hq hx h1
          obtain ⟨y', h5, h6⟩ := part_sim (P := P) hq hy h2
          simp only [Op.eqFields, if_pos hn, Sem.run_bind, h3, h5, Result.andThen_ok]
          split at he
          · rename_i h7
            simp only [ih _ _ _ _ _ _ h7 h4 h6, Result.andThen_ok, Bool.not_true, Bool.false_eq_true, if_false]
            exact eqFields_sim d D hDd ih fs xs ys b xv yv he hx hy
          · rename_i h7
            simp at he; subst he
            simp only [ih _ _ _ _ _ _ h7 h4 h6, Result.andThen_ok, Bool.not_false, if_true, Sem.run_pure]
          · cases he
        · cases he
      · cases he
    · cases he

/-- the run of the model's loop over the elements of two arrays -/
def elemsRun (eq : Nat → Sem Bool) : (n i : Nat) → Sem Bool
  | 0, _ => pure true
  | n + 1, i => do
    if !(← eq i) then pure false else elemsRun eq n (i + 1)
theorem forIn_elems (eq : Nat → Sem Bool) : ∀ (n i : Nat) (w : World),
    ((forIn (m := Sem) (List.range' i n) ((none, ()) : Option Bool × Unit) fun j _ => do
      if !(← eq j) then pure (ForInStep.done (some false, ())) else pure (ForInStep.yield (none, ()))).run P w).andThen (fun r w' => (match r.1 with | some b => (pure b : Sem Bool) | none => pure true).run P w') =
    (elemsRun eq n i).run P w
  | 0, i, w => by simp [elemsRun]
  | n + 1, i, w => by
    simp only [List.range'_succ, List.forIn_cons, elemsRun, Sem.run_bind]
    generalize (eq i).run P w = r
    cases r with
    | halt x w1 => simp [Result.andThen]
    | ok b w1 =>
      cases b
      · simp
      · simp only [Result.andThen_ok, Bool.not_true, Bool.false_eq_true, if_false, Sem.run_pure]
        exact forIn_elems eq n (i + 1) w1

theorem eqElems_sim (d D : Nat) (e : TypeId) {q : Bool × Nat} (hq : tyT P e = some q) (ih : ∀ t x y b xv yv, eqV P false d t x y = some b → VR w M g x xv → VR w M g y yv → (Op.equalIn D t xv yv).run P w = .ok b w) :
    ∀ (n i : Nat) (xs ys : List V) (b : Bool) (xv yv : Array Value), eqElemsV (eqV P false d) e q n i xs ys = some b → VRL w M g xs xv.toList → VRL w M g ys yv.toList →
      (elemsRun (fun i => do Op.equalIn D e (← part e xv (i * q.2)) (← part e yv (i * q.2))) n i).run P w = .ok b w
  | 0, i, xs, ys, b, xv, yv, he, _, _ => by simp [eqElemsV] at he; subst he; rfl
  | n + 1, i, xs, ys, b, xv, yv, he, hx, hy => by
    simp only [eqElemsV] at he
    split at he
    · rename_i x y h1 h2
      obtain ⟨x', h3, h4⟩ := part_sim (P := P) hq hx h1
      obtain ⟨y', h5, h6⟩ := part_sim (P := P) hq hy h2
      simp only [elemsRun, Sem.run_bind, h3, h5, Result.andThen_ok]
      split at he
      · rename_i h7
        simp only [ih _ _ _ _ _ _ h7 h4 h6, Result.andThen_ok, Bool.not_true, Bool.false_eq_true, if_false]
        exact eqElems_sim d D e hq ih n (i + 1) xs ys b xv yv he hx hy
      · rename_i h7
        simp at he; subst he
        simp only [ih _ _ _ _ _ _ h7 h4 h6, Result.andThen_ok, Bool.not_false, if_true, Sem.run_pure]
      · cases he
    · cases he

theorem run_equalIn_array (d : Nat) (t e : TypeId) (n : Nat) (xs ys : Array Value) {inf : TypeInfo} (ht : P.underlying t = some (.array n e)) (hi : P.info? e = some inf) :
    (Op.equalIn (d + 1) t (.agg xs) (.agg ys)).run P w = (elemsRun (fun i => do Op.equalIn d e (← part e xs (i * inf.size)) (← part e ys (i * inf.size))) n 0).run P w := by
  rw [← forIn_elems]
  simp only [Op.equalIn, Sem.run_bind, run_underlying ht, Result.andThen_ok, run_sizeOf hi]
  simp only [Std.Legacy.Range.forIn_eq_forIn_range', Std.Legacy.Range.size]
  simp only [Nat.sub_zero, Nat.add_sub_cancel, Nat.div_one, bind_assoc]
  congr 1
  funext a w'
  cases a.1 <;> rfl

set_option maxHeartbeats 4000000 in
theorem eqV_sim (c : Bool) : ∀ (d : Nat) (t : TypeId) (x y : V) (b : Bool) (xv yv : Value) (D : Nat), d ≤ D → eqV P c d t x y = some b → VR w M g x xv → VR w M g y yv →
    (Op.equalIn D t xv yv).run P w = .ok b w
  | 0, t, x, y, b, xv, yv, D, _, he, _, _ => by simp [eqV] at he
  | d + 1, t, x, y, b, xv, yv, 0, hD, _, _, _ => by omega
  | d + 1, t, x, y, b, xv, yv, D + 1, hD, he, hx, hy => by
    have ih := fun t x y b xv yv => eqV_sim false d t x y b xv yv D (by omega)
    simp only [eqV] at he
    split at he
    · rename_i ht
      split at he
      · have e1 : xv = _ := hx
        have e2 : yv = _ := hy
        subst e1 e2
        simp at he; subst he
        simp [Op.equalIn, run_underlying ht]
      · cases he
    · rename_i ht
      split at he
      · have e1 : xv = _ := hx
        have e2 : yv = _ := hy
        subst e1 e2
        split at he
        · simp at he; subst he
          rename_i hk; subst hk
          simp [Op.equalIn, run_underlying ht]
        · cases he
      · cases he
    · rename_i ht
      split at he
      · have e1 : xv = _ := hx
        have e2 : yv = _ := hy
        subst e1 e2
        simp at he; subst he
        simp [Op.equalIn, run_underlying ht]
      · cases he
    · rename_i ht
      split at he
      all_goals first | cases he | skip
      · have e1 : xv = _ := hx
        have e2 : yv = _ := hy
        subst e1 e2
        simp [Op.equalIn, run_underlying ht]
      · have e1 : xv = _ := hx
        obtain ⟨_, _, e2, _⟩ := hy
        subst e1 e2
        simp [Op.equalIn, run_underlying ht]
      · have e2 : yv = _ := hy
        obtain ⟨_, _, e1, _⟩ := hx
        subst e1 e2
        simp [Op.equalIn, run_underlying ht]
      · have e1 : xv = _ := hx
        obtain ⟨_, e2⟩ := hy
        subst e1 e2
        simp [Op.equalIn, run_underlying ht]
      · have e2 : yv = _ := hy
        obtain ⟨_, e1⟩ := hx
        subst e1 e2
        simp [Op.equalIn, run_underlying ht]
    · rename_i ht
      split at he
      all_goals first | cases he | skip
      · have e1 : xv = _ := hx
        have e2 : yv = _ := hy
        subst e1 e2
        split at he
        · simp at he; subst he
          simp [Op.equalIn, run_underlying ht]
        · cases he
      · have e1 : xv = _ := hx
        obtain ⟨_, e2, _⟩ := hy
        subst e1 e2
        simp [Op.equalIn, run_underlying ht]
      · have e2 : yv = _ := hy
        obtain ⟨_, e1, _⟩ := hx
        subst e1 e2
        simp [Op.equalIn, run_underlying ht]
      · have e1 : xv = _ := hx
        obtain ⟨_, e2, _⟩ := hy
        subst e1 e2
        simp [Op.equalIn, run_underlying ht]
      · have e2 : yv = _ := hy
        obtain ⟨_, e1, _⟩ := hx
        subst e1 e2
        simp [Op.equalIn, run_underlying ht]
    · rename_i ht
      split at he
      all_goals first | cases he | skip
      · have e1 : xv = _ := hx
        have e2 : yv = _ := hy
        subst e1 e2
        simp [Op.equalIn, run_underlying ht]
      · have e1 : xv = _ := hx
        obtain ⟨_, e2, _⟩ := hy
        subst e1 e2
        simp [Op.equalIn, run_underlying ht]
      · have e2 : yv = _ := hy
        obtain ⟨_, e1, _⟩ := hx
        subst e1 e2
        simp [Op.equalIn, run_underlying ht]
      · have e1 : xv = _ := hx
        obtain ⟨_, _, e2, _, h⟩ := hy
        obtain ⟨_, _, _, rfl, _⟩ := h (by simp)
        subst e1 e2
        simp [Op.equalIn, run_underlying ht]
      · have e2 : yv = _ := hy
        obtain ⟨_, _, e1, _, h⟩ := hx
        obtain ⟨_, _, _, rfl, _⟩ := h (by simp)
        subst e1 e2
        simp [Op.equalIn, run_underlying ht]
    · rename_i ht
      split at he
      all_goals first | cases he | skip
      · have e1 : xv = _ := hx
        have e2 : yv = _ := hy
        subst e1 e2
        simp [Op.equalIn, run_underlying ht]
      · have e1 : xv = _ := hx
        obtain ⟨_, _, _, e2, _⟩ := hy
        subst e1 e2
        simp [Op.equalIn, run_underlying ht]
      · have e2 : yv = _ := hy
        obtain ⟨_, _, _, e1, _⟩ := hx
        subst e1 e2
        simp [Op.equalIn, run_underlying ht]
      · have e1 : xv = _ := hx
        obtain ⟨_, e2⟩ := hy
        subst e1 e2
        simp [Op.equalIn, run_underlying ht]
      · have e2 : yv = _ := hy
        obtain ⟨_, e1⟩ := hx
        subst e1 e2
        simp [Op.equalIn, run_underlying ht]
    · rename_i ht
      split at he
      all_goals first | cases he | skip
      · have e1 : xv = _ := hx
        have e2 : yv = _ := hy
        subst e1 e2
        simp [Op.equalIn, run_underlying ht]
      · have e1 : xv = _ := hx
        obtain ⟨_, _, e2, _⟩ := hy
        subst e1 e2
        simp [Op.equalIn, run_underlying ht]
      · have e2 : yv = _ := hy
        obtain ⟨_, _, e1, _⟩ := hx
        subst e1 e2
        simp [Op.equalIn, run_underlying ht]
      · have e1 : xv = _ := hx
        obtain ⟨_, _, e2, _⟩ := hy
        subst e1 e2
        simp [Op.equalIn, run_underlying ht]
      · have e2 : yv = _ := hy
        obtain ⟨_, _, e1, _⟩ := hx
        subst e1 e2
        simp [Op.equalIn, run_underlying ht]
    · rename_i fs ht
      split at he
      · rename_i hst
        split at he
        · rename_i xs ys
          obtain ⟨as, e1, h1⟩ := hx
          obtain ⟨bs, e2, h2⟩ := hy
          subst e1 e2
          have hf : P.fieldsOf t = fs := by simp [Program.fieldsOf, ht]
          rw [run_equalIn_struct (P := P) w D t as bs (by rw [hf]; exact ht) hst, hf]
          exact eqFields_sim d D (by omega) ih fs.toList _ _ b as bs he (RDL.toVRL h1) (RDL.toVRL h2)
        · cases he
      · cases he
    · rename_i n e ht
      split at he
      · rename_i q xs ys hq
        obtain ⟨as, e1, h1⟩ := hx
        obtain ⟨bs, e2, h2⟩ := hy
        subst e1 e2
        obtain ⟨de, inf, _, hi, rfl⟩ := tyT_spec hq
        rw [run_equalIn_array D t e n as bs ht hi]
        exact eqElems_sim d D e hq ih n 0 _ _ b as bs he (RDL.toVRL h1) (RDL.toVRL h2)
      · cases he
    · cases he
end
end Go.AM
end
section
namespace Go.AM
open Go Go.RowKit
section
variable {P : Program} {B : Base} {h : Heap} {g : G} {w : World} {M : Muts}

theorem intArith_sim {op : BinOp} {t : TypeId} {k : IntKind} {a b : Int} {d : D} (hs : op ≠ .shl) (hs' : op ≠ .shr) (hd : intArithD op k a b = some d) :
    ∃ v', (binOp op t (.int k a) (.int k b)).run P w = .ok v' w ∧ RD w M d v' := by
  cases op <;> simp only [intArithD, reduceCtorEq, Option.some.injEq] at hd
  case add => subst hd; exact ⟨_, by rw [binOp_add]; rfl, rfl⟩
  case sub => subst hd; exact ⟨_, by rw [binOp_sub]; rfl, rfl⟩
  case mul => subst hd; exact ⟨_, by rw [binOp_mul]; rfl, rfl⟩
  case quo =>
    split at hd
    · cases hd
    · rename_i hn
      simp only [Option.some.injEq] at hd; subst hd
      exact ⟨_, by rw [binOp_quo]; simp only [Op.intDiv, if_neg hn]; rfl, rfl⟩
  case rem =>
    split at hd
    · cases hd
    · rename_i hn
      simp only [Option.some.injEq] at hd; subst hd
      exact ⟨_, by rw [binOp_rem]; simp only [Op.intDiv, if_neg hn]; rfl, rfl⟩
  case and => subst hd; exact ⟨_, by rw [binOp_and, intBits_and]; rfl, rfl⟩
  case or => subst hd; exact ⟨_, by rw [binOp_or, intBits_or]; rfl, rfl⟩
  case xor => subst hd; exact ⟨_, by rw [binOp_xor, intBits_xor]; rfl, rfl⟩
  case andNot => subst hd; exact ⟨_, by rw [binOp_andNot, intBits_andNot]; rfl, rfl⟩
  case eql => subst hd; exact ⟨_, by rw [binOp_eql]; rfl, rfl⟩
  case neq => subst hd; exact ⟨_, by rw [binOp_neq]; rfl, rfl⟩
  case lss => subst hd; exact ⟨_, by rw [binOp_lss]; rfl, rfl⟩
  case leq => subst hd; exact ⟨_, by rw [binOp_leq]; rfl, rfl⟩
  case gtr => subst hd; exact ⟨_, by rw [binOp_gtr]; rfl, rfl⟩
  case geq => subst hd; exact ⟨_, by rw [binOp_geq]; rfl, rfl⟩
theorem shift_sim {op : BinOp} {t : TypeId} {k k' : IntKind} {a b : Int} {d : D} (hs : op = .shl ∨ op = .shr) (hd : shiftD op k a b = some d) :
    ∃ v', (binOp op t (.int k a) (.int k' b)).run P w = .ok v' w ∧ RD w M d v' := by
  unfold shiftD at hd
  split at hd
  · cases hd
  · rename_i hn
    rcases hs with rfl | rfl <;> simp at hd <;> subst hd
    · exact ⟨_, by rw [binOp_shl]; simp only [Op.shift, if_neg hn]; rfl, rfl⟩
    · exact ⟨_, by rw [binOp_shr]; simp only [Op.shift, if_neg hn]; rfl, rfl⟩
theorem strOp_sim {op : BinOp} {t : TypeId} {a b : ByteArray} {d : D} (hd : strOpD op a b = some d) :
    ∃ v', (binOp op t (.string a) (.string b)).run P w = .ok v' w ∧ RD w M d v' := by
  cases op <;> simp only [strOpD, reduceCtorEq, Option.some.injEq] at hd
  case add =>
    split at hd
    · rename_i hn
      simp only [Option.some.injEq] at hd; subst hd
      refine ⟨.string (a ++ b), ?_, rfl⟩
      have : ¬ ((a.size + b.size : Nat) : Int) > IntKind.i64.max := by rw [IntKind.max_i64]; omega
      simp only [binOp, Op.stringOp, if_neg this, Sem.run_pure]
    · cases hd
  all_goals (subst hd; exact ⟨_, by simp only [binOp, Op.stringOp]; rfl, rfl⟩)

theorem run_eqGuard_skip {op : BinOp} {t : TypeId} {xo yo : Operand} {xv yv : Value} (h1 : ∀ cs ds, xv = .agg cs → yv = .agg ds → P.eqGuardType P.depth t = false)
    (h2 : xv = .nilIface → yv = .nilIface → (isConstO xo || isConstO yo) = true) : (eqGuard op t xo yo xv yv).run P w = .ok () w := by
  cases op <;> first | rfl | skip
  all_goals
    simp only [eqGuard, Bool.not_true, Bool.false_eq_true, if_false]
    split
    · have := h2 rfl rfl
      cases xo <;> cases yo <;> first | rfl | (simp [isConstO] at this)
    · rename_i cs ds
      simp [run_program, h1 cs ds rfl rfl]
    · rfl

theorem eqV_guard {c : Bool} {d : Nat} {t : TypeId} {x y : V} {b : Bool} {xv yv : Value} (he : eqV P c d t x y = some b) (hx : VR w M g x xv) (hy : VR w M g y yv)
    (hg : P.eqGuardType P.depth t = false ∨ isAggB P t = false) {xo yo : Operand} (hc : c = true → (isConstO xo || isConstO yo) = true) (op : BinOp) : (eqGuard op t xo yo xv yv).run P w = .ok () w := by
  refine run_eqGuard_skip (fun cs ds e1 e2 => ?_) (fun e1 e2 => ?_)
  · rcases hg with hg | hg
    · exact hg
    · exfalso
      subst e1 e2
      cases d with
      | zero => simp [eqV] at he
      | succ d =>
        simp only [eqV] at he
        split at he <;> first | (rename_i ht; simp [isAggB, ht] at hg; done) | skip
        all_goals first
          | (split at he <;> first | (cases he; done) | (have e1 := hx; simp [VR, RD] at e1; done) | (have e1 := hy; simp [VR, RD] at e1; done) | skip)
          | cases he
  · apply hc
    subst e1 e2
    cases d with
    | zero => simp [eqV] at he
    | succ d =>
      simp only [eqV] at he
      split at he
      all_goals first
        | (split at he <;> first | (cases he; done) | (have e1 := hx; simp [VR, RD] at e1; done) | (have e1 := hy; simp [VR, RD] at e1; done) | skip)
        | (cases he; done)
        | skip
      all_goals first
        | (split at he <;> first | (assumption) | (cases he; done) | skip)
        | skip
      all_goals (obtain ⟨_, e, _⟩ := hx; cases e)

theorem int_of_VR {k : IntKind} {n : Int} {v : Value} (hx : VR w M g (.d (.int k n)) v) : v = .int k n := hx

def plainV : Value → Bool
  | .float _ _ | .complex _ _ _ => false
  | _ => true
theorem VR.plain {x : V} {v : Value} (hx : VR w M g x v) (hn : x ≠ .unk) : plainV v = true := by
  cases x with
  | d y =>
    cases y <;> simp only [VR, RD] at hx
    case ptr => obtain ⟨_, _, rfl, _⟩ := hx; rfl
    case list => obtain ⟨_, _, rfl, _⟩ := hx; rfl
    case map => obtain ⟨_, _, _, rfl, _⟩ := hx; rfl
    case fn => obtain ⟨_, _, rfl, _⟩ := hx; rfl
    case iface => obtain ⟨_, rfl, _⟩ := hx; rfl
    case agg => obtain ⟨_, rfl, _⟩ := hx; rfl
    case tuple => obtain ⟨_, rfl, _⟩ := hx; rfl
    all_goals (subst hx; rfl)
  | ref => obtain ⟨_, rfl⟩ := hx; rfl
  | sref => obtain ⟨_, _, rfl, _⟩ := hx; rfl
  | mref => obtain ⟨_, rfl⟩ := hx; rfl
  | nils => have e : v = _ := hx; subst e; rfl
  | own => obtain ⟨_, rfl, _⟩ := hx; rfl
  | fn => obtain ⟨_, _, rfl, _⟩ := hx; rfl
  | iface => obtain ⟨_, rfl, _⟩ := hx; rfl
  | agg => obtain ⟨_, rfl, _⟩ := hx; rfl
  | tuple => obtain ⟨_, rfl, _⟩ := hx; rfl
  | yld => obtain ⟨_, rfl⟩ := hx; rfl
  | unk => exact absurd rfl hn
theorem eqV_known {c : Bool} {d : Nat} {t : TypeId} {x y : V} {b : Bool} (he : eqV P c d t x y = some b) : x ≠ .unk ∧ y ≠ .unk := by
  constructor <;> rintro rfl
  all_goals
    cases d with
    | zero => simp [eqV] at he
    | succ d =>
      simp only [eqV] at he
      split at he
      all_goals first | (cases he; done) | skip
      all_goals first | (split at he <;> first | (cases he; done) | skip) | skip
      all_goals (rename_i hh; cases hh)
theorem binOp_eql_any {t : TypeId} {xv yv : Value} (hp : plainV xv = true) (hns : ∀ a b, xv = .string a → yv = .string b → False) (hni : ∀ k a k' b, xv = .int k a → yv = .int k' b → False) :
    binOp .eql t xv yv = (do pure (.bool (← Op.equal t xv yv))) ∧ binOp .neq t xv yv = (do pure (.bool (!(← Op.equal t xv yv)))) := by
  cases xv <;> first | (simp [plainV] at hp; done) | skip
  all_goals cases yv
  all_goals first
    | exact (hns _ _ rfl rfl).elim
    | exact (hni _ _ _ _ rfl rfl).elim
    | exact ⟨rfl, rfl⟩
theorem VR.str_inv {x : V} {a : ByteArray} (hx : VR w M g x (.string a)) (hn : x ≠ .unk) : x = .d (.str a) := by
  cases x with
  | d y =>
    cases y <;> simp only [VR, RD, reduceCtorEq] at hx
    case str => simp at hx; subst hx; rfl
    all_goals (simp at hx)
  | unk => exact absurd rfl hn
  | _ => simp [VR] at hx
theorem VR.int_inv {x : V} {k : IntKind} {a : Int} (hx : VR w M g x (.int k a)) (hn : x ≠ .unk) : x = .d (.int k a) := by
  cases x with
  | d y =>
    cases y <;> simp only [VR, RD, reduceCtorEq] at hx
    case int => simp at hx; obtain ⟨rfl, rfl⟩ := hx; rfl
    all_goals (simp at hx)
  | unk => exact absurd rfl hn
  | _ => simp [VR] at hx
theorem eqOpV_sim {xo yo : Operand} {op : BinOp} {t : TypeId} {x y v : V} {xv yv : Value} (hx : VR w M g x xv) (hy : VR w M g y yv)
    (hz : eqOpV P (isConstO xo || isConstO yo) op t x y = some v) (hns : ∀ a b, xv = .string a → yv = .string b → False) (hni : ∀ k a k' b, xv = .int k a → yv = .int k' b → False) :
    ∃ v', (do eqGuard op t xo yo xv yv; binOp op t xv yv : Sem Value).run P w = .ok v' w ∧ VR w M g v v' := by
  cases op <;> simp only [eqOpV, reduceCtorEq] at hz
  all_goals
    split at hz
    · rename_i hg
      cases he : eqV P (isConstO xo || isConstO yo) 50 t x y with
      | none => rw [he] at hz; cases hz
      | some b =>
        rw [he] at hz; simp only [Option.map_some, Option.some.injEq] at hz; subst hz
        have hr : (Op.equal t xv yv).run P w = .ok b w := eqV_sim (P := P) (w := w) _ 50 t x y b xv yv Op.maxDepth (by decide) he hx hy
        have hb := binOp_eql_any (t := t) (VR.plain hx (eqV_known he).1) hns hni
        refine ⟨_, ?_, rfl⟩
        simp only [Sem.run_bind, eqV_guard he hx hy hg (fun h => h) _, Result.andThen_ok, hb.1, hb.2, hr, Sem.run_pure]
    · cases hz
theorem eqOpV_known {c : Bool} {op : BinOp} {t : TypeId} {x y v : V} (hz : eqOpV P c op t x y = some v) : x ≠ .unk ∧ y ≠ .unk := by
  cases op <;> simp only [eqOpV, reduceCtorEq] at hz
  all_goals
    split at hz
    · cases he : eqV P c 50 t x y with
      | none => rw [he] at hz; cases hz
      | some b => exact eqV_known he
    · cases hz
theorem intOp_sim {op : BinOp} {t : TypeId} {k k' : IntKind} {a b : Int} {d : D} (hd : intOpD op k k' a b = some d) :
    ∃ v', (binOp op t (.int k a) (.int k' b)).run P w = .ok v' w ∧ RD w M d v' := by
  unfold intOpD at hd
  split at hd
  · exact shift_sim (.inl rfl) hd
  · exact shift_sim (.inr rfl) hd
  · rename_i h1 h2
    split at hd
    · rename_i hk
      subst hk
      exact intArith_sim (fun e => h1 e) (fun e => h2 e) hd
    · cases hd
theorem binV_sim {xo yo : Operand} {op : BinOp} {t : TypeId} {x y v : V} {xv yv : Value} (hx : VR w M g x xv) (hy : VR w M g y yv)
    (hv : binV P (isConstO xo || isConstO yo) op t x y = some v) : ∃ v', (do eqGuard op t xo yo xv yv; binOp op t xv yv : Sem Value).run P w = .ok v' w ∧ VR w M g v v' := by
  unfold binV at hv
  split at hv
  · rename_i k a k' b
    have e1 := int_of_VR hx
    have e2 := int_of_VR hy
    subst e1 e2
    have hgd : (eqGuard op t xo yo (.int k a) (.int k' b)).run P w = .ok () w := by rw [eqGuard_at_int]; rfl
    simp only [Sem.run_bind, hgd, Result.andThen_ok]
    cases hd : intOpD op k k' a b with
    | none => rw [hd] at hv; cases hv
    | some d =>
      rw [hd] at hv; simp at hv; subst hv
      exact intOp_sim hd
  · rename_i a b
    have e1 : xv = .string a := hx
    have e2 : yv = .string b := hy
    subst e1 e2
    have hgd : (eqGuard op t xo yo (.string a) (.string b)).run P w = .ok () w := by rw [eqGuard_at_string]; rfl
    simp only [Sem.run_bind, hgd, Result.andThen_ok]
    cases hd : strOpD op a b with
    | none => rw [hd] at hv; cases hv
    | some d =>
      rw [hd] at hv; simp at hv; subst hv
      exact strOp_sim hd
  · rename_i h1 h2
    have hk := eqOpV_known hv
    refine eqOpV_sim hx hy hv (fun a b e1 e2 => ?_) (fun k a k' b e1 e2 => ?_)
    · subst e1 e2
      exact h2 a b (VR.str_inv hx hk.1) (VR.str_inv hy hk.2)
    · subst e1 e2
      exact h1 k a k' b (VR.int_inv hx hk.1) (VR.int_inv hy hk.2)
end
end Go.AM
end
section
namespace Go.AM
open Go Go.RowKit
section
variable {P : Program} {B : Base} {h : Heap} {g : G} {w : World} {M : Muts}

theorem unV_sim {op : UnOp} {x v : V} {xv : Value} (hx : VR w M g x xv) (hv : unV op x = some v) : ∃ v', (Op.unary op xv).run P w = .ok v' w ∧ VR w M g v v' := by
  unfold unV at hv
  split at hv
  · rename_i b
    have e : xv = .bool b := hx
    subst e
    split at hv
    · simp at hv; subst hv; exact ⟨_, rfl, rfl⟩
    · cases hv
  · rename_i k n
    have e : xv = .int k n := hx
    subst e
    split at hv
    · simp only [Option.some.injEq] at hv; subst hv; exact ⟨_, rfl, rfl⟩
    · simp only [Option.some.injEq] at hv; subst hv; exact ⟨_, by simp only [Op.unary, intBits_xor]; rfl, rfl⟩
    · cases hv
  · cases hv
theorem nilCheck_sim {ρ : Operand → Value} {o : Oper} {xo : Operand} (ho : o.op = .nilCheck xo) {x v : V} (hx : VR w M g x (ρ xo)) (hv : nilCheckV x = some v) :
    (execOp ρ o).run P w = .ok (.value (ρ xo)) w ∧ v = x := by
  unfold execOp
  simp only [ho]
  generalize ρ xo = xv at hx ⊢
  cases x with
  | d y =>
    cases y <;> simp only [nilCheckV, reduceCtorEq, Option.some.injEq] at hv <;> subst hv <;> refine ⟨?_, rfl⟩ <;> simp only [VR, RD] at hx
    case ptr => obtain ⟨_, _, rfl, _⟩ := hx; rfl
    case list => obtain ⟨_, _, rfl, _⟩ := hx; rfl
    case map => obtain ⟨_, _, _, rfl, _⟩ := hx; rfl
    case fn => obtain ⟨_, _, rfl, _⟩ := hx; rfl
    case agg => obtain ⟨_, rfl, _⟩ := hx; rfl
    case tuple => obtain ⟨_, rfl, _⟩ := hx; rfl
    all_goals (subst hx; rfl)
  | unk => simp [nilCheckV] at hv
  | ref => simp only [nilCheckV, Option.some.injEq] at hv; subst hv; obtain ⟨_, rfl⟩ := hx; exact ⟨rfl, rfl⟩
  | sref => simp only [nilCheckV, Option.some.injEq] at hv; subst hv; obtain ⟨_, _, rfl, _⟩ := hx; exact ⟨rfl, rfl⟩
  | mref => simp only [nilCheckV, Option.some.injEq] at hv; subst hv; obtain ⟨_, rfl⟩ := hx; exact ⟨rfl, rfl⟩
  | yld => simp only [nilCheckV, Option.some.injEq] at hv; subst hv; obtain ⟨_, rfl⟩ := hx; exact ⟨rfl, rfl⟩
  | nils => simp only [nilCheckV, Option.some.injEq] at hv; subst hv; have e : xv = _ := hx; subst e; exact ⟨rfl, rfl⟩
  | own => simp only [nilCheckV, Option.some.injEq] at hv; subst hv; obtain ⟨_, rfl, _⟩ := hx; exact ⟨rfl, rfl⟩
  | fn => simp only [nilCheckV, Option.some.injEq] at hv; subst hv; obtain ⟨_, _, rfl, _⟩ := hx; exact ⟨rfl, rfl⟩
  | iface => simp only [nilCheckV, Option.some.injEq] at hv; subst hv; obtain ⟨_, rfl, _⟩ := hx; exact ⟨rfl, rfl⟩
  | agg => simp only [nilCheckV, Option.some.injEq] at hv; subst hv; obtain ⟨_, rfl, _⟩ := hx; exact ⟨rfl, rfl⟩
  | tuple => simp only [nilCheckV, Option.some.injEq] at hv; subst hv; obtain ⟨_, rfl, _⟩ := hx; exact ⟨rfl, rfl⟩

theorem iface_sim {t : TypeId} {d : TypeDesc} (ht : P.underlying t = some d) (hd : ∀ ms, d ≠ .interface ms) {x v : V} {xv : Value} (hx : VR w M g x xv) (hv : mkIface t x = some v) :
    ∃ v', (Instr.makeInterface t xv).run P w = .ok v' w ∧ VR w M g v v' := by
  refine ⟨.iface t xv, ?_, ?_⟩
  · simp only [Instr.makeInterface, Sem.run_bind, run_underlying ht, Result.andThen_ok]
    cases d <;> first | rfl | exact absurd rfl (hd _)
  · cases x with
    | d y => simp only [mkIface, Option.some.injEq] at hv; subst hv; exact ⟨xv, rfl, hx⟩
    | unk => simp [mkIface] at hv
    | _ => simp only [mkIface, Option.some.injEq] at hv; subst hv; exact ⟨xv, rfl, hx⟩
theorem fn_sim {f : FuncId} {a c : List V} {av cv : Array Value} (ha : VRL w M g a av.toList) (hc : VRL w M g c cv.toList) : VR w M g (mkFn f a c) (.func (.func f) av cv) := by
  unfold mkFn
  split
  · rename_i x y h1 h2
    rw [allD'_eq h1] at ha
    rw [allD'_eq h2] at hc
    exact ⟨av, cv, rfl, VRL.toRDL ha, VRL.toRDL hc⟩
  · exact ⟨av, cv, rfl, ha, hc⟩

/-! lengths -/
theorem lenV_sim (I : Inv B h g w) {t ty : TypeId} {d : TypeDesc} (ht : P.underlying t = some d) {x v : V} {xv : Value}
    (hx : VR w (Mut B.M0 h g) g x xv) (hv : lenV d x h = some v) : ∃ v', (Builtin.len_ #[t] ty #[xv]).run P w = .ok v' w ∧ VR w (Mut B.M0 h g) g v v' := by
  unfold lenV at hv
  split at hv
  · split at hv
    · rename_i s
      have e : xv = .string s := hx
      subst e
      simp only [Option.some.injEq] at hv; subst hv
      exact ⟨_, by simp [Builtin.len_, run_underlying ht]; rfl, rfl⟩
    · cases hv
  · simp only [Option.some.injEq] at hv; subst hv
    exact ⟨_, by simp [Builtin.len_, run_underlying ht]; rfl, rfl⟩
  · split at hv
    · obtain ⟨_, c, rfl, _⟩ := hx
      simp only [Option.some.injEq] at hv; subst hv
      exact ⟨_, by simp [Builtin.len_, run_underlying ht]; rfl, rfl⟩
    · cases hr : rowsOf x with
      | none => rw [hr] at hv; cases hv
      | some rows =>
        rw [hr] at hv; simp only [Option.map_some, Option.some.injEq] at hv; subst hv
        obtain ⟨a, cap, rfl, _⟩ := rowsOf_sim hx hr
        exact ⟨_, by simp [Builtin.len_, run_underlying ht]; rfl, rfl⟩
  · split at hv
    · have e : xv = .map none := hx
      subst e
      simp only [Option.some.injEq] at hv; subst hv
      exact ⟨_, by simp [Builtin.len_, run_underlying ht]; rfl, rfl⟩
    · rename_i ks vs
      obtain ⟨r, es, c, rfl, _, hr, _, hk, _⟩ := hx
      simp only [Option.some.injEq] at hv; subst hv
      have hl := RDL.length hk
      simp at hl
      exact ⟨.int .i64 es.size, by simp [Builtin.len_, run_underlying ht, getObj, Sem.run, hr, goInt], by rw [← hl]; rfl⟩
    · rename_i b
      obtain ⟨_, rfl⟩ := hx
      have hb := I.blk b
      cases hblk : h.blk b with
      | map ks vs =>
        rw [hblk] at hv hb
        simp only [Option.some.injEq] at hv; subst hv
        obtain ⟨_, _, es, c, hr, _, hk, _⟩ := hb
        have hl := RDL.length hk
        simp at hl
        exact ⟨.int .i64 es.size, by simp [Builtin.len_, run_underlying ht, getObj, Sem.run, hr, goInt], by rw [← hl]; rfl⟩
      | _ => rw [hblk] at hv; simp at hv
    · cases hv
  · cases hv

theorem max2_sim {a b d : D} {x y : Value} (ha : RD w M a x) (hb : RD w M b y) (hd : max2D a b = some d) : ∃ v', (Builtin.max2 x y).run P w = .ok v' w ∧ RD w M d v' := by
  unfold max2D at hd
  split at hd
  · rename_i k n k' m
    have e1 : x = .int k n := ha
    have e2 : y = .int k' m := hb
    subst e1 e2
    simp only [Option.some.injEq] at hd; subst hd
    exact ⟨_, rfl, rfl⟩
  · cases hd
theorem min2_sim {a b d : D} {x y : Value} (ha : RD w M a x) (hb : RD w M b y) (hd : min2D a b = some d) : ∃ v', (Builtin.min2 x y).run P w = .ok v' w ∧ RD w M d v' := by
  unfold min2D at hd
  split at hd
  · rename_i k n k' m
    have e1 : x = .int k n := ha
    have e2 : y = .int k' m := hb
    subst e1 e2
    simp only [Option.some.injEq] at hd; subst hd
    exact ⟨_, rfl, rfl⟩
  · cases hd
theorem foldM_sim {gd : D → D → Option D} {gv : Value → Value → Sem Value} (hg : ∀ a b d x y, RD w M a x → RD w M b y → gd a b = some d → ∃ v', (gv x y).run P w = .ok v' w ∧ RD w M d v') :
    ∀ (us : List V) (vs : List Value) (a d : D) (x : Value), VRL w M g us vs → RD w M a x →
      us.foldlM (stepD gd) a = some d → ∃ v', (vs.foldlM gv x).run P w = .ok v' w ∧ RD w M d v'
  | [], vs, a, d, x, hu, ha, hf => by
    have e : vs = [] := hu
    subst e
    simp at hf; subst hf
    exact ⟨x, rfl, ha⟩
  | u :: us, vs, a, d, x, hu, ha, hf => by
    obtain ⟨y, ys, rfl, h1, h2⟩ := hu
    simp only [List.foldlM_cons] at hf
    cases u with
    | d z =>
      simp only [Option.bind_eq_bind, stepD] at hf
      cases hz : gd a z with
      | none => rw [hz] at hf; cases hf
      | some a' =>
        rw [hz] at hf
        obtain ⟨y', h3, h4⟩ := hg a z a' x y ha h1 hz
        obtain ⟨v', h5, h6⟩ := foldM_sim hg us ys a' d y' h2 h4 hf
        exact ⟨v', by simp only [List.foldlM_cons, Sem.run_bind, h3, Result.andThen_ok]; exact h5, h6⟩
    | _ => simp [stepD] at hf
theorem foldD_sim {gd : D → D → Option D} {gv : Value → Value → Sem Value} (hg : ∀ a b d x y, RD w M a x → RD w M b y → gd a b = some d → ∃ v', (gv x y).run P w = .ok v' w ∧ RD w M d v')
    {us : List V} {vs : List Value} {v : V} (hu : VRL w M g us vs) (hf : foldD gd us = some v) :
    ∃ x rest v', vs = x :: rest ∧ (rest.foldlM gv x).run P w = .ok v' w ∧ VR w M g v v' := by
  unfold foldD at hf
  split at hf
  · rename_i x rest
    obtain ⟨y, ys, rfl, h1, h2⟩ := hu
    cases hd : rest.foldlM (stepD gd) x with
    | none => rw [hd] at hf; cases hf
    | some d =>
      rw [hd] at hf; simp only [Option.map_some, Option.some.injEq] at hf; subst hf
      obtain ⟨v', h3, h4⟩ := foldM_sim hg rest ys x d y h2 h1 hd
      exact ⟨y, ys, v', rfl, h3, h4⟩
  · cases hf

/-! maps read -/
theorem keyEq_sim {kd : TypeDesc} {k x : D} {kv xv : Value} {b : Bool} (ht : keyKind kd k = true)
    (hk : RD w M k kv) (hx : RD w M x xv) (he : keyEq k x = some b) : Instr.sameNow kd kv xv = some b := by
  unfold keyEq at he
  split at he
  · rename_i k1 a k2 c
    have e1 : kv = .int k1 a := hk
    have e2 : xv = .int k2 c := hx
    subst e1 e2
    split at he
    · rename_i hkk
      subst hkk
      simp only [Option.some.injEq] at he; subst he
      cases kd <;> simp [keyKind] at ht
      simp [Instr.sameNow]
    · cases he
  · rename_i a c
    have e1 : kv = .string a := hk
    have e2 : xv = .string c := hx
    subst e1 e2
    simp only [Option.some.injEq] at he; subst he
    cases kd <;> simp [keyKind] at ht
    simp [Instr.sameNow]
  · rename_i a c
    have e1 : kv = .bool a := hk
    have e2 : xv = .bool c := hx
    subst e1 e2
    simp only [Option.some.injEq] at he; subst he
    cases kd <;> simp [keyKind] at ht
    simp [Instr.sameNow]
  · cases he
theorem findK_sim {kd : TypeDesc} {k : D} {kv : Value} (ht : keyKind kd k = true) (hk : RD w M k kv) :
    ∀ (ks : List D) (es : List MapEntry) (i : Nat) (r : Option Nat), RDL w M ks (es.map MapEntry.key) → findK k ks i = some r →
      (∀ j, r = some j → i ≤ j ∧ j < i + es.length) ∧ Instr.findNow kd kv es i = some (r.bind fun j => (es[j - i]?).map fun e => (j, e.val))
  | [], es, i, r, hks, hf => by
    have e : es = [] := by have : es.map MapEntry.key = [] := hks; simpa using this
    subst e
    simp [findK] at hf; subst hf
    exact ⟨(fun j hj => by cases hj), rfl⟩
  | x :: ks, es, i, r, hks, hf => by
    obtain ⟨kv', vs', e, h1, h2⟩ := hks
    cases es with
    | nil => simp at e
    | cons en es =>
      simp only [List.map_cons, List.cons.injEq] at e
      obtain ⟨rfl, rfl⟩ := e
      simp only [findK] at hf
      split at hf
      · rename_i hq
        simp only [Option.some.injEq] at hf; subst hf
        refine ⟨fun j hj => ?_, ?_⟩
        · simp at hj; subst hj; simp
        · simp [Instr.findNow, keyEq_sim ht hk h1 hq]
      · rename_i hq
        obtain ⟨h3, h4⟩ := findK_sim ht hk ks es (i + 1) r h2 hf
        refine ⟨fun j hj => ?_, ?_⟩
        · have := h3 j hj; simp; omega
        · simp only [Instr.findNow, keyEq_sim ht hk h1 hq, h4]
          cases r with
          | none => rfl
          | some j =>
            have := h3 j rfl
            simp only [Option.bind_some]
            rw [show j - i = (j - (i + 1)) + 1 from by omega]
            simp
      · cases hf
theorem keyTyped_spec {kt : TypeId} {k : D} (h : keyTyped P kt k = true) : ∃ kd, P.underlying kt = some kd ∧ keyKind kd k = true := by
  unfold keyTyped at h
  cases hu : P.underlying kt with
  | none => rw [hu] at h; simp at h
  | some kd =>
    rw [hu] at h
    exact ⟨kd, rfl, h⟩
theorem run_checkKey {kt : TypeId} {kd : TypeDesc} {k : D} {kv : Value} (hu : P.underlying kt = some kd) (ht : keyKind kd k = true)
    (hk : RD w M k kv) (e : Bool) (n : Nat) : (Instr.checkKey e (n + 1) kt kv).run P w = .ok () w := by
  simp only [Instr.checkKey, Sem.run_bind, run_underlying hu, Result.andThen_ok]
  cases kd <;> cases k <;> simp [keyKind] at ht
  all_goals (simp only [RD] at hk; subst hk; rfl)
theorem run_findKey {kt : TypeId} {kd : TypeDesc} {kv : Value} {es : List MapEntry} {r : Option (Nat × Value)} (hu : P.underlying kt = some kd) (hf : Instr.findNow kd kv es 0 = some r) :
    (Instr.findKey kt kv es).run P w = .ok r w := by
  simp only [Instr.findKey, Sem.run_bind, run_underlying hu, Result.andThen_ok, hf, Sem.run_pure]
end
end Go.AM
end
section
namespace Go.AM
open Go Go.RowKit
section
variable {P : Program} {B : Base} {h : Heap} {g : G} {w : World} {M : Muts}

theorem ofCell_sim {v : Value} {x : V} (hx : ofCell v = some x) : VR w M g x v := by
  unfold ofCell at hx
  split at hx <;> first | (simp only [Option.some.injEq] at hx; subst hx; rfl) | cases hx
theorem ofCells_sim : ∀ {vs : List Value} {xs : List V}, ofCells vs = some xs → VRL w M g xs vs
  | [], xs, hx => by simp [ofCells] at hx; subst hx; rfl
  | v :: vs, xs, hx => by
    simp only [ofCells] at hx
    split at hx
    · rename_i y ys h1 h2
      simp only [Option.some.injEq] at hx; subst hx
      exact ⟨v, vs, rfl, ofCell_sim h1, ofCells_sim h2⟩
    · cases hx
theorem ofValue_sim {v : Value} {x : V} (hx : ofValue v = some x) : VR w M g x v := by
  unfold ofValue at hx
  split at hx
  · rename_i cs
    cases hc : ofCells cs.toList with
    | none => rw [hc] at hx; cases hx
    | some xs =>
      rw [hc] at hx; simp only [Option.map_some, Option.some.injEq] at hx; subst hx
      exact VR_mkAgg (ofCells_sim hc)
  · rename_i vs
    split at hx
    · rename_i hs
      simp only [Option.some.injEq] at hx; subst hx
      exact ⟨vs, rfl, by have : vs = #[] := Array.eq_empty_of_size_eq_zero hs; subst this; rfl⟩
    · cases hx
  · exact ofCell_sim hx
theorem zeroT_spec {t : TypeId} {z : V} (hz : zeroT P t = some z) : ∃ i zv, P.info? t = some i ∧ i.zero = some zv ∧ VR w M g z zv := by
  unfold zeroT at hz
  cases hi : P.info? t with
  | none => rw [hi] at hz; cases hz
  | some i =>
    rw [hi] at hz
    cases hzv : i.zero with
    | none => simp [hzv] at hz
    | some zv =>
      simp only [Option.bind_some, hzv] at hz
      cases ho : ofValue zv with
      | none => rw [ho] at hz; cases hz
      | some y =>
        rw [ho] at hz
        simp only [Option.bind_some] at hz
        split at hz
        · simp only [Option.some.injEq] at hz; subst hz
          exact ⟨i, zv, rfl, hzv, ofValue_sim ho⟩
        · cases hz
theorem zeroT_scalar {t : TypeId} {z : V} (hz : zeroT P t = some z) : z.cells.all V.scalar = true := by
  unfold zeroT at hz
  cases h1 : ((P.info? t).bind (·.zero)).bind ofValue with
  | none => rw [h1] at hz; cases hz
  | some y =>
    rw [h1] at hz
    simp only [Option.bind_some] at hz
    split at hz
    · rename_i hs
      simp only [Option.some.injEq] at hz; subst hz; exact hs
    · cases hz
theorem run_zeroValue {t : TypeId} {i : TypeInfo} {zv : Value} (hi : P.info? t = some i) (hz : i.zero = some zv) : (zeroValue t).run P w = .ok zv w := by
  simp [zeroValue, typeInfo, hi, hz]

def FoundR (w : World) (M : Muts) (g : G) : Option V → Option (Nat × Value) → Prop
  | none, none => True
  | some v, some p => VR w M g v p.2
  | _, _ => False
theorem found_sim {kd : TypeDesc} {k : D} {kv : Value} (ht : keyKind kd k = true) (hk : RD w M k kv)
    {ks : List D} {vs : List V} {es : Array MapEntry} (h1 : RDL w M ks (es.toList.map MapEntry.key)) (h2 : VRL w M g vs (es.toList.map MapEntry.val)) {r : Option V}
    (hf : (findK k ks 0).map (fun i => i.bind fun i => vs[i]?) = some r) :
    ∃ r', Instr.findNow kd kv es.toList 0 = some r' ∧ FoundR w M g r r' := by
  cases hq : findK k ks 0 with
  | none => rw [hq] at hf; cases hf
  | some q =>
    rw [hq] at hf; simp only [Option.map_some, Option.some.injEq] at hf
    obtain ⟨h3, h4⟩ := findK_sim ht hk ks es.toList 0 q h1 hq
    refine ⟨_, h4, ?_⟩
    cases q with
    | none => simp only [Option.bind_none] at hf ⊢; subst hf; trivial
    | some j =>
      have hj := h3 j rfl
      simp only [Option.bind_some] at hf ⊢
      have hlen : j < es.toList.length := by omega
      have hl2 := VRL.length h2
      simp only [List.length_map] at hl2
      have hv : j < vs.length := by omega
      have e1 : vs[j]? = some vs[j] := List.getElem?_eq_getElem hv
      rw [e1] at hf; subst hf
      obtain ⟨v', h5, h6⟩ := VRL.get h2 j _ e1
      have e2 : es.toList[j]? = some es.toList[j] := List.getElem?_eq_getElem hlen
      rw [List.getElem?_map, e2] at h5
      simp only [Option.map_some, Option.some.injEq] at h5
      simp only [Nat.sub_zero, e2, Option.map_some, FoundR]
      rw [h5]; exact h6
/-- the model's lookup behind the reading of the map -/
def lookTail (key elem : TypeId) (es : Array MapEntry) (index : Value) (commaOk : Bool) : Sem Value := do
  Instr.checkKey es.isEmpty 10000 key index
  let (v, ok) ← match ← Instr.findKey key index es.toList with
    | some (_, v) => pure (v, true)
    | none => pure (← zeroValue elem, false)
  pure (if commaOk then .tuple #[v, .bool ok] else v)
theorem run_lookup_none {t kt e : TypeId} {kv : Value} {ok : Bool} (hu : P.underlying t = some (.map kt e)) : (Instr.lookup t (.map none) kv ok).run P w = (lookTail kt e #[] kv ok).run P w := by
  simp only [Instr.lookup, lookTail, Sem.run_bind, run_underlying hu, Result.andThen_ok, Sem.run_pure]
  congr 1
theorem run_lookup_some {t kt e : TypeId} {kv : Value} {ok : Bool} {r : Nat} {es : Array MapEntry} {c : Nat} (hu : P.underlying t = some (.map kt e)) (hr : w.heap[r]? = some (.map es c)) :
    (Instr.lookup t (.map (some r)) kv ok).run P w = (lookTail kt e es kv ok).run P w := by
  have hg : (getObj r).run P w = .ok (.map es c) w := by simp [getObj, Sem.run, hr]
  simp only [Instr.lookup, lookTail, Sem.run_bind, run_underlying hu, Result.andThen_ok, Sem.run_pure, hg]
  congr 1
theorem lookTail_sim {kt e : TypeId} {kd : TypeDesc} (hkd : P.underlying kt = some kd) {k : D} {kv : Value} (ht : keyKind kd k = true) (hk : RD w M k kv) {es : Array MapEntry} {ok : Bool}
    {r : Option V} {r' : Option (Nat × Value)} (h1 : Instr.findNow kd kv es.toList 0 = some r') (h2 : FoundR w M g r r') {v : V} (hv : lookRes ok r (zeroT P e) = some v) :
    ∃ v', (lookTail kt e es kv ok).run P w = .ok v' w ∧ VR w M g v v' := by
  simp only [lookTail, Sem.run_bind, run_checkKey hkd ht hk, run_findKey hkd h1, Result.andThen_ok]
  cases r with
  | none =>
    cases r' with
    | some _ => exact h2.elim
    | none =>
      simp only [lookRes] at hv
      cases hz : zeroT P e with
      | none => rw [hz] at hv; cases hv
      | some z =>
        rw [hz] at hv; simp only [Option.map_some, Option.some.injEq] at hv
        obtain ⟨i, zv, hi, hzv, hzr⟩ := zeroT_spec (w := w) (M := M) (g := g) hz
        simp only [Sem.run_bind, run_zeroValue hi hzv, Result.andThen_ok, Sem.run_pure]
        refine ⟨_, rfl, ?_⟩
        cases ok
        · simp at hv; subst hv; exact hzr
        · simp at hv; subst hv; exact VR_mkTuple ⟨zv, [.bool false], rfl, hzr, _, _, rfl, rfl, rfl⟩
  | some y =>
    cases r' with
    | none => exact h2.elim
    | some p =>
      obtain ⟨j, pv⟩ := p
      simp only [lookRes, Option.some.injEq] at hv
      refine ⟨_, rfl, ?_⟩
      cases ok
      · simp at hv; subst hv; exact h2
      · simp at hv; subst hv; exact VR_mkTuple ⟨pv, [.bool true], rfl, h2, _, _, rfl, rfl, rfl⟩
theorem lookup_sim (I : Inv B h g w) {t : TypeId} {ok : Bool} {m k v : V} {mv kv : Value} (hm : VR w (Mut B.M0 h g) g m mv) (hk : VR w (Mut B.M0 h g) g k kv)
    (hv : lookupV P t ok m k h = some v) : ∃ v', (Instr.lookup t mv kv ok).run P w = .ok v' w ∧ VR w (Mut B.M0 h g) g v v' := by
  unfold lookupV at hv
  split at hv
  · rename_i kt e kk hu
    split at hv
    · rename_i hty
      obtain ⟨kd, hkd, ht⟩ := keyTyped_spec hty
      cases hf : foundV kk m h with
      | none => rw [hf] at hv; cases hv
      | some r =>
        rw [hf] at hv
        simp only [Option.bind_some] at hv
        unfold foundV at hf
        split at hf
        · have e1 : mv = .map none := hm
          subst e1
          simp only [Option.some.injEq] at hf; subst hf
          rw [run_lookup_none hu]
          exact lookTail_sim hkd ht hk (r := none) (r' := none) rfl trivial hv
        · rename_i ks vs
          obtain ⟨rr, es, c, rfl, _, hr, _, h1, h2⟩ := hm
          split at hf
          · obtain ⟨r', h3, h4⟩ := found_sim (g := g) ht hk h1 (RDL.toVRL h2) (r := r) (by
              rw [← hf]; congr 1; funext i; cases i <;> simp)
            rw [run_lookup_some hu hr]
            exact lookTail_sim hkd ht hk h3 h4 hv
          · cases hf
        · rename_i b
          obtain ⟨_, rfl⟩ := hm
          have hb := I.blk b
          cases hblk : h.blk b with
          | map ks vs =>
            rw [hblk] at hf hb
            obtain ⟨_, _, es, c, hr, _, h1, h2⟩ := hb
            simp only at hf
            split at hf
            · obtain ⟨r', h3, h4⟩ := found_sim ht hk h1 h2 hf
              rw [run_lookup_some hu hr]
              exact lookTail_sim hkd ht hk h3 h4 hv
            · cases hf
          | _ => rw [hblk] at hf; cases hf
        · cases hf
    · cases hv
  · cases hv
end
end Go.AM
end
section
namespace Go.AM
open Go Go.RowKit
section
variable {P : Program} {B : Base} {h : Heap} {g : G} {w : World} {M : Muts}

def VRo (w : World) (M : Muts) (g : G) : Option V → Option Value → Prop
  | none, none => True
  | some x, some v => VR w M g x v
  | _, _ => False
theorem bound_sim {x : V} {v : Value} {n d y : Nat} {code : BoundsCode} (hx : VR w M g x v) (hb : boundO (some x) d = some n) (hn : n ≤ y) :
    (Instr.sliceBound v y code).run P w = .ok n w := by
  cases x with
  | d z =>
    cases z with
    | int k i =>
      have e : v = .int k i := hx
      subst e
      simp only [boundO] at hb
      split at hb
      · rename_i h0
        simp only [Option.some.injEq] at hb; subst hb
        have hc : 0 ≤ i ∧ i ≤ (y : Int) := ⟨h0, by omega⟩
        simp only [Instr.sliceBound, asIntOf, Sem.run_bind, Sem.run_pure, Result.andThen_ok, if_pos hc]
      · cases hb
    | _ => simp [boundO] at hb
  | _ => simp [boundO] at hb
theorem bounds_sim {isS : Bool} {len cap n l : Nat} {lo hi : Option V} {lov hiv : Option Value} (hlo : VRo w M g lo lov) (hhi : VRo w M g hi hiv) (h1 : boundO hi len = some n) (h2 : boundO lo 0 = some l)
    (hl : l ≤ n) (hn : n ≤ len) (hc : len ≤ cap) : (Instr.sliceBounds isS len cap lov hiv none).run P w = .ok (l, n, cap) w := by
  have e1 : (match hiv with | some v => Instr.sliceBound v cap (if isS then .sliceAcap else .sliceAlen) | none => pure len : Sem Nat).run P w = .ok n w := by
    cases hi with
    | none =>
      cases hiv with
      | none => simp [boundO] at h1; subst h1; rfl
      | some _ => exact hhi.elim
    | some x =>
      cases hiv with
      | none => exact hhi.elim
      | some v => exact bound_sim hhi h1 (by omega)
  have e2 : (match lov with | some v => Instr.sliceBound v n .sliceB | none => pure 0 : Sem Nat).run P w = .ok l w := by
    cases lo with
    | none =>
      cases lov with
      | none => simp [boundO] at h2; subst h2; rfl
      | some _ => exact hlo.elim
    | some x =>
      cases lov with
      | none => exact hlo.elim
      | some v => exact bound_sim hlo h2 hl
  cases hiv <;> cases lov <;> simp only [Instr.sliceBounds, Sem.run_bind, Sem.run_pure, Result.andThen_ok] at e1 e2 ⊢ <;> first
    | (simp only [Result.ok.injEq, and_true] at e1 e2; subst e1 e2; rfl)
    | (simp only [Result.ok.injEq, and_true] at e1; subst e1; simp [e2])
    | (simp only [Result.ok.injEq, and_true] at e2; subst e2; simp [e1])
    | simp [e1, e2]

theorem RowsAt.drop : ∀ {rs : List (List D)} {b o sz : Nat} (n : Nat), RowsAt w M rs b o sz → RowsAt w M (rs.drop n) b (o + n * sz) sz
  | rs, b, o, sz, 0, hA => by simpa using hA
  | [], b, o, sz, n + 1, _ => by simp [RowsAt]
  | r :: rs, b, o, sz, n + 1, hA => by
    obtain ⟨_, _, h3⟩ := hA
    rw [show o + (n + 1) * sz = o + sz + n * sz from by rw [Nat.add_mul]; omega]
    simpa using RowsAt.drop n h3
theorem RowsAt.take : ∀ {rs : List (List D)} {b o sz : Nat} (n : Nat), RowsAt w M rs b o sz → RowsAt w M (rs.take n) b o sz
  | rs, b, o, sz, 0, _ => by simp [RowsAt]
  | [], b, o, sz, n + 1, _ => by simp [RowsAt]
  | r :: rs, b, o, sz, n + 1, hA => by
    obtain ⟨h1, h2, h3⟩ := hA
    exact ⟨h1, h2, RowsAt.take n h3⟩
theorem RowsAt.head {rs : List (List D)} {b o sz z : Nat} (hA : RowsAt w M rs b o sz) (hh : headLen z rs = true) (hn : rs ≠ []) : sz = z := by
  cases rs with
  | nil => exact absurd rfl hn
  | cons r rs =>
    obtain ⟨h1, _, _⟩ := hA
    simp [headLen] at hh
    omega

theorem run_sliceAt_slice {t e : TypeId} {a : Option Addr} {len cap l n : Nat} {lov hiv : Option Value} (ht : P.underlying t = some (.slice e)) {i : TypeInfo} (hi : P.info? e = some i)
    (hb : (Instr.sliceBounds true len cap lov hiv none).run P w = .ok (l, n, cap) w) :
    (Instr.sliceAt t (.slice a len cap) lov hiv none).run P w = .ok (.slice (if cap = l then a else a.map (·.add (l * i.size))) (n - l) (cap - l)) w := by
  simp only [Instr.sliceAt, Sem.run_bind, run_underlying ht, Result.andThen_ok, Instr.slice, hb, run_sizeOf hi, Sem.run_pure]
theorem sliceV_sim {t : TypeId} {x v : V} {lo hi mx : Option V} {xv : Value} {lov hiv mxv : Option Value} (hx : VR w M g x xv) (hlo : VRo w M g lo lov) (hhi : VRo w M g hi hiv) (hmx : VRo w M g mx mxv)
    (hv : sliceV P t x lo hi mx = some v) : ∃ v', (Instr.sliceAt t xv lov hiv mxv).run P w = .ok v' w ∧ VR w M g v v' := by
  unfold sliceV at hv
  cases mx with
  | some _ => simp at hv
  | none =>
    cases mxv with
    | some _ => exact hmx.elim
    | none =>
      simp only at hv
      split at hv
      · rename_i s ht
        split at hv
        · rename_i n h1
          split at hv
          · rename_i l h2
            split at hv
            · rename_i hc
              simp only [Option.some.injEq] at hv; subst hv
              have e : xv = .string s := hx
              subst e
              refine ⟨.string (s.extract l n), ?_, rfl⟩
              have hb := bounds_sim (P := P) (isS := false) (cap := s.size) hlo hhi h1 h2 hc.1 hc.2 (Nat.le_refl _)
              simp only [Instr.sliceAt, Sem.run_bind, run_underlying ht, Result.andThen_ok, Instr.slice, Option.isSome_none, Bool.false_eq_true, if_false, Sem.run_pure, hb]
            · cases hv
          · cases hv
        · cases hv
      · rename_i e b off len sz ht
        split at hv
        · rename_i n l z h1 h2 h3
          split at hv
          · rename_i hc
            obtain ⟨hd, cap, rfl, hcap⟩ := hx
            obtain ⟨i, hi', hz⟩ := sizeT_spec h3
            have hb := bounds_sim (P := P) (isS := true) (cap := cap) hlo hhi h1 h2 hc.1 hc.2.1 hcap
            refine ⟨_, run_sliceAt_slice ht hi' hb, ?_⟩
            split at hv
            · rename_i hln
              simp only [Option.some.injEq] at hv; subst hv
              rw [if_neg (show ¬ cap = l from by omega)]
              refine ⟨hd, cap - l, ?_, by omega⟩
              simp only [Option.map_some, addr_add, hc.2.2.1, hz]
            · rename_i hln
              simp only [Option.some.injEq] at hv; subst hv
              refine ⟨_, _, by rw [show n - l = ([] : List (List D)).length from by simp; omega], Nat.zero_le _, fun hn => absurd rfl hn⟩
          · cases hv
        · cases hv
      · rename_i e ht hns
        split at hv
        · rename_i rows z h1 h2
          split at hv
          · rename_i n l h3 h4
            split at hv
            · rename_i hc
              simp only [Option.some.injEq] at hv; subst hv
              obtain ⟨a, cap, rfl, hcap, hA⟩ := rowsOf_sim hx h1
              obtain ⟨i, hi', hz⟩ := sizeT_spec h2
              have hb := bounds_sim (P := P) (isS := true) (cap := cap) hlo hhi h3 h4 hc.1 hc.2.1 hcap
              have hlen : (cutRows rows l n).length = n - l := by simp [cutRows]; omega
              refine ⟨_, run_sliceAt_slice ht hi' hb, _, cap - l, by rw [hlen], by rw [hlen]; omega, fun hn => ?_⟩
              have hnl : l < n := by
                rcases Nat.lt_or_ge l n with h' | h'
                · exact h'
                · exfalso; apply hn; unfold cutRows; rw [show n - l = 0 from by omega]; simp
              have hr : rows ≠ [] := by intro e; subst e; simp at hc; omega
              obtain ⟨b, o, sz, rfl, hR⟩ := hA hr
              have hsz := RowsAt.head hR hc.2.2 hr
              refine ⟨b, o + l * i.size, sz, ?_, ?_⟩
              · rw [if_neg (show ¬ cap = l from by omega)]
                simp only [Option.map_some, addr_add]
              · have := RowsAt.take (n - l) (RowsAt.drop l hR)
                rw [hz, ← hsz]; exact this
            · cases hv
          · cases hv
        · cases hv
      · rename_i n e b off ht
        split at hv
        · rename_i m l z h1 h2 h3
          split at hv
          · rename_i hc
            simp only [Option.some.injEq] at hv; subst hv
            obtain ⟨hd, rfl⟩ := hx
            obtain ⟨i, hi', hz⟩ := sizeT_spec h3
            have hb := bounds_sim (P := P) (isS := false) (cap := n) hlo hhi h1 h2 (by omega) hc.2 (Nat.le_refl _)
            refine ⟨.slice (some ⟨g.rho b, off + l * z, none⟩) (m - l) (n - l), ?_, hd, n - l, rfl, by omega⟩
            simp only [Instr.sliceAt, Sem.run_bind, run_underlying ht, Result.andThen_ok, Instr.sureAddr, Sem.run_pure, hb, run_sizeOf hi', if_neg (show ¬ n = l from by omega), addr_add, hz]
          · cases hv
        · cases hv
      · cases hv
end
end Go.AM
end
section
namespace Go.AM
open Go Go.RowKit
section
variable {P : Program} {B : Base} {h : Heap} {g : G} {w : World} {M : Muts}

/-- what a step has led to: the machine's answer and heap, the model's answer and world -/
def Ok (B : Base) (h : Heap) (g : G) (w : World) (id : Nat) (v : V) (h' : Heap) (v' : Value) (w' : World) : Prop :=
  ∃ g', Inv B h' g' w' ∧ VR w' (Mut B.M0 h' g') g' v v' ∧ Ext w (Mut B.M0 h g) w' (Mut B.M0 h' g') ∧ GLe g g' ∧ (∀ b, g'.dom b → g.dom b ∨ b = id) ∧ h'.next = h.next
theorem Ok.pure (I : Inv B h g w) {id : Nat} {v : V} {v' : Value} (hv : VR w (Mut B.M0 h g) g v v') : Ok B h g w id v h v' w :=
  ⟨g, I, hv, Ext.refl _ _, GLe.refl g, fun _ h => .inl h, rfl⟩

theorem Below.of_alloc (w : World) (o : Obj) : Below w.heap.size w (w.alloc o) := (Below.refl _ w).alloc (Nat.le_refl _) o
theorem new_cells (I : Inv B h g w) {id : Nat} (hid : ¬ g.dom id) (hlt : id < h.next) {us : List V} {vals : Array Value} (hu : VRL w (Mut B.M0 h g) g us vals.toList) (hs : us.all V.scalar = true) (e : TypeId) :
    Ok B h g w id (.ref id 0) (h.upd id (.cells us)) (.pointer (some ⟨w.heap.size, 0, none⟩)) (w.alloc (.cells vals e)) := by
  obtain ⟨h1, h2, h3⟩ := alloc_step I hid hlt (.cells us) (.cells vals e) 0 0 0 0 (w' := w.alloc (.cells vals e)) (Below.of_alloc w _) (by simp) (heap_alloc_new w _)
    (fun x y => ⟨.inr rfl, by simp [G.add]; exact I.below.size, hs, vals, e, by simp only [G.add, if_true]; exact heap_alloc_new w _, by rw [← VRL.length hu]; simp, by
      rw [← VRL.length hu, List.take_length]; exact VRL.mono x y _ _ hu⟩)
  exact ⟨_, h1, ⟨.inr rfl, by simp [G.add]⟩, h2, h3, fun b hb => hb, rfl⟩

theorem alloc_sim (I : Inv B h g w) {id : Nat} (hid : ¬ g.dom id) (hlt : id < h.next) {t : TypeId} {z v : V} {h' : Heap} (hz : zeroT P t = some z) (hv : allocV id z h = some (v, h')) :
    ∃ v' w', (Instr.alloc t true (.tuple #[])).run P w = .ok v' w' ∧ Ok B h g w id v h' v' w' := by
  obtain ⟨i, zv, hi, hzv, hzr⟩ := zeroT_spec (w := w) (M := Mut B.M0 h g) (g := g) hz
  unfold allocV at hv
  split at hv
  · rename_i hs
    simp only [Option.some.injEq, Prod.mk.injEq] at hv
    obtain ⟨rfl, rfl⟩ := hv
    refine ⟨_, _, ?_, new_cells I hid hlt (VR_cells hzr hs).1 hs t⟩
    simp only [Instr.alloc, Sem.run_bind, run_zeroValue hi hzv, Result.andThen_ok, newVar, newRow, run_newObj_alloc, Sem.run_pure]
  · cases hv
theorem box_sim (I : Inv B h g w) {id : Nat} (hid : ¬ g.dom id) (hlt : id < h.next) {t : TypeId} {x v : V} {xv : Value} {h' : Heap} (hx : VR w (Mut B.M0 h g) g x xv) (hv : allocV id x h = some (v, h')) :
    ∃ v' w', (Instr.box t xv).run P w = .ok v' w' ∧ Ok B h g w id v h' v' w' := by
  unfold allocV at hv
  split at hv
  · rename_i hs
    simp only [Option.some.injEq, Prod.mk.injEq] at hv
    obtain ⟨rfl, rfl⟩ := hv
    refine ⟨_, _, ?_, new_cells I hid hlt (VR_cells hx hs).1 hs t⟩
    simp only [Instr.box, Sem.run_bind, Result.andThen_ok, newVar, newRow, run_newObj_alloc, Sem.run_pure]
  · cases hv
theorem makeMap_sim (I : Inv B h g w) {id : Nat} (hid : ¬ g.dom id) (hlt : id < h.next) {t : TypeId} :
    ∃ v' w', (Instr.makeMap t none).run P w = .ok v' w' ∧ Ok B h g w id (.mref id) (h.upd id (.map [] [])) v' w' := by
  obtain ⟨h1, h2, h3⟩ := alloc_step I hid hlt (.map [] []) (.map #[] 0) 0 0 0 0 (w' := w.alloc (.map #[] 0)) (Below.of_alloc w _) (by simp) (heap_alloc_new w _)
    (fun x y => ⟨.inr rfl, by simp [G.add]; exact I.below.size, #[], 0, by simp only [G.add, if_true]; exact heap_alloc_new w _, ⟨rfl, rfl⟩, rfl, rfl⟩)
  refine ⟨.map (some w.heap.size), w.alloc (.map #[] 0), ?_, _, h1, ⟨.inr rfl, by simp [G.add]⟩, h2, h3, fun b hb => hb, rfl⟩
  simp only [Instr.makeMap, Sem.run_bind, run_newObj_alloc, Result.andThen_ok, Sem.run_pure]

theorem VRL.splice {us cs : List V} {vs ws : List Value} {o : Nat} (h1 : VRL w M g us vs) (h2 : VRL w M g cs ws) : VRL w M g (spliceAt us o cs) (vs.take o ++ ws ++ vs.drop (o + cs.length)) :=
  VRL.append (VRL.append (VRL.take o h1) h2) (VRL.drop _ h1)
theorem all_splice {us cs : List V} {o : Nat} (h1 : us.all V.scalar = true) (h2 : cs.all V.scalar = true) : (spliceAt us o cs).all V.scalar = true := by
  simp only [spliceAt, List.all_append, Bool.and_eq_true, List.all_eq_true] at *
  exact ⟨⟨fun x hx => h1 x (List.mem_of_mem_take hx), h2⟩, fun x hx => h1 x (List.mem_of_mem_drop hx)⟩
theorem length_splice {α : Type} {us : List α} {o n : Nat} {cs : List α} (hn : cs.length = n) (h : o + n ≤ us.length) : (us.take o ++ cs ++ us.drop (o + n)).length = us.length := by
  simp; omega
theorem splice_take {α : Type} (l v : List α) (n o : Nat) (h : o + v.length ≤ n) (hn : n ≤ l.length) :
    (l.take n).take o ++ v ++ (l.take n).drop (o + v.length) = (l.take o ++ v ++ l.drop (o + v.length)).take n := by
  rw [List.take_take, Nat.min_eq_left (by omega), List.drop_take, List.take_append]
  have hl : (l.take o ++ v).length = o + v.length := by simp; omega
  rw [hl, List.take_of_length_le (l := l.take o ++ v) (by omega)]
/-- cells of a block of the machine's are written -/
theorem write_cells (I : Inv B h g w) {b off : Nat} {us cs : List V} {vals : List Value} (hb : h.blk b = .cells us) (hc : VRL w (Mut B.M0 h g) g cs vals) (hs : cs.all V.scalar = true) (hle : off + cs.length ≤ us.length) :
    ∃ w', (storeCells ⟨g.rho b, off, none⟩ vals).run P w = .ok () w' ∧ Inv B (h.upd b (.cells (spliceAt us off cs))) g w' ∧
      Ext w (Mut B.M0 h g) w' (Mut B.M0 (h.upd b (.cells (spliceAt us off cs))) g) := by
  have hbk := I.blk b
  rw [hb] at hbk
  obtain ⟨hd, hge, hus, cur, e, hcur, hlen, hvr⟩ := hbk
  have hvl := VRL.length hc
  have hst := run_storeCells_at P (g.rho b) off e vals 0 cur w hcur (by omega) (VRL.ones hc hs)
  simp only [Nat.add_zero] at hst
  have hl : live (h.blk b) = true := by rw [hb]; rfl
  obtain ⟨h1, h2⟩ := turn_step I (id := b) (.cells (spliceAt us off cs)) (w' := w.setRow (g.rho b) (cur.toList.take off ++ vals ++ cur.toList.drop (off + vals.length)).toArray)
    (fun o => by rw [hb]; trivial) (fun e o => trivial) rfl hl (fun hx => by rw [hb] at hx; cases hx) (fun k hk => setRow_other w _ k _ hk) (by simp) rfl rfl rfl
    (fun x => ⟨hd, hge, all_splice hus hs, _, e, setRow_heap w _ cur _ e _ hcur, by
      rw [spliceAt, length_splice rfl hle]
      simp only [List.size_toArray]
      rw [length_splice rfl (by simp; omega)]
      simpa using hlen, by
      have h5 := VRL.mono x (GLe.refl g) _ _ hvr
      have h6 := VRL.mono x (GLe.refl g) _ _ hc
      have h7 := VRL.splice (o := off) h5 h6
      have : (spliceAt us off cs).length = us.length := length_splice rfl hle
      rw [this]
      rw [← hvl, splice_take _ _ _ _ (by omega) (by simpa using hlen)] at h7
      exact h7⟩)
  exact ⟨_, hst, h1, h2⟩
end
end Go.AM
end
section
namespace Go.AM
open Go Go.RowKit
section
variable {P : Program} {B : Base} {h : Heap} {g : G} {w : World} {M : Muts}

theorem undef_sim : VR w M g undefV undef := ⟨#[], rfl, rfl⟩
theorem store_sim (I : Inv B h g w) {t : TypeId} {sz : Nat} (hs : sizeT P t = some sz) {a x : V} {av xv : Value} {h' : Heap} {id : Nat} (ha : VR w (Mut B.M0 h g) g a av) (hx : VR w (Mut B.M0 h g) g x xv)
    (hv : storeV sz a x h = some h') : ∃ w', (Instr.storeAt t av xv).run P w = .ok () w' ∧ Ok B h g w id undefV h' undef w' := by
  cases a with
  | ref b off =>
    obtain ⟨hd, rfl⟩ := ha
    obtain ⟨i, hi, hsz⟩ := sizeT_spec hs
    simp only [storeV] at hv
    cases hb : h.blk b with
    | cells us =>
      rw [hb] at hv
      simp only at hv
      split at hv
      · rename_i hc
        simp only [Option.some.injEq] at hv; subst hv
        obtain ⟨hc1, hc2, hc3⟩ := hc
        obtain ⟨h1, _⟩ := VR_cells hx hc3
        obtain ⟨w', h2, h3, h4⟩ := write_cells (P := P) (off := off) I hb h1 hc3 (by omega)
        refine ⟨w', ?_, g, h3, undef_sim, h4, GLe.refl g, fun _ h => .inl h, rfl⟩
        have hl := VRL.length h1
        have hne : ¬ xv.cells.size ≠ i.size := by
          have : xv.cells.size = xv.cells.toList.length := by simp
          omega
        simp only [Instr.storeAt, Instr.sureAddr, Sem.run_bind, Sem.run_pure, Result.andThen_ok, storeVar, run_sizeOf hi, if_neg hne]
        exact h2
      · cases hv
    | _ => rw [hb] at hv; simp at hv
  | _ => simp [storeV] at hv

theorem RDL.append : ∀ {a b : List D} {x y : List Value}, RDL w M a x → RDL w M b y → RDL w M (a ++ b) (x ++ y)
  | [], b, x, y, h, h' => by have e : x = [] := h; subst e; simpa using h'
  | d :: a, b, x, y, h, h' => by
    obtain ⟨v, vs, rfl, h1, h2⟩ := h
    exact ⟨v, vs ++ y, rfl, h1, RDL.append h2 h'⟩
theorem bytes_eq {a c : ByteArray} (he : (a == c) = true) : a = c := by
  rw [beq_toListBytes, ByteArray.toList_eq, ByteArray.toList_eq] at he
  have h : a.data.toList = c.data.toList := by simpa using he
  cases a; cases c
  simp only at h
  congr 1
  exact Array.toList_inj.1 h
theorem sameBits_key {kd : TypeDesc} {k k' : D} {kv kv' : Value} (ht : keyKind kd k = true) (h1 : RD w M k kv) (h2 : RD w M k' kv') (he : keyEq k k' = some true) (n : Nat) : Instr.sameBits n kv' kv = true ∧ kv' = kv := by
  unfold keyEq at he
  split at he
  · rename_i k1 a k2 c
    have e1 : kv = .int k1 a := h1
    have e2 : kv' = .int k2 c := h2
    subst e1 e2
    split at he
    · rename_i hk; subst hk
      simp at he; subst he
      cases n <;> simp [Instr.sameBits]
    · cases he
  · rename_i a c
    have e1 : kv = .string a := h1
    have e2 : kv' = .string c := h2
    subst e1 e2
    simp only [Option.some.injEq] at he
    obtain rfl := bytes_eq he
    cases n <;> simp [Instr.sameBits, he]
  · rename_i a c
    have e1 : kv = .bool a := h1
    have e2 : kv' = .bool c := h2
    subst e1 e2
    simp at he; subst he
    cases n <;> simp [Instr.sameBits]
  · cases he
theorem findK_at {k : D} : ∀ {ks : List D} {i j : Nat}, findK k ks i = some (some j) → i ≤ j ∧ ∃ x, ks[j - i]? = some x ∧ keyEq k x = some true
  | [], i, j, h => by simp [findK] at h
  | x :: ks, i, j, h => by
    simp only [findK] at h
    split at h
    · rename_i he
      simp at h; subst h
      exact ⟨Nat.le_refl _, x, by simp, he⟩
    · obtain ⟨h1, y, h2, h3⟩ := findK_at h
      refine ⟨by omega, y, ?_, h3⟩
      rw [show j - i = (j - (i + 1)) + 1 from by omega]
      simpa using h2
    · cases h
theorem heap_setObj (w : World) (r : Nat) (o : Obj) (hr : r < w.heap.size) : ({ w with heap := w.heap.setIfInBounds r o } : World).heap[r]? = some o := by
  simp [hr]
theorem mapUpd_sim (I : Inv B h g w) {t : TypeId} {m k x : V} {mv kv xv : Value} {h' : Heap} {id : Nat} (hm : VR w (Mut B.M0 h g) g m mv) (hk : VR w (Mut B.M0 h g) g k kv) (hx : VR w (Mut B.M0 h g) g x xv)
    (hv : mapUpdV P t m k x h = some h') : ∃ w', (Instr.mapUpdate t mv kv xv).run P w = .ok () w' ∧ Ok B h g w id undefV h' undef w' := by
  unfold mapUpdV at hv
  split at hv
  · rename_i kt e b kk hu
    split at hv
    · rename_i hty
      obtain ⟨kd, hkd, ht⟩ := keyTyped_spec hty
      obtain ⟨hd, rfl⟩ := hm
      cases hb : h.blk b with
      | map ks vs =>
        rw [hb] at hv
        simp only at hv
        have hbk := I.blk b
        rw [hb] at hbk
        obtain ⟨_, hge, es, c, hr, hbn, h1, h2⟩ := hbk
        have hlt : g.rho b < w.heap.size := lt_of_map hr
        have hg : (getObj (g.rho b)).run P w = .ok (.map es c) w := by simp [getObj, Sem.run, hr]
        have hl : live (h.blk b) = true := by rw [hb]; rfl
        have hset : ∀ o, (setObj (g.rho b) o).run P w = .ok () { w with heap := w.heap.setIfInBounds (g.rho b) o } := fun o => by simp [setObj, Sem.run, hr]
        have turn : ∀ (ks' : List D) (vs' : List V) (es' : Array MapEntry) (c' : Nat), BornOk es' c' →
            (∀ w' M', Ext w (Mut B.M0 h g) w' M' → RDL w' M' ks' (es'.toList.map MapEntry.key) ∧ VRL w' M' g vs' (es'.toList.map MapEntry.val)) →
            Ok B h g w id undefV (h.upd b (.map ks' vs')) undef { w with heap := w.heap.setIfInBounds (g.rho b) (.map es' c') } := by
          intro ks' vs' es' c' hbn' hh
          obtain ⟨h3, h4⟩ := turn_step I (id := b) (.map ks' vs') (w' := { w with heap := w.heap.setIfInBounds (g.rho b) (.map es' c') })
            (fun o => by rw [hb]; trivial) (fun _ _ => trivial) rfl hl (fun hx => by rw [hb] at hx; cases hx) (fun k hk => by simp [Array.getElem?_setIfInBounds, Ne.symm hk]) (by simp) rfl rfl rfl
            (fun x => ⟨hd, hge, es', c', heap_setObj w _ _ hlt, hbn', (hh _ _ x).1, (hh _ _ x).2⟩)
          exact ⟨g, h3, undef_sim, h4, GLe.refl g, fun _ h => .inl h, rfl⟩
        cases hq : findK kk ks 0 with
        | none => rw [hq] at hv; simp at hv
        | some q =>
          rw [hq] at hv
          obtain ⟨h5, h6⟩ := findK_sim ht hk ks es.toList 0 q h1 hq
          cases q with
          | none =>
            simp only [Option.some.injEq] at hv; subst hv
            refine ⟨_, ?_, turn (ks ++ [kk]) (vs ++ [x]) (es.push { key := kv, val := xv, born := c }) (c + 1) ⟨by simp [hbn.1], by rw [Array.toList_push, List.map_append, hbn.2]; simp [hbn.1, List.range_succ]⟩ (fun w' M' ex => ⟨?_, ?_⟩)⟩
            · simp only [Instr.mapUpdate, Sem.run_bind, run_underlying hu, Result.andThen_ok, hg, run_checkKey hkd ht hk, run_findKey hkd h6, Option.bind_none]
              exact hset _
            · rw [Array.toList_push, List.map_append]
              exact RDL.append (RDL.mono ex _ _ h1) ⟨kv, [], rfl, RD.mono ex _ _ hk, rfl⟩
            · rw [Array.toList_push, List.map_append]
              exact VRL.append (VRL.mono ex (GLe.refl g) _ _ h2) ⟨xv, [], rfl, VR.mono ex (GLe.refl g) _ _ hx, rfl⟩
          | some j =>
            simp only [Option.some.injEq] at hv; subst hv
            have hj := (h5 j rfl).2
            simp only [Nat.zero_add, Array.length_toList] at hj
            obtain ⟨_, kj, hkj, hkeq⟩ := findK_at hq
            simp only [Nat.sub_zero] at hkj
            obtain ⟨kjv, hkjv, hkr⟩ := RDL.get h1 j kj hkj
            have e1 : es[j]? = some es[j] := Array.getElem?_eq_getElem hj
            have e2 : es.toList[j]? = some es[j] := by simpa using e1
            rw [List.getElem?_map, e2] at hkjv
            simp only [Option.map_some, Option.some.injEq] at hkjv
            subst hkjv
            obtain ⟨hsb, hke⟩ := sameBits_key ht hk hkr hkeq 10000
            refine ⟨_, ?_, turn ks (vs.set j x) (es.modify j fun e => { e with key := kv, val := xv }) c ⟨by simp [hbn.1], by
              rw [Array.size_modify, ← hbn.2]
              apply List.ext_getElem?
              intro i
              simp only [List.getElem?_map, Array.getElem?_toList, Array.getElem?_modify]
              split
              · rename_i hij; subst hij
                rw [e1]; rfl
              · rfl⟩ (fun w' M' ex => ⟨?_, ?_⟩)⟩
            · simp only [Instr.mapUpdate, Sem.run_bind, run_underlying hu, Result.andThen_ok, hg, run_checkKey hkd ht hk, run_findKey hkd h6, Option.bind_some, Nat.sub_zero, e2, Option.map_some]
              simp only [Instr.keyThatStays, e1, Option.map_some, Option.getD_some, hsb, if_true, Sem.run_bind, Sem.run_pure, Result.andThen_ok]
              exact hset _
            · have : (es.modify j fun e => { e with key := kv, val := xv }).toList.map MapEntry.key = es.toList.map MapEntry.key := by
                apply List.ext_getElem?
                intro i
                simp only [List.getElem?_map, Array.getElem?_toList, Array.getElem?_modify]
                split
                · rename_i hij; subst hij
                  rw [e1]; simp [hke]
                · rfl
              rw [this]
              exact RDL.mono ex _ _ h1
            · have : (es.modify j fun e => { e with key := kv, val := xv }).toList.map MapEntry.val = (es.toList.map MapEntry.val).set j xv := by
                apply List.ext_getElem?
                intro i
                simp only [List.getElem?_map, Array.getElem?_toList, Array.getElem?_modify, List.getElem?_set, List.length_map, Array.length_toList]
                split
                · rename_i hij; subst hij
                  rw [e1]; simp [hj]
                · rfl
              rw [this]
              exact VRL.set (VRL.mono ex (GLe.refl g) _ _ h2) j x xv (VR.mono ex (GLe.refl g) _ _ hx)
      | _ => rw [hb] at hv; simp at hv
    · cases hv
  · cases hv
end
end Go.AM
end
section
namespace Go.AM
open Go Go.RowKit
section
variable {P : Program} {B : Base} {h : Heap} {g : G} {w : World} {M : Muts}

theorem foldl_set (cs : List Value) : ∀ (a : Array Value) (off k : Nat), off + k + cs.length ≤ a.size →
    (cs.zipIdx k).foldl (fun a (x : Value × Nat) => a.setIfInBounds (off + x.2) x.1) a = (a.toList.take (off + k) ++ cs ++ a.toList.drop (off + k + cs.length)).toArray := by
  induction cs with
  | nil => intro a off k _; simp
  | cons c cs ih =>
    intro a off k hl
    simp only [List.length_cons] at hl
    simp only [List.zipIdx_cons, List.foldl_cons]
    rw [ih _ off (k + 1) (by simp; omega)]
    apply Array.toList_inj.1
    simp only [Array.toList_setIfInBounds, List.length_cons]
    have hn : off + k < a.toList.length := by simp; omega
    rw [List.set_eq_take_append_cons_drop, if_pos hn]
    have h1 : (a.toList.take (off + k)).length = off + k := by simp; omega
    rw [List.take_append, List.take_of_length_le (by omega), h1, show off + (k + 1) - (off + k) = 1 from by omega]
    have h2 : (a.toList.take (off + k)).drop (off + (k + 1) + cs.length) = [] := List.drop_of_length_le (by omega)
    rw [List.drop_append, h2, h1, show off + (k + 1) + cs.length - (off + k) = cs.length + 1 from by omega]
    simp only [List.take_succ_cons, List.take_zero, List.drop_succ_cons, List.drop_drop, List.nil_append, List.append_assoc, List.cons_append]
    rw [show off + k + 1 + cs.length = off + k + (cs.length + 1) from by omega]
theorem fillV_sim {place : Nat → Option (Nat × Nat)} : ∀ (ps : List (Nat × V)) (pv : List (Nat × Value)) (qs : List (Nat × Nat × V)) (us cs : List V) (vals : Array Value),
    (ps.map fun p => (place p.1).map fun q => (q.1, q.2, p.2)) = qs.map some → pv.map (·.1) = ps.map (·.1) → VRL w M g (ps.map (·.2)) (pv.map (·.2)) → VRL w M g us vals.toList →
    fillV us qs = some cs → ∃ vals', Instr.fill place vals pv = some vals' ∧ VRL w M g cs vals'.toList
  | [], pv, qs, us, cs, vals, hq, hp, _, hu, hf => by
    have e1 : qs = [] := by simpa using hq.symm
    have e2 : pv = [] := by simpa using hp
    subst e1 e2
    simp [fillV] at hf; subst hf
    exact ⟨vals, rfl, hu⟩
  | p :: ps, pv, qs, us, cs, vals, hq, hp, hr, hu, hf => by
    cases qs with
    | nil => simp at hq
    | cons q qs =>
      cases pv with
      | nil => simp at hp
      | cons pw pv =>
        obtain ⟨i, x⟩ := p
        obtain ⟨i', xv⟩ := pw
        obtain ⟨off, sz, y⟩ := q
        simp only [List.map_cons, List.cons.injEq] at hq hp
        obtain ⟨hq1, hq2⟩ := hq
        obtain ⟨rfl, hp2⟩ := hp
        obtain ⟨v, vs, e, hx, hrest⟩ := hr
        simp only [List.map_cons, List.cons.injEq] at e
        obtain ⟨rfl, rfl⟩ := e
        cases hpl : place i' with
        | none => rw [hpl] at hq1; simp at hq1
        | some pl =>
          rw [hpl] at hq1
          simp only [Option.map_some, Option.some.injEq, Prod.mk.injEq] at hq1
          obtain ⟨rfl, rfl, rfl⟩ := hq1
          simp only [fillV] at hf
          split at hf
          · rename_i hc
            obtain ⟨hc1, hc2, hc3⟩ := hc
            obtain ⟨h1, _⟩ := VR_cells hx hc3
            have hl1 := VRL.length h1
            have hl2 := VRL.length hu
            simp only [Array.length_toList] at hl1 hl2
            have hcond : (decide (xv.cells.size ≠ pl.2) || decide (pl.1 + xv.cells.size > vals.size)) = false := by
              simp; omega
            have hfold : xv.cells.zipIdx.foldl (fun cs (x : Value × Nat) => cs.setIfInBounds (pl.1 + x.2) x.1) vals =
                (vals.toList.take pl.1 ++ xv.cells.toList ++ vals.toList.drop (pl.1 + x.cells.length)).toArray := by
              rw [← Array.foldl_toList, Array.toList_zipIdx, foldl_set xv.cells.toList vals pl.1 0 (by simp; omega)]
              simp [hl1]
            obtain ⟨vals', h3, h4⟩ := fillV_sim ps pv qs (spliceAt us pl.1 x.cells) cs (vals.toList.take pl.1 ++ xv.cells.toList ++ vals.toList.drop (pl.1 + x.cells.length)).toArray hq2 hp2 hrest
              (by simpa using VRL.splice (o := pl.1) hu h1) hf
            refine ⟨vals', ?_, h4⟩
            simp only [Instr.fill, hpl]
            rw [if_neg (by simpa using hcond)]
            exact (congrArg (fun a => Instr.fill place a pv) hfold).trans h3
          · cases hf

theorem partsOf_spec {place : Nat → Option (Nat × Nat)} : ∀ {ps : List (Nat × V)} {qs : List (Nat × Nat × V)}, partsOf place ps = some qs →
    (ps.map fun p => (place p.1).map fun q => (q.1, q.2, p.2)) = qs.map some
  | [], qs, h => by simp [partsOf] at h; subst h; rfl
  | p :: ps, qs, h => by
    simp only [partsOf] at h
    split at h
    · rename_i q qs' h1 h2
      simp only [Option.some.injEq] at h; subst h
      simp only [List.map_cons, h1, Option.map_some, partsOf_spec h2]
    · cases h
theorem mapM_option {α β : Type} (f : α → Option β) : ∀ {l : List α} {r : List β}, l.mapM f = some r → l.map f = r.map some
  | [], r, h => by simp at h; subst h; rfl
  | a :: l, r, h => by
    rw [List.mapM_cons] at h
    cases ha : f a with
    | none => rw [ha] at h; simp at h
    | some b =>
      rw [ha] at h
      cases hl : l.mapM f with
      | none => rw [hl] at h; simp at h
      | some bs =>
        rw [hl] at h
        simp at h; subst h
        simp [ha, mapM_option f hl]
theorem run_mapM_places : ∀ (fs : List Field) (pl : List (Nat × Nat)), (fs.map fun f => (P.info? f.type).map fun i => (f.offset, i.size)) = pl.map some →
    (fs.mapM (m := Sem) fun f => do pure (f.offset, ← sizeOf f.type)).run P w = .ok pl w
  | [], pl, h => by have : pl = [] := by simpa using h.symm
                    subst this; simp
  | f :: fs, pl, h => by
    cases pl with
    | nil => simp at h
    | cons p pl =>
      simp only [List.map_cons, List.cons.injEq] at h
      obtain ⟨h1, h2⟩ := h
      cases hi : P.info? f.type with
      | none => rw [hi] at h1; cases h1
      | some i =>
        rw [hi] at h1
        simp only [Option.map_some, Option.some.injEq] at h1
        subst h1
        rw [List.mapM_cons]
        simp only [Sem.run_bind, run_sizeOf hi, Result.andThen_ok, Sem.run_pure, run_mapM_places fs pl h2]
theorem build_sim {t : TypeId} {ps : List (Nat × V)} {pv : Array (Nat × Value)} {v : V} (hp : pv.toList.map (·.1) = ps.map (·.1)) (hr : VRL w M g (ps.map (·.2)) (pv.toList.map (·.2)))
    (hv : buildV P t ps = some v) : ∃ v', (Instr.build t pv).run P w = .ok v' w ∧ VR w M g v v' := by
  unfold buildV at hv
  split at hv
  · rename_i z fs hz hu
    obtain ⟨i, zv, hi, hzv, hzr⟩ := zeroT_spec (w := w) (M := M) (g := g) hz
    have hzs := zeroT_scalar hz
    cases hpl : placesT P t with
    | none => rw [hpl] at hv; cases hv
    | some pl =>
      rw [hpl] at hv
      simp only [Option.bind_some] at hv
      cases hq : partsOf (pl[·]?) ps with
      | none => rw [hq] at hv; cases hv
      | some qs =>
        rw [hq] at hv
        simp only [Option.bind_some] at hv
        cases hf : fillV z.cells qs with
        | none => rw [hf] at hv; cases hv
        | some cs =>
          rw [hf] at hv
          simp only [Option.map_some, Option.some.injEq] at hv; subst hv
          obtain ⟨vals, h1, h2⟩ := fillV_sim ps pv.toList qs z.cells cs zv.cells (partsOf_spec hq) hp hr (VR_cells hzr hzs).1 hf
          refine ⟨.agg vals, ?_, VR_mkAgg h2⟩
          have hm := run_mapM_places (P := P) (w := w) fs.toList pl (by
            unfold placesT at hpl
            rw [hu] at hpl
            exact mapM_option _ hpl)
          have hm' : (fs.mapM (m := Sem) fun f => do pure (f.offset, ← sizeOf f.type)).run P w = .ok pl.toArray w := by
            rw [Array.mapM_eq_mapM_toList]
            simp only [Sem.run_map, hm, Result.andThen_ok]
          have h1' : Instr.fill (fun x => pl.toArray[x]?) zv.cells pv.toList = some vals := by
            rw [← h1]; congr 1; funext x; simp
          simp only [Instr.build, Sem.run_bind, run_zeroValue hi hzv, Result.andThen_ok, run_underlying hu, hm', h1', Sem.run_pure]
  · rename_i z n e hz hu
    obtain ⟨i, zv, hi, hzv, hzr⟩ := zeroT_spec (w := w) (M := M) (g := g) hz
    have hzs := zeroT_scalar hz
    cases hsz : sizeT P e with
    | none => rw [hsz] at hv; cases hv
    | some sz =>
      rw [hsz] at hv
      simp only [Option.bind_some] at hv
      obtain ⟨ie, hie, hes⟩ := sizeT_spec hsz
      cases hq : partsOf (fun i => some (i * sz, sz)) ps with
      | none => rw [hq] at hv; cases hv
      | some qs =>
        rw [hq] at hv
        simp only [Option.bind_some] at hv
        cases hf : fillV z.cells qs with
        | none => rw [hf] at hv; cases hv
        | some cs =>
          rw [hf] at hv
          simp only [Option.map_some, Option.some.injEq] at hv; subst hv
          obtain ⟨vals, h1, h2⟩ := fillV_sim ps pv.toList qs z.cells cs zv.cells (partsOf_spec hq) hp hr (VR_cells hzr hzs).1 hf
          refine ⟨.agg vals, ?_, VR_mkAgg h2⟩
          subst hes
          simp only [Instr.build, Sem.run_bind, run_zeroValue hi hzv, Result.andThen_ok, run_underlying hu, run_sizeOf hie, h1, Sem.run_pure]
  · cases hv
end
end Go.AM
end
section
namespace Go.AM
open Go Go.RowKit
section
variable {P : Program} {B : Base} {h : Heap} {g : G} {w : World} {M : Muts}

theorem plainL_sim : ∀ {us : List V} {vs : List Value} {ds : List D}, VRL w M g us vs → plainL us = some ds → RDL w M ds vs
  | [], vs, ds, h, hd => by simp [plainL] at hd; subst hd; exact h
  | .d x :: us, vs, ds, h, hd => by
    obtain ⟨v, vs', rfl, h1, h2⟩ := h
    simp only [plainL] at hd
    obtain ⟨ds', h3, rfl⟩ := Option.map_eq_some_iff.1 hd
    exact ⟨v, vs', rfl, h1, plainL_sim h2 h3⟩
  | .nils :: us, vs, ds, h, hd => by
    obtain ⟨v, vs', rfl, h1, h2⟩ := h
    simp only [plainL] at hd
    obtain ⟨ds', h3, rfl⟩ := Option.map_eq_some_iff.1 hd
    have e : v = .slice none 0 0 := h1
    exact ⟨v, vs', rfl, ⟨none, 0, e, Nat.le_refl _, fun hn => absurd rfl hn⟩, plainL_sim h2 h3⟩
theorem toD_sim {x : V} {v : Value} {d : D} (hx : VR w M g x v) (hd : x.toD = some d) : RD w M d v := by
  cases x with
  | d y => simp only [V.toD, Option.some.injEq] at hd; subst hd; exact hx
  | nils =>
    simp only [V.toD, Option.some.injEq] at hd; subst hd
    have e : v = .slice none 0 0 := hx
    exact ⟨none, 0, e, Nat.le_refl _, fun hn => absurd rfl hn⟩
  | own t rows =>
    simp only [V.toD, Option.some.injEq] at hd; subst hd
    obtain ⟨_, e, h1, _, h2⟩ := hx
    exact ⟨_, _, e, h1, fun _ => ⟨_, _, _, rfl, h2⟩⟩
  | agg vs =>
    simp only [V.toD] at hd
    obtain ⟨ds, h3, rfl⟩ := Option.map_eq_some_iff.1 hd
    obtain ⟨xs, e, h1⟩ := hx
    exact ⟨xs, e, plainL_sim h1 h3⟩
  | _ => simp [V.toD] at hd
theorem toD_scalar {x : V} {d : D} (hs : x.scalar = true) (hd : x.toD = some d) : d.scalar = true := by
  cases x with
  | d y => simp only [V.toD, Option.some.injEq] at hd; subst hd; exact hs
  | nils => simp only [V.toD, Option.some.injEq] at hd; subst hd; rfl
  | own t rows => simp only [V.toD, Option.some.injEq] at hd; subst hd; rfl
  | agg vs => cases hs
  | _ => simp [V.toD] at hd
theorem allD_sim : ∀ {us : List V} {vs : List Value} {ds : List D}, VRL w M g us vs → allD us = some ds → RDL w M ds vs
  | [], vs, ds, h, hd => by simp [allD] at hd; subst hd; exact h
  | x :: us, vs, ds, h, hd => by
    obtain ⟨v, vs', rfl, h1, h2⟩ := h
    simp only [allD] at hd
    split at hd
    · rename_i d ds' h3 h4
      simp only [Option.some.injEq] at hd; subst hd
      exact ⟨v, vs', rfl, toD_sim h1 h3, allD_sim h2 h4⟩
    · cases hd
theorem allD_scalar : ∀ {us : List V} {ds : List D}, us.all V.scalar = true → allD us = some ds → ∀ d ∈ ds, d.scalar = true
  | [], ds, _, hd, d, hm => by simp [allD] at hd; subst hd; cases hm
  | x :: us, ds, hs, hd, d, hm => by
    simp only [List.all_cons, Bool.and_eq_true] at hs
    simp only [allD] at hd
    split at hd
    · rename_i y ds' h3 h4
      simp only [Option.some.injEq] at hd; subst hd
      cases hm with
      | head => exact toD_scalar hs.1 h3
      | tail _ hm => exact allD_scalar hs.2 h4 d hm
    · cases hd
theorem At.of : ∀ {ds : List D} {vs : List Value} {b o : Nat}, RDL w M ds vs → (∀ d ∈ ds, d.scalar = true) → (∀ j v, vs[j]? = some v → w.cell? ⟨b, o + j, none⟩ = some v) → (∀ j, j < ds.length → ¬ M b (o + j)) → At w M ds b o
  | [], vs, b, o, _, _, _, _ => trivial
  | d :: ds, vs, b, o, h, hs, hc, hm => by
    obtain ⟨v, vs', rfl, h1, h2⟩ := h
    refine ⟨by simpa using hm 0 (by simp), hs d (by simp), ⟨v, by simpa using hc 0 v (by simp), h1⟩, At.of h2 (fun x hx => hs x (by simp [hx])) (fun j u hj => ?_) (fun j hj => ?_)⟩
    · rw [show o + 1 + j = o + (j + 1) from by omega]; exact hc (j + 1) u (by simpa using hj)
    · rw [show o + 1 + j = o + (j + 1) from by omega]; exact hm (j + 1) (by simp; omega)
theorem At.append : ∀ {a b : List D} {k o : Nat}, At w M (a ++ b) k o ↔ At w M a k o ∧ At w M b k (o + a.length)
  | [], b, k, o => by simp [At]
  | d :: a, b, k, o => by
    simp only [List.cons_append, At, List.length_cons, At.append (a := a) (b := b)]
    rw [show o + 1 + a.length = o + (a.length + 1) from by omega]
    constructor
    · rintro ⟨h1, h2, h3, h4, h5⟩; exact ⟨⟨h1, h2, h3, h4⟩, h5⟩
    · rintro ⟨⟨h1, h2, h3, h4⟩, h5⟩; exact ⟨h1, h2, h3, h4, h5⟩
theorem RowsAt.iff : ∀ {rs : List (List D)} {b o sz : Nat}, RowsAt w M rs b o sz ↔ (∀ r ∈ rs, r.length = sz) ∧ At w M rs.flatten b o
  | [], b, o, sz => by simp [RowsAt, At]
  | r :: rs, b, o, sz => by
    simp only [RowsAt, List.flatten_cons, At.append, RowsAt.iff (rs := rs), List.mem_cons, forall_eq_or_imp]
    constructor
    · rintro ⟨h1, h2, h3, h4⟩; subst h1; exact ⟨⟨rfl, h3⟩, h2, h4⟩
    · rintro ⟨⟨h1, h3⟩, h2, h4⟩; subst h1; exact ⟨rfl, h2, h3, h4⟩
theorem flatten_length {rs : List (List D)} {sz : Nat} (h : ∀ r ∈ rs, r.length = sz) : rs.flatten.length = rs.length * sz := by
  induction rs with
  | nil => simp
  | cons r rs ih =>
    simp only [List.flatten_cons, List.length_append, List.length_cons, ih (fun x hx => h x (by simp [hx])), h r (by simp), Nat.add_mul]
    omega
theorem At.scalars : ∀ {ds : List D} {b o : Nat}, At w M ds b o → ∀ d ∈ ds, d.scalar = true
  | [], _, _, _, d, hd => by cases hd
  | x :: ds, b, o, h, d, hd => by
    obtain ⟨_, h1, _, h2⟩ := h
    cases hd with
    | head => exact h1
    | tail _ hd => exact At.scalars h2 d hd
theorem chunk_spec (sz : Nat) : ∀ (n : Nat) (ds : List D), ds.length = n * sz → (chunk sz n ds).length = n ∧ (∀ r ∈ chunk sz n ds, r.length = sz) ∧ (chunk sz n ds).flatten = ds
  | 0, ds, h => by
    have : ds = [] := List.eq_nil_of_length_eq_zero (by simpa using h)
    subst this; simp [chunk]
  | n + 1, ds, h => by
    rw [Nat.add_mul] at h
    obtain ⟨h1, h2, h3⟩ := chunk_spec sz n (ds.drop sz) (by simp; omega)
    refine ⟨by simp [chunk, h1], ?_, by simp [chunk, h3]⟩
    intro r hr
    simp only [chunk, List.mem_cons] at hr
    rcases hr with rfl | hr
    · simp; omega
    · exact h2 r hr

theorem new_own (I : Inv B h g w) {id : Nat} (hid : ¬ g.dom id) (hlt : id < h.next) {rows : List (List D)} {vals : List Value} {cur : Array Value} {cap sz : Nat} {e : TypeId}
    (hr : RDL w (Mut B.M0 h g) rows.flatten vals) (hs : ∀ d ∈ rows.flatten, d.scalar = true) (hl : ∀ r ∈ rows, r.length = sz) (hcur : cur.toList.take (rows.length * sz) = vals)
    (hcap : rows.length ≤ cap) (hmax : cap ≤ maxLen) (hsize : cur.size = cap * sz) (hsz : 0 < sz) {w' : World} (hw : Below w.heap.size w w') (hws : w'.heap.size = w.heap.size + 1)
    (ho : w'.heap[w.heap.size]? = some (.cells cur e (0, 0))) :
    Ok B h g w id (.own id rows) (h.upd id (.tok e sz)) (.slice (some ⟨w.heap.size, 0, none⟩) rows.length cap) w' := by
  obtain ⟨h1, h2, h3⟩ := alloc_step I hid hlt (.tok e sz) (.cells cur e (0, 0)) cap rows.length sz e (w' := w') hw hws ho
    (fun x y => ⟨.inr rfl, by simp [G.add]; exact I.below.size, cur, by simp only [G.add, if_true]; exact ho, by simp [G.add]; exact hcap, by simp [G.add]; exact hmax, by simp [G.add]; exact hsize, hsz, by simp [G.add]⟩)
  refine ⟨_, h1, ⟨.inr rfl, by simp [G.add], by simp [G.add]; exact hcap, by simp [G.add], ?_⟩, h2, h3, fun b hb => hb, rfl⟩
  simp only [G.add, if_true]
  rw [RowsAt.iff]
  refine ⟨hl, At.of (RDL.mono h2 _ _ hr) hs (fun j v hj => ?_) (fun j hj => ?_)⟩
  · rw [cell_of_row w' w.heap.size _ cur e (0, 0) ho]
    rw [← hcur, List.getElem?_take] at hj
    split at hj
    · simpa using hj
    · cases hj
  · rintro (h0 | ⟨i, hd, hrho, hmut⟩)
    · have := I.m0 _ _ h0
      have := I.below.size
      omega
    · by_cases hi : i = id
      · subst hi
        rw [Heap.upd_same] at hmut
        simp only [if_true, mutB] at hmut
        rw [flatten_length hl] at hj
        omega
      · have hd' : g.dom i := hd.resolve_right hi
        have := I.lt i hd'
        simp only [if_neg hi] at hrho
        omega

theorem kill (I : Inv B h g w) (t : Nat) : Inv B (h.upd t .dead) g w ∧ Ext w (Mut B.M0 h g) w (Mut B.M0 (h.upd t .dead) g) := by
  have x : Ext w (Mut B.M0 h g) w (Mut B.M0 (h.upd t .dead) g) := by
    refine ⟨fun _ _ _ _ h => h, fun _ _ _ _ h => h, fun b o hm _ => ?_, Nat.le_refl _⟩
    rintro (h0 | ⟨i, hd, hr, hmut⟩)
    · exact hm (.inl h0)
    · by_cases hi : i = t
      · subst hi; rw [Heap.upd_same] at hmut; exact hmut
      · rw [Heap.upd_ne _ _ hi] at hmut; exact hm (.inr ⟨i, hd, hr, hmut⟩)
  have lv : ∀ i, live ((h.upd t .dead).blk i) = true → live (h.blk i) = true := fun i hi => by
    by_cases e : i = t
    · subst e; rw [Heap.upd_same] at hi; simp [live] at hi
    · rwa [Heap.upd_ne _ _ e] at hi
  refine ⟨⟨I.below, I.m0, fun i => ?_, fun i j hi hj => I.inj i j (lv i hi) (lv j hj), I.lt, I.nxt, fun i hi => ?_, fun n => VR.mono x (GLe.refl g) _ _ (I.glob n), I.dfr, I.lps⟩, x⟩
  · by_cases e : i = t
    · subst e; rw [Heap.upd_same]; trivial
    · rw [Heap.upd_ne _ _ e]; exact BlkOk.mono x (GLe.refl g) rfl (I.blk i)
  · by_cases e : i = t
    · subst e; rw [Heap.upd_same]; rfl
    · rw [Heap.upd_ne _ _ e]; exact I.dead i hi
end
end Go.AM
end
