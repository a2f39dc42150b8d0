/- Typed data of the program. What the functions of orient answer, in plain Lean. What the functions of lineage answer, in plain Lean. Names and ids, in plain Lean. A lineage's order, in plain Lean. Poses and places of pieces, in plain Lean. A string's parts, byte by byte. Turns move boxes: geometry without overflow, in plain Lean. Poses and places of a valid lineage: nothing overflows, and each place lies in the parent's. The reference's turns, boxes and pieces are orient's and lineage's, in plain Lean. -/
import Derived.Test.YtmfgnajlkoafkaaGreatDoorMd
import Derived.Lib.SplitLaws
import Derived.Lib.AtoiAll
import Derived.Lib.ItoaNum
set_option linter.all false
set_option maxHeartbeats 2000000
section
namespace Go.AM
open Go
open Go.AM.Enc (enc dec)
open Go.AM.Row (row ofRow)
set_option linter.unusedVariables false
structure Vec where
  X : Int
  Y : Int
  Z : Int
  deriving DecidableEq
def Vec.cells (x : Vec) : List D := [.int .i64 x.X, .int .i64 x.Y, .int .i64 x.Z]
def Vec.ofCells : List D → Option Vec
  | [.int .i64 a0, .int .i64 a1, .int .i64 a2] => some ⟨a0, a1, a2⟩
  | _ => none
theorem Vec.sound (ds : List D) (x : Vec) (h : Vec.ofCells ds = some x) : ds = Vec.cells x := by
  unfold Vec.ofCells at h
  split at h
  · simp only [Option.some.injEq] at h; subst h; rfl
  · cases h
theorem Vec.back (x : Vec) : Vec.ofCells (Vec.cells x) = some x := by
  rfl
def Vec.ofD : D → Option Vec
  | .agg cs => Vec.ofCells cs
  | _ => none
instance : Row Vec := ⟨Vec.cells, Vec.ofCells, Vec.sound, Vec.back⟩
instance : Enc Vec := ⟨fun x => .agg x.cells, Vec.ofD, (fun d x h => by unfold Vec.ofD at h; split at h; (rw [Vec.sound _ _ h]); cases h), Vec.back⟩
@[simp] theorem row_Vec (x : Vec) : row x = [.int .i64 x.X, .int .i64 x.Y, .int .i64 x.Z] := rfl
@[simp] theorem enc_Vec (x : Vec) : enc x = .agg [.int .i64 x.X, .int .i64 x.Y, .int .i64 x.Z] := rfl
@[simp] theorem Vec.eta (x : Vec) : (⟨x.X, x.Y, x.Z⟩ : Vec) = x := rfl
@[simp] theorem ofRow_Vec (a0 : Int) (a1 : Int) (a2 : Int) : (ofRow [.int .i64 a0, .int .i64 a1, .int .i64 a2] : Option Vec) = some ⟨a0, a1, a2⟩ := rfl
@[simp] theorem dec_Vec (a0 : Int) (a1 : Int) (a2 : Int) : (dec (D.agg [.int .i64 a0, .int .i64 a1, .int .i64 a2]) : Option Vec) = some ⟨a0, a1, a2⟩ := rfl
structure Box where
  Min : Vec
  Max : Vec
  deriving DecidableEq
def Box.cells (x : Box) : List D := [.int .i64 x.Min.X, .int .i64 x.Min.Y, .int .i64 x.Min.Z, .int .i64 x.Max.X, .int .i64 x.Max.Y, .int .i64 x.Max.Z]
def Box.ofCells : List D → Option Box
  | [.int .i64 a0, .int .i64 a1, .int .i64 a2, .int .i64 a3, .int .i64 a4, .int .i64 a5] => some ⟨⟨a0, a1, a2⟩, ⟨a3, a4, a5⟩⟩
  | _ => none
theorem Box.sound (ds : List D) (x : Box) (h : Box.ofCells ds = some x) : ds = Box.cells x := by
  unfold Box.ofCells at h
  split at h
  · simp only [Option.some.injEq] at h; subst h; rfl
  · cases h
theorem Box.back (x : Box) : Box.ofCells (Box.cells x) = some x := by
  rfl
def Box.ofD : D → Option Box
  | .agg cs => Box.ofCells cs
  | _ => none
instance : Row Box := ⟨Box.cells, Box.ofCells, Box.sound, Box.back⟩
instance : Enc Box := ⟨fun x => .agg x.cells, Box.ofD, (fun d x h => by unfold Box.ofD at h; split at h; (rw [Box.sound _ _ h]); cases h), Box.back⟩
@[simp] theorem row_Box (x : Box) : row x = [.int .i64 x.Min.X, .int .i64 x.Min.Y, .int .i64 x.Min.Z, .int .i64 x.Max.X, .int .i64 x.Max.Y, .int .i64 x.Max.Z] := rfl
@[simp] theorem enc_Box (x : Box) : enc x = .agg [.int .i64 x.Min.X, .int .i64 x.Min.Y, .int .i64 x.Min.Z, .int .i64 x.Max.X, .int .i64 x.Max.Y, .int .i64 x.Max.Z] := rfl
@[simp] theorem Box.eta (x : Box) : (⟨x.Min, x.Max⟩ : Box) = x := rfl
@[simp] theorem ofRow_Box (a0 : Int) (a1 : Int) (a2 : Int) (a3 : Int) (a4 : Int) (a5 : Int) : (ofRow [.int .i64 a0, .int .i64 a1, .int .i64 a2, .int .i64 a3, .int .i64 a4, .int .i64 a5] : Option Box) = some ⟨⟨a0, a1, a2⟩, ⟨a3, a4, a5⟩⟩ := rfl
@[simp] theorem dec_Box (a0 : Int) (a1 : Int) (a2 : Int) (a3 : Int) (a4 : Int) (a5 : Int) : (dec (D.agg [.int .i64 a0, .int .i64 a1, .int .i64 a2, .int .i64 a3, .int .i64 a4, .int .i64 a5]) : Option Box) = some ⟨⟨a0, a1, a2⟩, ⟨a3, a4, a5⟩⟩ := rfl
structure Pose where
  Turn : Int
  Shift : Vec
  deriving DecidableEq
def Pose.cells (x : Pose) : List D := [.int .i64 x.Turn, .int .i64 x.Shift.X, .int .i64 x.Shift.Y, .int .i64 x.Shift.Z]
def Pose.ofCells : List D → Option Pose
  | [.int .i64 a0, .int .i64 a1, .int .i64 a2, .int .i64 a3] => some ⟨a0, ⟨a1, a2, a3⟩⟩
  | _ => none
theorem Pose.sound (ds : List D) (x : Pose) (h : Pose.ofCells ds = some x) : ds = Pose.cells x := by
  unfold Pose.ofCells at h
  split at h
  · simp only [Option.some.injEq] at h; subst h; rfl
  · cases h
theorem Pose.back (x : Pose) : Pose.ofCells (Pose.cells x) = some x := by
  rfl
def Pose.ofD : D → Option Pose
  | .agg cs => Pose.ofCells cs
  | _ => none
instance : Row Pose := ⟨Pose.cells, Pose.ofCells, Pose.sound, Pose.back⟩
instance : Enc Pose := ⟨fun x => .agg x.cells, Pose.ofD, (fun d x h => by unfold Pose.ofD at h; split at h; (rw [Pose.sound _ _ h]); cases h), Pose.back⟩
@[simp] theorem row_Pose (x : Pose) : row x = [.int .i64 x.Turn, .int .i64 x.Shift.X, .int .i64 x.Shift.Y, .int .i64 x.Shift.Z] := rfl
@[simp] theorem enc_Pose (x : Pose) : enc x = .agg [.int .i64 x.Turn, .int .i64 x.Shift.X, .int .i64 x.Shift.Y, .int .i64 x.Shift.Z] := rfl
@[simp] theorem Pose.eta (x : Pose) : (⟨x.Turn, x.Shift⟩ : Pose) = x := rfl
@[simp] theorem ofRow_Pose (a0 : Int) (a1 : Int) (a2 : Int) (a3 : Int) : (ofRow [.int .i64 a0, .int .i64 a1, .int .i64 a2, .int .i64 a3] : Option Pose) = some ⟨a0, ⟨a1, a2, a3⟩⟩ := rfl
@[simp] theorem dec_Pose (a0 : Int) (a1 : Int) (a2 : Int) (a3 : Int) : (dec (D.agg [.int .i64 a0, .int .i64 a1, .int .i64 a2, .int .i64 a3]) : Option Pose) = some ⟨a0, ⟨a1, a2, a3⟩⟩ := rfl
structure Piece where
  Id : ByteArray
  Parent : ByteArray
  Pose : Pose
  Box : Box
  deriving DecidableEq
def Piece.cells (x : Piece) : List D := [.str x.Id, .str x.Parent, .int .i64 x.Pose.Turn, .int .i64 x.Pose.Shift.X, .int .i64 x.Pose.Shift.Y, .int .i64 x.Pose.Shift.Z, .int .i64 x.Box.Min.X, .int .i64 x.Box.Min.Y, .int .i64 x.Box.Min.Z, .int .i64 x.Box.Max.X, .int .i64 x.Box.Max.Y, .int .i64 x.Box.Max.Z]
def Piece.ofCells : List D → Option Piece
  | [.str a0, .str a1, .int .i64 a2, .int .i64 a3, .int .i64 a4, .int .i64 a5, .int .i64 a6, .int .i64 a7, .int .i64 a8, .int .i64 a9, .int .i64 a10, .int .i64 a11] => some ⟨a0, a1, ⟨a2, ⟨a3, a4, a5⟩⟩, ⟨⟨a6, a7, a8⟩, ⟨a9, a10, a11⟩⟩⟩
  | _ => none
theorem Piece.sound (ds : List D) (x : Piece) (h : Piece.ofCells ds = some x) : ds = Piece.cells x := by
  unfold Piece.ofCells at h
  split at h
  · simp only [Option.some.injEq] at h; subst h; rfl
  · cases h
theorem Piece.back (x : Piece) : Piece.ofCells (Piece.cells x) = some x := by
  rfl
def Piece.ofD : D → Option Piece
  | .agg cs => Piece.ofCells cs
  | _ => none
instance : Row Piece := ⟨Piece.cells, Piece.ofCells, Piece.sound, Piece.back⟩
instance : Enc Piece := ⟨fun x => .agg x.cells, Piece.ofD, (fun d x h => by unfold Piece.ofD at h; split at h; (rw [Piece.sound _ _ h]); cases h), Piece.back⟩
@[simp] theorem row_Piece (x : Piece) : row x = [.str x.Id, .str x.Parent, .int .i64 x.Pose.Turn, .int .i64 x.Pose.Shift.X, .int .i64 x.Pose.Shift.Y, .int .i64 x.Pose.Shift.Z, .int .i64 x.Box.Min.X, .int .i64 x.Box.Min.Y, .int .i64 x.Box.Min.Z, .int .i64 x.Box.Max.X, .int .i64 x.Box.Max.Y, .int .i64 x.Box.Max.Z] := rfl
@[simp] theorem enc_Piece (x : Piece) : enc x = .agg [.str x.Id, .str x.Parent, .int .i64 x.Pose.Turn, .int .i64 x.Pose.Shift.X, .int .i64 x.Pose.Shift.Y, .int .i64 x.Pose.Shift.Z, .int .i64 x.Box.Min.X, .int .i64 x.Box.Min.Y, .int .i64 x.Box.Min.Z, .int .i64 x.Box.Max.X, .int .i64 x.Box.Max.Y, .int .i64 x.Box.Max.Z] := rfl
@[simp] theorem Piece.eta (x : Piece) : (⟨x.Id, x.Parent, x.Pose, x.Box⟩ : Piece) = x := rfl
@[simp] theorem ofRow_Piece (a0 : ByteArray) (a1 : ByteArray) (a2 : Int) (a3 : Int) (a4 : Int) (a5 : Int) (a6 : Int) (a7 : Int) (a8 : Int) (a9 : Int) (a10 : Int) (a11 : Int) : (ofRow [.str a0, .str a1, .int .i64 a2, .int .i64 a3, .int .i64 a4, .int .i64 a5, .int .i64 a6, .int .i64 a7, .int .i64 a8, .int .i64 a9, .int .i64 a10, .int .i64 a11] : Option Piece) = some ⟨a0, a1, ⟨a2, ⟨a3, a4, a5⟩⟩, ⟨⟨a6, a7, a8⟩, ⟨a9, a10, a11⟩⟩⟩ := rfl
@[simp] theorem dec_Piece (a0 : ByteArray) (a1 : ByteArray) (a2 : Int) (a3 : Int) (a4 : Int) (a5 : Int) (a6 : Int) (a7 : Int) (a8 : Int) (a9 : Int) (a10 : Int) (a11 : Int) : (dec (D.agg [.str a0, .str a1, .int .i64 a2, .int .i64 a3, .int .i64 a4, .int .i64 a5, .int .i64 a6, .int .i64 a7, .int .i64 a8, .int .i64 a9, .int .i64 a10, .int .i64 a11]) : Option Piece) = some ⟨a0, a1, ⟨a2, ⟨a3, a4, a5⟩⟩, ⟨⟨a6, a7, a8⟩, ⟨a9, a10, a11⟩⟩⟩ := rfl
structure TurnS where
  a0 : Int
  a1 : Int
  a2 : Int
  s0 : Int
  s1 : Int
  s2 : Int
  deriving DecidableEq
def TurnS.cells (x : TurnS) : List D := [.int .i64 x.a0, .int .i64 x.a1, .int .i64 x.a2, .int .i64 x.s0, .int .i64 x.s1, .int .i64 x.s2]
def TurnS.ofCells : List D → Option TurnS
  | [.int .i64 a0, .int .i64 a1, .int .i64 a2, .int .i64 a3, .int .i64 a4, .int .i64 a5] => some ⟨a0, a1, a2, a3, a4, a5⟩
  | _ => none
theorem TurnS.sound (ds : List D) (x : TurnS) (h : TurnS.ofCells ds = some x) : ds = TurnS.cells x := by
  unfold TurnS.ofCells at h
  split at h
  · simp only [Option.some.injEq] at h; subst h; rfl
  · cases h
theorem TurnS.back (x : TurnS) : TurnS.ofCells (TurnS.cells x) = some x := by
  rfl
def TurnS.ofD : D → Option TurnS
  | .agg cs => TurnS.ofCells cs
  | _ => none
instance : Row TurnS := ⟨TurnS.cells, TurnS.ofCells, TurnS.sound, TurnS.back⟩
instance : Enc TurnS := ⟨fun x => .agg x.cells, TurnS.ofD, (fun d x h => by unfold TurnS.ofD at h; split at h; (rw [TurnS.sound _ _ h]); cases h), TurnS.back⟩
@[simp] theorem row_TurnS (x : TurnS) : row x = [.int .i64 x.a0, .int .i64 x.a1, .int .i64 x.a2, .int .i64 x.s0, .int .i64 x.s1, .int .i64 x.s2] := rfl
@[simp] theorem enc_TurnS (x : TurnS) : enc x = .agg [.int .i64 x.a0, .int .i64 x.a1, .int .i64 x.a2, .int .i64 x.s0, .int .i64 x.s1, .int .i64 x.s2] := rfl
@[simp] theorem TurnS.eta (x : TurnS) : (⟨x.a0, x.a1, x.a2, x.s0, x.s1, x.s2⟩ : TurnS) = x := rfl
@[simp] theorem ofRow_TurnS (a0 : Int) (a1 : Int) (a2 : Int) (a3 : Int) (a4 : Int) (a5 : Int) : (ofRow [.int .i64 a0, .int .i64 a1, .int .i64 a2, .int .i64 a3, .int .i64 a4, .int .i64 a5] : Option TurnS) = some ⟨a0, a1, a2, a3, a4, a5⟩ := rfl
@[simp] theorem dec_TurnS (a0 : Int) (a1 : Int) (a2 : Int) (a3 : Int) (a4 : Int) (a5 : Int) : (dec (D.agg [.int .i64 a0, .int .i64 a1, .int .i64 a2, .int .i64 a3, .int .i64 a4, .int .i64 a5]) : Option TurnS) = some ⟨a0, a1, a2, a3, a4, a5⟩ := rfl
/-- a variable that is never written -/
structure Bx (α : Type) where
  v : α
def Bx.ofD {α : Type} [Row α] : D → Option (Bx α)
  | .ptr cs 0 => (ofRow cs).map Bx.mk
  | _ => none
instance {α : Type} [Row α] : Enc (Bx α) := ⟨fun x => .ptr (row x.v) 0, Bx.ofD, (fun d x h => by
  unfold Bx.ofD at h
  split at h
  · obtain ⟨y, h1, rfl⟩ := Option.map_eq_some_iff.1 h
    rw [Row.sound _ _ h1]
  · cases h), fun x => by simp [Bx.ofD]⟩
@[simp] theorem enc_Bx {α : Type} [Row α] (x : Bx α) : enc x = .ptr (row x.v) 0 := rfl
@[simp] theorem dec_Bx {α : Type} [Row α] (cs : List D) : (dec (D.ptr cs 0) : Option (Bx α)) = (ofRow cs).map Bx.mk := rfl
end Go.AM
end
section
namespace Go.AM.Orient
open Go Go.AM
open Go.AM.Enc (enc dec)
open Go.AM.Row (row ofRow)
def okTurn (n : Int) : Bool := decide (0 ≤ n) && decide (n < 24)
def okTurns (l : List Int) : Bool := l.all okTurn
def nearI (n : Int) : Bool := decide (-1000000 ≤ n) && decide (n ≤ 1000000)
def nearV (v : Vec) : Bool := nearI v.X && (nearI v.Y && nearI v.Z)
def nears (l : List Vec) : Bool := l.all nearV
def axs (k : Int) : Int × Int × Int := if k = 0 then (0, 1, 2) else if k = 1 then (0, 2, 1) else if k = 2 then (1, 0, 2) else if k = 3 then (1, 2, 0) else if k = 4 then (2, 0, 1) else (2, 1, 0)
def sgE (j : Int) : Int × Int × Int := if j = 0 then (1, 1, 1) else if j = 1 then (1, -1, -1) else if j = 2 then (-1, 1, -1) else (-1, -1, 1)
def sgO (j : Int) : Int × Int × Int := if j = 0 then (1, 1, -1) else if j = 1 then (1, -1, 1) else if j = 2 then (-1, 1, 1) else (-1, -1, -1)
def co (v : Vec) (i : Int) : Int := if i = 0 then v.X else if i = 1 then v.Y else v.Z
def axis (n : Int) : Int × Int × Int := axs (n.tdiv 4)
def sign (n : Int) : Int × Int × Int := if n.tdiv 4 = 0 ∨ n.tdiv 4 = 3 ∨ n.tdiv 4 = 4 then sgE (n.tmod 4) else sgO (n.tmod 4)
def apply (n : Int) (v : Vec) : Vec := ⟨w64 ((sign n).1 * co v (axis n).1), w64 ((sign n).2.1 * co v (axis n).2.1), w64 ((sign n).2.2 * co v (axis n).2.2)⟩
def add (a b : Vec) : Vec := ⟨w64 (a.X + b.X), w64 (a.Y + b.Y), w64 (a.Z + b.Z)⟩
def neg (a : Vec) : Vec := ⟨w64 (0 - a.X), w64 (0 - a.Y), w64 (0 - a.Z)⟩
def sub (a b : Vec) : Vec := ⟨w64 (a.X - b.X), w64 (a.Y - b.Y), w64 (a.Z - b.Z)⟩
/-- a box's lengths -/
def lengths (b : Box) : Vec := ⟨w64 (b.Max.X - b.Min.X), w64 (b.Max.Y - b.Min.Y), w64 (b.Max.Z - b.Min.Z)⟩
def inside (a b : Box) : Bool := decide (b.Min.X ≤ a.Min.X) && (decide (b.Min.Y ≤ a.Min.Y) && (decide (b.Min.Z ≤ a.Min.Z) && (decide (a.Max.X ≤ b.Max.X) && (decide (a.Max.Y ≤ b.Max.Y) && decide (a.Max.Z ≤ b.Max.Z)))))
def overlap (a b : Box) : Bool := decide (a.Min.X < b.Max.X) && (decide (b.Min.X < a.Max.X) && (decide (a.Min.Y < b.Max.Y) && (decide (b.Min.Y < a.Max.Y) && (decide (a.Min.Z < b.Max.Z) && decide (b.Min.Z < a.Max.Z)))))
/-- the first turn that does it, or -1 -/
def findT (p : Int → Bool) : Int := match (List.range 24).find? (fun (k : Nat) => p (k : Int)) with | some k => (k : Int) | none => -1
def probe : Vec := ⟨1, 2, 3⟩
def find (image : Vec → Vec) : Int := findT fun n => decide (apply n probe = image probe)
def compose (a b : Int) : Int := find fun v => apply a (apply b v)
def invert (n : Int) : Int := findT fun k => decide (compose k n = 0)
def image (n : Int) (b : Box) : Box := ⟨⟨min (apply n b.Min).X (apply n b.Max).X, min (apply n b.Min).Y (apply n b.Max).Y, min (apply n b.Min).Z (apply n b.Max).Z⟩,
  ⟨max (apply n b.Min).X (apply n b.Max).X, max (apply n b.Min).Y (apply n b.Max).Y, max (apply n b.Min).Z (apply n b.Max).Z⟩⟩
def zeroV : Vec := ⟨0, 0, 0⟩
def zeroB : Box := ⟨zeroV, zeroV⟩
def zeroP : Pose := ⟨0, zeroV⟩
def result (p : Vec) : Vec × Int := if nearV p then (p, 0) else (zeroV, 6)
def bad (b : Box) : Bool := decide (b.Max.X ≤ b.Min.X) || (decide (b.Max.Y ≤ b.Min.Y) || decide (b.Max.Z ≤ b.Min.Z))
def shift (b : Box) (s : Vec) : Box := ⟨add b.Min s, add b.Max s⟩
def boxOf (p : Pose) (b : Box) : Box × Int :=
  if !okTurn p.Turn || !(nearV b.Min && nearV b.Max) || bad b then (zeroB, 1) else if !nearV p.Shift then (zeroB, 6) else
  let o := shift (image p.Turn b) p.Shift
  if nearV o.Min && nearV o.Max then (o, 0) else (zeroB, 6)
def join (a b : Pose) : Pose × Int :=
  if !(okTurn a.Turn && okTurn b.Turn) then (zeroP, 1) else if !(nearV a.Shift && nearV b.Shift) then (zeroP, 6) else
  let s := add (apply a.Turn b.Shift) a.Shift
  if nearV s then (⟨compose a.Turn b.Turn, s⟩, 0) else (zeroP, 6)
def sizedV (p : Vec) : Bool := nearV p && (decide (1 ≤ p.X) && (decide (1 ≤ p.Y) && decide (1 ≤ p.Z)))
def sized (l : List Vec) : Bool := l.all sizedV
def turned (n : Int) (s : Vec) : Vec := add (image n ⟨zeroV, s⟩).Max (neg (image n ⟨zeroV, s⟩).Min)
def size (n : Int) (s : Vec) : Vec × Int := if !okTurn n || !sizedV s then (zeroV, 1) else (turned n s, 0)
def place (n : Int) (s at_ : Vec) : Pose × Int :=
  if !okTurn n || !sizedV s then (zeroP, 1) else if !nearV at_ then (zeroP, 6) else
  let sh := add at_ (neg (image n ⟨zeroV, s⟩).Min)
  if nearV sh && nearV (add at_ (turned n s)) then (⟨n, sh⟩, 0) else (zeroP, 6)
def invertE (n : Int) : Int × Int := if okTurn n then (invert n, 0) else (0, 1)
end Go.AM.Orient
end
section
namespace Go.AM.Lineage
open Go Go.AM Go.AM.Orient
open Go.AM.Enc (enc dec)
open Go.AM.Row (row ofRow)
def sizeOf (p : Piece) : Vec × Bool := if okTurn p.Pose.Turn then ((size (invert p.Pose.Turn) (lengths p.Box)).1, decide ((size (invert p.Pose.Turn) (lengths p.Box)).2 = 0)) else (zeroV, false)
def right (p : Piece) : Bool := decide ((boxOf zeroP p.Box).2 = 0) && ((sizeOf p).2 && (decide ((place p.Pose.Turn (sizeOf p).1 p.Box.Min).2 = 0) && decide ((place p.Pose.Turn (sizeOf p).1 p.Box.Min).1 = p.Pose)))
end Go.AM.Lineage
end
section
namespace Go.AM.Lineage
open Go Go.AM
open Go.AM.Enc (enc dec)
open Go.AM.Row (row ofRow)
def lowerI (c : Int) : Bool := decide (97 ≤ c) && decide (c ≤ 122)
def digitI (c : Int) : Bool := decide (48 ≤ c) && decide (c ≤ 57)
def upperI (c : Int) : Bool := decide (65 ≤ c) && decide (c ≤ 90)
/-- may it stand in a word? -/
def innerI (c : Int) : Bool := lowerI c || upperI c || digitI c || decide (c = 95)
/-- may it stand in a name? -/
def nameI (c : Int) : Bool := lowerI c || digitI c || decide (c = 95)
def nameB (c : UInt8) : Bool := nameI c.toNat
/-- how many bytes of a name stand ahead -/
def runName (l : List UInt8) : Nat := (l.takeWhile nameB).length
def nameOk (s : Str) : Bool := match s.data.toList with
  | [] => false
  | c :: r => decide (r.length + 1 ≤ 24) && lowerI c.toNat && (c :: r).all nameB
def numOk (s : Str) : Bool := match Lib.atoiAll s.data.toList with
  | .ok v => decide (1 ≤ v) && decide (v ≤ 1024) && decide ((⟨(Lib.itoa v).toArray⟩ : ByteArray) = s)
  | _ => false
def dot : Str := ⟨#[46]⟩
def parts (s : Str) : List Str := Lib.splitB dot 0 (Lib.countB s dot) s
def idOk (s : Str) : Bool := (parts s).tail.all numOk && (decide (s.size ≤ 60) && nameOk ((parts s).headD ByteArray.empty))
end Go.AM.Lineage
end
section
namespace Go.AM.Lineage
open Go Go.AM Go.AM.Orient
open Go.AM.Enc (enc dec)
open Go.AM.Row (row ofRow)
/-- an index is added to the group of a key -/
def addKid : List (Str × List Int) → Str → Int → List (Str × List Int)
  | [], k, i => [(k, [i])]
  | (k', v) :: r, k, i => if k' = k then (k', v ++ [i]) :: r else (k', v) :: addKid r k i
/-- the groups of the first pieces, by their parents -/
def kidsTo (l : List Piece) : Nat → List (Str × List Int)
  | 0 => []
  | i + 1 => match l[i]? with
    | some p => addKid (kidsTo l i) p.Parent i
    | none => kidsTo l i
def kids (l : List Piece) : List (Str × List Int) := kidsTo l l.length
def idsTo (l : List Piece) (i : Nat) : List Str := (l.take i).map (·.Id)
def Dup (l : List Piece) : Prop := ∃ i, ∃ h : i < l.length, l[i].Id ∈ idsTo l i
def BadParent (l : List Piece) : Prop := ∃ i, ∃ h : i < l.length, l[i].Parent ≠ ByteArray.empty ∧ l[i].Parent ∉ idsTo l i
def Outside (l : List Piece) : Prop := ∃ i, ∃ h : i < l.length, l[i].Parent ≠ ByteArray.empty ∧ ∃ k, ∃ hk : k < l.length, l[k].Id = l[i].Parent ∧ inside l[i].Box ⟨zeroV, (sizeOf l[k]).1⟩ = false
def Clash (l : List Piece) : Prop := ∃ i k, ∃ h : i < l.length, ∃ hk : k < i, l[i].Parent = (l[k]'(by omega)).Parent ∧ overlap l[i].Box (l[k]'(by omega)).Box = true
open Classical in
noncomputable def checkE (l : List Piece) : Int :=
  if 4096 < l.length then 7 else if l.any (fun p => !idOk p.Id) then 4 else if Dup l then 5 else if BadParent l then 3 else if l.any (fun p => !right p) then 1 else if Outside l then 12 else if Clash l then 11 else 0
/-- a tree as data -/
def idKeys (l : List Piece) : List D := l.map fun p => .str p.Id
def idVals (l : List Piece) : List D := (List.range l.length).map fun (i : Nat) => I i
def kKeys (l : List Piece) : List D := (kids l).map fun p => .str p.1
def kVals (l : List Piece) : List D := (kids l).map fun p => .list (p.2.map row)
def treeCells (l : List Piece) : List D := [.list (l.map row), .map (idKeys l) (idVals l), .map (kKeys l) (kVals l)]
def treeD (l : List Piece) : D := .ptr (treeCells l) 0
/-- the place of a key -/
def idxK (k : Str) (ks : List Str) : Option Nat := ks.findIdx? fun x => decide (k = x)
theorem findK_str (k : Str) : ∀ (ks : List Str) (n : Nat), findK (.str k) (ks.map D.str) n = some ((idxK k ks).map (· + n))
  | [], n => rfl
  | x :: ks, n => by
    simp only [List.map_cons, findK, keyEq]
    by_cases h : k = x
    · subst h; simp [idxK, List.findIdx?_cons]
    · simp only [str_beq, h, decide_false, findK_str k ks (n + 1), idxK, List.findIdx?_cons]
      cases List.findIdx? (fun x => decide (k = x)) ks <;> simp; omega
theorem idxK_none {k : Str} {ks : List Str} : idxK k ks = none ↔ k ∉ ks := by
  unfold idxK
  rw [List.findIdx?_eq_none_iff]
  constructor
  · intro h hk; simpa using h k hk
  · intro h x hx; simp; intro e; subst e; exact h hx
theorem idxK_some {k : Str} {ks : List Str} {j : Nat} (h : idxK k ks = some j) : ∃ hj : j < ks.length, ks[j] = k := by
  unfold idxK at h
  rw [List.findIdx?_eq_some_iff_getElem] at h
  obtain ⟨hj, he, _⟩ := h
  simp at he
  exact ⟨hj, he.symm⟩
theorem addKid_some : ∀ {r : List (Str × List Int)} {k : Str} {i : Int} {j : Nat}, idxK k (r.map (·.1)) = some j → ∃ hj : j < r.length, addKid r k i = r.set j (k, r[j].2 ++ [i])
  | [], k, i, j, h => by simp [idxK] at h
  | (k', v) :: r, k, i, j, h => by
    by_cases e : k' = k
    · subst e
      simp [idxK, List.findIdx?_cons] at h
      subst h
      exact ⟨by simp, by simp [addKid]⟩
    · have e' : ¬ k = k' := fun h => e h.symm
      simp only [List.map_cons, idxK, List.findIdx?_cons, e', decide_false] at h
      cases hr : List.findIdx? (fun x => decide (k = x)) (r.map (·.1)) with
      | none => rw [hr] at h; simp at h
      | some q =>
        rw [hr] at h
        simp at h
        subst h
        obtain ⟨hj, ha⟩ := addKid_some (i := i) (show idxK k (r.map (·.1)) = some q from hr)
        exact ⟨by simp; omega, by simp [addKid, e, ha]⟩
theorem addKid_none : ∀ {r : List (Str × List Int)} {k : Str} {i : Int}, idxK k (r.map (·.1)) = none → addKid r k i = r ++ [(k, [i])]
  | [], k, i, h => rfl
  | (k', v) :: r, k, i, h => by
    rw [idxK_none] at h
    simp at h
    have e : ¬ k' = k := fun e => h.1 e.symm
    have := addKid_none (r := r) (k := k) (i := i) (by rw [idxK_none]; simpa using h.2)
    simp [addKid, e, this]
/-- groups as the call's own slices -/
def zipOwn (toks : List Nat) (ks : List (Str × List Int)) : List V := List.zipWith (fun t p => V.own t (p.2.map row)) toks ks
theorem idsTo_length {l : List Piece} {i : Nat} (h : i ≤ l.length) : (idsTo l i).length = i := by simp [idsTo]; omega
theorem idsTo_succ {l : List Piece} {i : Nat} (h : i < l.length) : idsTo l (i + 1) = idsTo l i ++ [l[i].Id] := by
  unfold idsTo; rw [List.take_add_one, List.getElem?_eq_getElem h, List.map_append]; rfl
theorem kidsTo_succ {l : List Piece} {i : Nat} (h : i < l.length) : kidsTo l (i + 1) = addKid (kidsTo l i) l[i].Parent i := by
  rw [kidsTo, List.getElem?_eq_getElem h]
theorem addKid_len {n : Nat} : ∀ {r : List (Str × List Int)} {k : Str} {i : Int}, (∀ p ∈ r, p.2.length ≤ n) → ∀ p ∈ addKid r k i, p.2.length ≤ n + 1
  | [], k, i, _, p, hp => by simp [addKid] at hp; subst hp; simp
  | (k', v) :: r, k, i, h, p, hp => by
    simp only [addKid] at hp
    split at hp
    · rcases List.mem_cons.1 hp with rfl | hp
      · have := h _ (List.mem_cons_self ..); simp at this ⊢; omega
      · have := h p (List.mem_cons_of_mem _ hp); omega
    · rcases List.mem_cons.1 hp with rfl | hp
      · have := h _ (List.mem_cons_self ..); simp at this ⊢; omega
      · exact addKid_len (fun q hq => h q (List.mem_cons_of_mem _ hq)) p hp
theorem kidsTo_len {l : List Piece} : ∀ {i : Nat}, ∀ p ∈ kidsTo l i, p.2.length ≤ i
  | 0, p, h => by simp [kidsTo] at h
  | i + 1, p, h => by
    simp only [kidsTo] at h
    split at h
    · exact addKid_len (fun q hq => kidsTo_len q hq) p h
    · have := kidsTo_len p h; omega
def kidKeys (r : List (Str × List Int)) : List D := r.map fun p => D.str p.1
theorem kidKeys_eq (r : List (Str × List Int)) : kidKeys r = (r.map (·.1)).map D.str := by simp [kidKeys]
theorem findK_kids (k : Str) (r : List (Str × List Int)) (n : Nat) : findK (.str k) (kidKeys r) n = some ((idxK k (r.map (·.1))).map (· + n)) := by
  rw [kidKeys_eq, findK_str]
@[simp] theorem kidKeys_length (r : List (Str × List Int)) : (kidKeys r).length = r.length := by simp [kidKeys]
theorem kidKeys_snoc (r : List (Str × List Int)) (k : Str) (v : List Int) : kidKeys (r ++ [(k, v)]) = kidKeys r ++ [.str k] := by simp [kidKeys]
theorem kidKeys_set {r : List (Str × List Int)} {k : Str} {v : List Int} {j : Nat} (h : ∃ hj : j < r.length, r[j].1 = k) : kidKeys (r.set j (k, v)) = kidKeys r := by
  obtain ⟨hj, rfl⟩ := h
  apply List.ext_getElem
  · simp
  · intro n h1 h2
    simp only [kidKeys, List.getElem_map, List.getElem_set]
    split
    · rename_i e; subst e; rfl
    · rfl
theorem zipOwn_length {toks : List Nat} {r : List (Str × List Int)} (h : toks.length = r.length) : (zipOwn toks r).length = r.length := by simp [zipOwn, h]
theorem zipOwn_get {toks : List Nat} {r : List (Str × List Int)} {j : Nat} (h : toks.length = r.length) (hj : j < r.length) : (zipOwn toks r)[j]? = some (V.own (toks[j]'(by omega)) (r[j].2.map row)) := by
  rw [List.getElem?_eq_getElem (by rw [zipOwn_length h]; exact hj)]; simp [zipOwn]
theorem zipOwn_snoc {toks : List Nat} {r : List (Str × List Int)} {t : Nat} {p : Str × List Int} (h : toks.length = r.length) : zipOwn (toks ++ [t]) (r ++ [p]) = zipOwn toks r ++ [V.own t (p.2.map row)] := by
  unfold zipOwn; rw [List.zipWith_append h]; rfl
theorem zipOwn_set {toks : List Nat} {r : List (Str × List Int)} {t j : Nat} {p : Str × List Int} : zipOwn (toks.set j t) (r.set j p) = (zipOwn toks r).set j (V.own t (p.2.map row)) := by
  unfold zipOwn
  apply List.ext_getElem
  · simp
  · intro n h1 h2
    simp only [List.getElem_zipWith, List.getElem_set]
    split <;> rfl
theorem nodup_set {l : List Nat} {j x : Nat} (h : l.Nodup) (hx : x ∉ l) : (l.set j x).Nodup := by
  rw [List.Nodup, List.pairwise_iff_getElem] at *
  intro a b ha hb hab
  simp only [List.length_set] at ha hb
  simp only [List.getElem_set]
  split
  · split
    · omega
    · intro e; exact hx (e ▸ List.getElem_mem hb)
  · split
    · intro e; exact hx (e ▸ List.getElem_mem ha)
    · exact h a b ha hb hab
theorem mem_set_nodup {l : List Nat} {j x t : Nat} (h : l.Nodup) (hj : j < l.length) (ht : t ∈ l.set j x) : t = x ∨ (t ∈ l ∧ t ≠ l[j]) := by
  obtain ⟨n, hn, rfl⟩ := List.getElem_of_mem ht
  simp only [List.length_set] at hn
  simp only [List.getElem_set]
  split
  · exact .inl rfl
  · rename_i hne
    refine .inr ⟨List.getElem_mem hn, fun e => hne ?_⟩
    exact (((List.getElem_inj h).1 e)).symm
theorem idxK_lt {l : List Piece} {p : Str} {k i : Nat} (h : idxK p (idsTo l l.length) = some k) (hi : i ≤ l.length) : k < i ↔ p ∈ idsTo l i := by
  unfold idxK at h
  rw [List.findIdx?_eq_some_iff_getElem] at h
  obtain ⟨hk, he, hn⟩ := h
  have hlen := idsTo_length (Nat.le_refl l.length)
  have hli := idsTo_length hi
  simp only [decide_eq_true_eq] at he
  have key : ∀ j (h1 : j < i), (idsTo l i)[j]'(by omega) = (idsTo l l.length)[j]'(by omega) := by
    intro j h1; simp [idsTo]
  constructor
  · intro hki
    rw [he, ← key k hki]; exact List.getElem_mem _
  · intro hm
    obtain ⟨j, hj, e⟩ := List.getElem_of_mem hm
    have hj' : j < i := by omega
    rw [key j hj'] at e
    by_cases hc : k < i
    · exact hc
    · have := hn j (by omega)
      simp at this
      exact absurd e.symm this
theorem idsTo_get {l : List Piece} {j : Nat} (h : j < l.length) : (idsTo l l.length)[j]'(by rw [idsTo_length (Nat.le_refl _)]; exact h) = l[j].Id := by simp [idsTo]
theorem idsTo_sub {l : List Piece} {i : Nat} {p : Str} (h : p ∈ idsTo l i) : p ∈ idsTo l l.length := by
  unfold idsTo at *
  obtain ⟨x, hx, rfl⟩ := List.mem_map.1 h
  exact List.mem_map.2 ⟨x, by rw [List.take_length]; exact List.mem_of_mem_take hx, rfl⟩
/-- ids differ: the index of a piece's id is its own -/
theorem ids_inj {l : List Piece} (hnd : ∀ j (h : j < l.length), l[j].Id ∉ idsTo l j) {a b : Nat} (ha : a < l.length) (hb : b < l.length) (he : l[a].Id = l[b].Id) : a = b := by
  rcases Nat.lt_trichotomy a b with h | h | h
  · exact absurd (by rw [← he]; unfold idsTo; exact List.mem_map.2 ⟨l[a], by rw [List.mem_take_iff_getElem]; exact ⟨a, by omega, rfl⟩, rfl⟩) (hnd b hb)
  · exact h
  · exact absurd (by rw [he]; unfold idsTo; exact List.mem_map.2 ⟨l[b], by rw [List.mem_take_iff_getElem]; exact ⟨b, by omega, rfl⟩, rfl⟩) (hnd a ha)
theorem idxK_id {l : List Piece} (hnd : ∀ j (h : j < l.length), l[j].Id ∉ idsTo l j) {p : Str} {k : Nat} (h : idxK p (idsTo l l.length) = some k) : ∃ hk : k < l.length, l[k].Id = p := by
  obtain ⟨hk, he⟩ := idxK_some h
  have hk' : k < l.length := by rw [idsTo_length (Nat.le_refl _)] at hk; exact hk
  exact ⟨hk', by rw [← idsTo_get hk']; exact he⟩
/-- the pieces with a parent among the first ones -/
def kidIdx (l : List Piece) (k : Str) (i : Nat) : List Int := ((List.range i).filter fun j => decide ((l[j]?.map (·.Parent)) = some k)).map fun (j : Nat) => (j : Int)
theorem kidIdx_succ {l : List Piece} {i : Nat} (h : i < l.length) (k : Str) : kidIdx l k (i + 1) = if l[i].Parent = k then kidIdx l k i ++ [(i : Int)] else kidIdx l k i := by
  unfold kidIdx
  rw [List.range_succ, List.filter_append, List.map_append]
  by_cases hk : l[i].Parent = k
  · rw [if_pos hk, List.filter_cons_of_pos (by simp [List.getElem?_eq_getElem h, hk])]; rfl
  · rw [if_neg hk, List.filter_cons_of_neg (by simp [List.getElem?_eq_getElem h, hk])]; simp
theorem addKid_keys1 : ∀ {r : List (Str × List Int)} {k : Str} {i : Int}, k ∈ r.map (·.1) → (addKid r k i).map (·.1) = r.map (·.1)
  | [], k, i, h => by simp at h
  | (k', v) :: r, k, i, h => by
    simp only [addKid]
    by_cases e : k' = k
    · subst e; simp
    · have h' : k ∈ r.map (·.1) := by
        simp only [List.map_cons, List.mem_cons] at h
        exact h.resolve_left (fun h => e h.symm)
      simp only [if_neg e, List.map_cons, addKid_keys1 h']
theorem addKid_keys2 : ∀ {r : List (Str × List Int)} {k : Str} {i : Int}, k ∉ r.map (·.1) → (addKid r k i).map (·.1) = r.map (·.1) ++ [k]
  | [], k, i, h => rfl
  | (k', v) :: r, k, i, h => by
    simp only [List.map_cons, List.mem_cons, not_or] at h
    have e : ¬ k' = k := fun e => h.1 e.symm
    simp only [addKid, if_neg e, List.map_cons, addKid_keys2 h.2, List.cons_append]
theorem mem_addKid : ∀ {r : List (Str × List Int)} {k : Str} {i : Int}, (r.map (·.1)).Nodup → ∀ q, q ∈ addKid r k i ↔ (q.1 ≠ k ∧ q ∈ r) ∨ (q.1 = k ∧ ((∃ v, (k, v) ∈ r ∧ q.2 = v ++ [i]) ∨ (k ∉ r.map (·.1) ∧ q.2 = [i])))
  | [], k, i, _, q => by
    obtain ⟨a, b⟩ := q
    simp [addKid]
  | (k', v) :: r, k, i, hn, q => by
    obtain ⟨a, b⟩ := q
    simp only [List.map_cons, List.nodup_cons] at hn
    simp only [addKid]
    by_cases e : k' = k
    · subst e
      have hnot : ∀ w, (k', w) ∉ r := fun w hw => hn.1 (List.mem_map.2 ⟨_, hw, rfl⟩)
      simp only [if_true, List.mem_cons, Prod.mk.injEq, List.map_cons, not_or, not_true, false_and, or_false, ne_eq]
      constructor
      · rintro (⟨rfl, rfl⟩ | hq)
        · exact .inr ⟨rfl, v, .inl ⟨trivial, rfl⟩, rfl⟩
        · by_cases ea : a = k'
          · subst ea; exact absurd hq (hnot _)
          · exact .inl ⟨ea, .inr hq⟩
      · rintro (⟨ea, ⟨e1, _⟩ | hq⟩ | ⟨rfl, w, ⟨_, rfl⟩ | hw, rfl⟩)
        · exact absurd e1 ea
        · exact .inr hq
        · exact .inl ⟨rfl, rfl⟩
        · exact absurd hw (hnot _)
    · have e' : ¬ k = k' := fun h => e h.symm
      simp only [if_neg e, List.mem_cons, mem_addKid hn.2, Prod.mk.injEq, List.map_cons, not_or, e', false_and, not_false_eq_true, true_and, false_or]
      constructor
      · rintro (⟨rfl, rfl⟩ | ⟨h1, h2⟩ | ⟨h1, h2⟩)
        · exact .inl ⟨e, .inl ⟨rfl, rfl⟩⟩
        · exact .inl ⟨h1, .inr h2⟩
        · exact .inr ⟨h1, h2⟩
      · rintro (⟨h1, ⟨rfl, rfl⟩ | h2⟩ | ⟨h1, h2⟩)
        · exact .inl ⟨rfl, rfl⟩
        · exact .inr (.inl ⟨h1, h2⟩)
        · exact .inr (.inr ⟨h1, h2⟩)
theorem kidsTo_spec {l : List Piece} : ∀ {i : Nat}, i ≤ l.length → ((kidsTo l i).map (·.1)).Nodup ∧ (∀ q ∈ kidsTo l i, q.2 = kidIdx l q.1 i) ∧ (∀ k, k ∈ (kidsTo l i).map (·.1) ↔ ∃ j, ∃ h : j < l.length, j < i ∧ l[j].Parent = k)
  | 0, _ => by simp [kidsTo]
  | i + 1, hi => by
    have hlt : i < l.length := by omega
    obtain ⟨h1, h2, h3⟩ := kidsTo_spec (l := l) (i := i) (by omega)
    rw [kidsTo_succ hlt]
    refine ⟨?_, fun q hq => ?_, fun k => ?_⟩
    · by_cases hk : l[i].Parent ∈ (kidsTo l i).map (·.1)
      · rw [addKid_keys1 hk]; exact h1
      · rw [addKid_keys2 hk, List.nodup_append]
        exact ⟨h1, by simp, fun a ha b hb => by simp at hb; subst hb; intro e; subst e; exact hk ha⟩
    · rw [mem_addKid h1] at hq
      rw [kidIdx_succ hlt]
      rcases hq with ⟨a, b⟩ | ⟨a, ⟨v, b, c⟩ | ⟨b, c⟩⟩
      · rw [if_neg (fun e => a e.symm)]; exact h2 q b
      · have := h2 _ b
        simp only at this
        rw [if_pos a.symm, c, this, a]
      · rw [if_pos a.symm, c]
        have : kidIdx l q.1 i = [] := by
          unfold kidIdx
          rw [List.map_eq_nil_iff, List.filter_eq_nil_iff]
          intro j hj
          simp only [List.mem_range] at hj
          simp only [decide_eq_true_eq]
          rw [List.getElem?_eq_getElem (show j < l.length by omega)]
          simp only [Option.map_some, Option.some.injEq]
          intro e
          exact b ((h3 _).2 ⟨j, by omega, hj, by rw [e, a]⟩)
        rw [this]; rfl
    · by_cases hk : l[i].Parent ∈ (kidsTo l i).map (·.1)
      · rw [addKid_keys1 hk, h3]
        constructor
        · rintro ⟨j, hj, a, b⟩; exact ⟨j, hj, by omega, b⟩
        · rintro ⟨j, hj, a, b⟩
          by_cases e : j = i
          · subst e; subst b; exact (h3 _).1 hk
          · exact ⟨j, hj, by omega, b⟩
      · rw [addKid_keys2 hk, List.mem_append, h3]
        simp only [List.mem_singleton]
        constructor
        · rintro (⟨j, hj, a, b⟩ | rfl)
          · exact ⟨j, hj, by omega, b⟩
          · exact ⟨i, hlt, by omega, rfl⟩
        · rintro ⟨j, hj, a, b⟩
          by_cases e : j = i
          · subst e; exact .inr b.symm
          · exact .inl ⟨j, hj, by omega, b⟩
/-- no two of a group overlap -/
def groupOk (l : List Piece) (v : List Int) : Prop := ∀ a b : Nat, b < a → a < v.length → ∀ p q, l[(v.getD a 0).toNat]? = some p → l[(v.getD b 0).toNat]? = some q → overlap p.Box q.Box = false
theorem kidIdx_nat (l : List Piece) (k : Str) (i : Nat) : ∃ v : List Nat, kidIdx l k i = v.map (fun (j : Nat) => (j : Int)) ∧ v.Pairwise (· < ·) ∧ ∀ j, j ∈ v ↔ j < i ∧ (l[j]?.map (·.Parent)) = some k := by
  refine ⟨_, rfl, List.Pairwise.filter _ List.pairwise_lt_range, fun j => ?_⟩
  simp [List.mem_filter]
theorem getD_map_nat (v : List Nat) {a : Nat} (h : a < v.length) : ((v.map (fun (j : Nat) => (j : Int))).getD a 0).toNat = v[a] := by
  simp [List.getD_eq_getElem?_getD, h]
theorem clash_iff {l : List Piece} : (∀ j (hj : j < (kidsTo l l.length).length), groupOk l (kidsTo l l.length)[j].2) ↔ ¬ Clash l := by
  obtain ⟨h1, h2, h3⟩ := kidsTo_spec (Nat.le_refl l.length)
  constructor
  · rintro hg ⟨i, k, hi, hk, hp, ho⟩
    obtain ⟨q, hq, hqk⟩ := List.mem_map.1 ((h3 l[i].Parent).2 ⟨i, hi, hi, rfl⟩)
    obtain ⟨j, hj, rfl⟩ := List.getElem_of_mem hq
    have hg := hg j hj
    rw [h2 _ hq] at hg
    obtain ⟨v, hv, hs, hm⟩ := kidIdx_nat l (kidsTo l l.length)[j].1 l.length
    rw [hv] at hg
    have mi : i ∈ v := (hm i).2 ⟨hi, by rw [List.getElem?_eq_getElem hi, Option.map_some, hqk]⟩
    have mk : k ∈ v := (hm k).2 ⟨by omega, by rw [List.getElem?_eq_getElem (by omega), Option.map_some, hqk, hp]⟩
    obtain ⟨a, ha, ea⟩ := List.getElem_of_mem mi
    obtain ⟨b, hb, eb⟩ := List.getElem_of_mem mk
    have hab : b < a := by
      rcases Nat.lt_trichotomy a b with h | h | h
      · have := (List.pairwise_iff_getElem.1 hs) a b ha hb h; omega
      · subst h; omega
      · exact h
    have := hg a b hab (by simpa using ha) l[i] (l[k]'(by omega)) (by rw [getD_map_nat v ha, ea, List.getElem?_eq_getElem hi]) (by rw [getD_map_nat v hb, eb, List.getElem?_eq_getElem (by omega)])
    rw [this] at ho; cases ho
  · intro hc j hj a b hab ha p q hp hq
    have hq' := List.getElem_mem hj
    rw [h2 _ hq'] at ha hp hq
    obtain ⟨v, hv, hs, hm⟩ := kidIdx_nat l (kidsTo l l.length)[j].1 l.length
    rw [hv] at ha hp hq
    have ha' : a < v.length := by simpa using ha
    have hb' : b < v.length := by omega
    rw [getD_map_nat v ha'] at hp
    rw [getD_map_nat v hb'] at hq
    obtain ⟨i1, i2⟩ := (hm v[a]).1 (List.getElem_mem ha')
    obtain ⟨k1, k2⟩ := (hm v[b]).1 (List.getElem_mem hb')
    cases ho : overlap p.Box q.Box with
    | false => rfl
    | true =>
      refine absurd ⟨v[a], v[b], i1, (List.pairwise_iff_getElem.1 hs) b a hb' ha' hab, ?_, ?_⟩ hc
      · rw [List.getElem?_eq_getElem i1] at i2
        rw [List.getElem?_eq_getElem k1] at k2
        simp only [Option.map_some, Option.some.injEq] at i2 k2
        rw [i2, k2]
      · rw [List.getElem?_eq_getElem i1] at hp
        rw [List.getElem?_eq_getElem k1] at hq
        cases hp; cases hq; exact ho
theorem mapM_all {α β : Type} {f : α → Option β} {g : α → β} : ∀ {l : List α}, (∀ x ∈ l, f x = some (g x)) → l.mapM f = some (l.map g)
  | [], _ => rfl
  | x :: l, h => by
    rw [List.mapM_cons, h x (List.mem_cons_self ..), mapM_all (fun y hy => h y (List.mem_cons_of_mem _ hy))]; rfl
theorem freeze_zip {h : Heap} {k : Nat} : ∀ {toks : List Nat} {r : List (Str × List Int)}, toks.length = r.length → (zipOwn toks r).mapM (freezeV h (k + 1)) = some (r.map fun p => .list (p.2.map row))
  | [], [], _ => rfl
  | [], _ :: _, h => by simp at h
  | _ :: _, [], h => by simp at h
  | t :: toks, p :: r, hl => by
    have := freeze_zip (h := h) (k := k) (toks := toks) (r := r) (by simpa using hl)
    unfold zipOwn at *
    rw [List.zipWith_cons_cons, List.mapM_cons, freeze_own, this]; rfl
theorem freeze_tree {l : List Piece} {toks : List Nat} {h : Heap} {k : Nat} (k1 : toks.length = (kidsTo l l.length).length) (g8 : h.blk 11 = .cells [.d (.list (l.map row)), .mref 8, .mref 9])
    (g9 : h.blk 8 = .map ((idsTo l l.length).map D.str) ((List.range l.length).map fun (j : Nat) => V.d (I j))) (k4 : h.blk 9 = .map (kidKeys (kids l)) (zipOwn toks (kids l))) : freezeV h (k + 3) (.ref 11 0) = some (treeD l) := by
  rw [freeze_ref g8]
  have e1 : freezeV h (k + 2) (.mref 8) = some (.map (l.map fun p => .str p.Id) ((List.range l.length).map fun (i : Nat) => I i)) := by
    rw [freeze_mref g9 (by simp [idsTo]), mapM_all (g := fun v => match v with | .d x => x | _ => .nilp) (by
      intro x hx
      obtain ⟨j, _, rfl⟩ := List.mem_map.1 hx
      simp)]
    simp [idsTo]
  have e2 : freezeV h (k + 2) (.mref 9) = some (.map ((kids l).map fun p => .str p.1) ((kids l).map fun p => .list (p.2.map row))) := by
    rw [freeze_mref k4 (by rw [kidKeys_length]; exact (zipOwn_length k1).symm), show zipOwn toks (kids l) = zipOwn toks (kidsTo l l.length) from rfl, freeze_zip k1]; rfl
  rw [List.mapM_cons, List.mapM_cons, List.mapM_cons, List.mapM_nil, freeze_d, e1, e2]; rfl
end Go.AM.Lineage
end
section
namespace Go.AM.Lineage
open Go Go.AM Go.AM.Orient
open Go.AM.Enc (enc dec)
open Go.AM.Row (row ofRow)
set_option linter.unusedVariables false
theorem findK_ids (k : Str) (l : List Piece) (n : Nat) : findK (.str k) (idKeys l) n = some ((idxK k (idsTo l l.length)).map (· + n)) := by
  rw [← findK_str]; simp [idsTo, idKeys, Function.comp_def]
@[simp] theorem idKeys_length (l : List Piece) : (idKeys l).length = l.length := by simp [idKeys]
@[simp] theorem idVals_length (l : List Piece) : (idVals l).length = l.length := by simp [idVals]
theorem idVals_get {l : List Piece} {k : Nat} (h : k < l.length) : (idVals l)[k]? = some (I k) := by simp [idVals, h]
@[simp] theorem kKeys_length (l : List Piece) : (kKeys l).length = (kids l).length := by simp [kKeys]
@[simp] theorem kVals_length (l : List Piece) : (kVals l).length = (kids l).length := by simp [kVals]
theorem findK_kk (k : Str) (l : List Piece) (n : Nat) : findK (.str k) (kKeys l) n = some ((idxK k ((kids l).map (·.1))).map (· + n)) := by
  rw [← findK_str]; simp [kKeys, Function.comp_def]
theorem treeD_inj {l l' : List Piece} (h : treeD l = treeD l') : l = l' := by
  unfold treeD treeCells at h
  injection h with h1 _
  injection h1 with h2 _
  injection h2 with h3
  have := decRows_map l
  rw [h3, decRows_map] at this
  exact (Option.some.inj this).symm
/-- functions of a tree -/
noncomputable def onTree (g : List Piece → Option D) (t : D) : Option D := open Classical in if h : ∃ l, t = treeD l then g (Classical.choose h) else none
theorem onTree_eq (g : List Piece → Option D) (l : List Piece) : onTree g (treeD l) = g l := by
  have h : ∃ l', treeD l = treeD l' := ⟨l, rfl⟩
  unfold onTree
  rw [dif_pos h, ← treeD_inj (Classical.choose_spec h)]
theorem onTree_eq' (g : List Piece → Option D) (l : List Piece) : onTree g (.ptr [.list (l.map row), .map (idKeys l) (idVals l), .map (kKeys l) (kVals l)] 0) = g l := onTree_eq g l
theorem onTree_some {g : List Piece → Option D} {t d : D} (h : onTree g t = some d) : ∃ l, t = treeD l ∧ g l = some d := by
  unfold onTree at h
  split at h
  · rename_i hx; exact ⟨_, Classical.choose_spec hx, h⟩
  · cases h
/-- what holds of a valid lineage -/
theorem valid_of {l : List Piece} (h : checkE l = 0) : l.length ≤ 4096 ∧ (∀ p ∈ l, idOk p.Id = true) ∧ (∀ j (hj : j < l.length), l[j].Id ∉ idsTo l j) ∧ (∀ j (hj : j < l.length), l[j].Parent = ByteArray.empty ∨ l[j].Parent ∈ idsTo l j) ∧
    (∀ p ∈ l, right p = true) ∧ ¬ Outside l ∧ ¬ Clash l := by
  unfold checkE at h
  split at h; · cases h
  rename_i h1
  split at h; · cases h
  rename_i h2
  split at h; · cases h
  rename_i h3
  split at h; · cases h
  rename_i h4
  split at h; · cases h
  rename_i h5
  split at h; · cases h
  rename_i h6
  split at h; · cases h
  rename_i h7
  refine ⟨by omega, fun p hp => ?_, fun j hj hm => h3 ⟨j, hj, hm⟩, fun j hj => ?_, fun p hp => ?_, h6, h7⟩
  · cases hi : idOk p.Id with
    | true => rfl
    | false => exact absurd (List.any_eq_true.2 ⟨p, hp, by simp [hi]⟩) h2
  · by_cases e : l[j].Parent = ByteArray.empty
    · exact .inl e
    · by_cases hm : l[j].Parent ∈ idsTo l j
      · exact .inr hm
      · exact absurd ⟨j, hj, e, hm⟩ h4
  · cases hi : right p with
    | true => rfl
    | false => exact absurd (List.any_eq_true.2 ⟨p, hp, by simp [hi]⟩) h5
/-- the parent of a piece stands ahead of it -/
theorem parent_of {l : List Piece} (h : checkE l = 0) {i : Nat} (hi : i < l.length) (hp : l[i].Parent ≠ ByteArray.empty) : ∃ k, idxK l[i].Parent (idsTo l l.length) = some k ∧ k < i := by
  obtain ⟨_, _, hnd, hpar, _⟩ := valid_of h
  have hm := (hpar i hi).resolve_left hp
  cases hk : idxK l[i].Parent (idsTo l l.length) with
  | none => exact absurd (idsTo_sub hm) (idxK_none.1 hk)
  | some k => exact ⟨k, rfl, (idxK_lt hk (by omega)).2 hm⟩
open Classical in
noncomputable def openD (l : List Piece) (id : Str) : D :=
  if checkE l = 0 then (match idxK id (idsTo l l.length) with
    | some k => .tuple [treeD l, I k, I 0]
    | none => .tuple [.nilp, I 0, I 3]) else .tuple [.nilp, I 0, I (checkE l)]
/-- the pose of a piece in the quarry -/
def poseF (l : List Piece) : Nat → Nat → Pose
  | 0, _ => zeroP
  | f + 1, i => match l[i]? with
    | none => zeroP
    | some p => if p.Parent = ByteArray.empty then p.Pose else match idxK p.Parent (idsTo l l.length) with
      | some k => (join (poseF l f k) p.Pose).1
      | none => zeroP
theorem poseF_fuel {l : List Piece} (h : checkE l = 0) : ∀ (f g i : Nat), i < f → i < g → poseF l f i = poseF l g i
  | 0, _, _, h1, _ => by omega
  | _, 0, _, _, h2 => by omega
  | f + 1, g + 1, i, h1, h2 => by
    simp only [poseF]
    cases hi : l[i]? with
    | none => rfl
    | some p =>
      simp only []
      split
      · rfl
      · rename_i hp
        have hlt : i < l.length := (List.getElem?_eq_some_iff.1 hi).1
        have hpi : p = l[i] := by rw [List.getElem?_eq_getElem hlt] at hi; cases hi; rfl
        subst hpi
        obtain ⟨k, hk, hki⟩ := parent_of h hlt hp
        rw [hk]
        simp only []
        rw [poseF_fuel h f g k (by omega) (by omega)]
def poseOf (l : List Piece) (i : Nat) : Pose := poseF l (i + 1) i
theorem poseOf_top {l : List Piece} {i : Nat} (hi : i < l.length) (hp : l[i].Parent = ByteArray.empty) : poseOf l i = l[i].Pose := by
  simp [poseOf, poseF, List.getElem?_eq_getElem hi, hp]
theorem poseOf_kid {l : List Piece} (h : checkE l = 0) {i k : Nat} (hi : i < l.length) (hp : l[i].Parent ≠ ByteArray.empty) (hk : idxK l[i].Parent (idsTo l l.length) = some k) (hki : k < i) : poseOf l i = (join (poseOf l k) l[i].Pose).1 := by
  unfold poseOf
  rw [poseF, List.getElem?_eq_getElem hi]
  simp only [if_neg hp, hk]
  rw [poseF_fuel h i (k + 1) k hki (by omega)]
/-- the place of a piece in the quarry -/
def placeOf (l : List Piece) (i : Nat) : Box := match l[i]? with
  | some p => (boxOf (poseOf l i) ⟨zeroV, (sizeOf p).1⟩).1
  | none => zeroB
open Classical in
/-- the first error of a lineage and an id, or what is found -/
noncomputable def firstE (l : List Piece) (id : Str) : Int := if checkE l = 0 then (if idxK id (idsTo l l.length) = none then 3 else 0) else checkE l
def idxN (l : List Piece) (id : Str) : Nat := (idxK id (idsTo l l.length)).getD 0
def zeroPiece : Piece := ⟨ByteArray.empty, ByteArray.empty, zeroP, zeroB⟩
open Classical in
noncomputable def findE (l : List Piece) (id : Str) : Piece × Int := if firstE l id = 0 then (l.getD (idxN l id) zeroPiece, 0) else (zeroPiece, firstE l id)
open Classical in
noncomputable def poseE (l : List Piece) (id : Str) : Pose × Int := if firstE l id = 0 then (poseOf l (idxN l id), 0) else (zeroP, firstE l id)
open Classical in
noncomputable def placeE (l : List Piece) (id : Str) : Box × Int := if firstE l id = 0 then (placeOf l (idxN l id), 0) else (zeroB, firstE l id)
end Go.AM.Lineage
end
section
namespace Go.AM.Lineage
open Go Go.AM
open Go.AM.Enc (enc dec)
open Go.AM.Row (row ofRow)
def splitL (c : UInt8) : List UInt8 → List (List UInt8)
  | [] => [[]]
  | b :: r => if b == c then [] :: splitL c r else match splitL c r with
    | [] => [[b]]
    | p :: ps => (b :: p) :: ps
theorem splitL_eq (c : UInt8) : ∀ s : List UInt8, Lib.splitK [c] 0 (s.count c) s = splitL c s
  | [] => rfl
  | b :: l => by
    have ih := splitL_eq c l
    by_cases h : b = c
    · subst h
      have hix : Lib.index (b :: l) [b] = 0 := by rw [Lib.index]; simp [List.isPrefixOf]
      rw [List.count_cons_self, Lib.splitK, hix]
      simp [splitL, ih]
    · have hp : ([c] : List UInt8).isPrefixOf (b :: l) = false := by simp [List.isPrefixOf, Ne.symm h]
      have hix : Lib.index (b :: l) [c] = if Lib.index l [c] == -1 then -1 else Lib.index l [c] + 1 := by rw [Lib.index, hp]; simp
      have hb : (b == c) = false := by simpa using h
      rw [List.count_cons_of_ne (by simpa using h)]
      cases hk : l.count c with
      | zero =>
        rw [hk] at ih
        simp only [Lib.splitK] at ih ⊢
        simp [splitL, hb, ← ih]
      | succ k =>
        rw [hk] at ih
        have hm : Lib.index l [c] ≠ -1 := fun e => by
          have := Lib.count_miss (s := l) (sub := [c]) e
          rw [Lib.count_one] at this; omega
        have hge := Lib.index_ge l [c]
        obtain ⟨j, hj⟩ : ∃ j : Nat, Lib.index l [c] = j := ⟨(Lib.index l [c]).toNat, by omega⟩
        have hne : ¬ ((j : Int) = -1) := by omega
        have hne2 : ¬ ((j : Int) + 1 = -1) := by omega
        rw [hj] at hix
        rw [if_neg (by simpa using hne)] at hix
        rw [Lib.splitK, hj, if_neg (by simpa using hne)] at ih
        rw [Lib.splitK, hix, if_neg (by simpa using hne2)]
        simp only [splitL, hb, ← ih]
        have e1 : ((j : Int) + 1).toNat = j + 1 := by omega
        simp [e1]
theorem parts_data (s : Str) : (parts s).map (·.data.toList) = splitL 46 s.data.toList := by
  unfold parts
  rw [Lib.splitB_data]
  show Lib.splitK [46] 0 (Lib.count s.data.toList [46]) s.data.toList = _
  rw [Lib.count_one, splitL_eq]
def ofBytes (l : List UInt8) : Str := ⟨l.toArray⟩
theorem ofBytes_data (s : Str) : ofBytes s.data.toList = s := by simp [ofBytes]
theorem parts_eq (s : Str) : parts s = (splitL 46 s.data.toList).map ofBytes := by
  rw [← parts_data, List.map_map]
  have : (ofBytes ∘ fun x : Str => x.data.toList) = id := by funext x; exact ofBytes_data x
  rw [this, List.map_id]
end Go.AM.Lineage
end
section
namespace Go.AM.Orient
open Go Go.AM
open Go.AM.Enc (enc dec)
open Go.AM.Row (row ofRow)
set_option linter.unusedVariables false
set_option maxRecDepth 100000
theorem w64_eq {n : Int} (h1 : -9223372036854775808 ≤ n) (h2 : n < 9223372036854775808) : w64 n = n := wrap_i64 h1 (by omega)
/-- the image of a point, in plain numbers -/
def ap (n : Int) (v : Vec) : Vec := ⟨(sign n).1 * co v (axis n).1, (sign n).2.1 * co v (axis n).2.1, (sign n).2.2 * co v (axis n).2.2⟩
def pick (t : Int × Int × Int) (i : Int) : Int := if i = 0 then t.1 else if i = 1 then t.2.1 else t.2.2
def vadd (a b : Vec) : Vec := ⟨a.X + b.X, a.Y + b.Y, a.Z + b.Z⟩
def vsub (a b : Vec) : Vec := ⟨a.X - b.X, a.Y - b.Y, a.Z - b.Z⟩
def vmin (a b : Vec) : Vec := ⟨min a.X b.X, min a.Y b.Y, min a.Z b.Z⟩
def vmax (a b : Vec) : Vec := ⟨max a.X b.X, max a.Y b.Y, max a.Z b.Z⟩
def im (n : Int) (b : Box) : Box := ⟨vmin (ap n b.Min) (ap n b.Max), vmax (ap n b.Min) (ap n b.Max)⟩
/-- a box moved by a pose -/
def mv (p : Pose) (b : Box) : Box := ⟨vadd (im p.Turn b).Min p.Shift, vadd (im p.Turn b).Max p.Shift⟩
/-- a size turned -/
def perm (n : Int) (s : Vec) : Vec := ⟨co s (axis n).1, co s (axis n).2.1, co s (axis n).2.2⟩
def small (c : Int) (v : Vec) : Prop := (-c ≤ v.X ∧ v.X ≤ c) ∧ (-c ≤ v.Y ∧ v.Y ≤ c) ∧ (-c ≤ v.Z ∧ v.Z ≤ c)
theorem nearV_iff {v : Vec} : nearV v = true ↔ small 1000000 v := by simp [nearV, nearI, small]
theorem small.le {c d : Int} {v : Vec} (h : small c v) (hd : c ≤ d) : small d v := by unfold small at *; omega
theorem turn_cases {n : Int} (h : okTurn n = true) : (axis n = (0, 1, 2) ∨ axis n = (0, 2, 1) ∨ axis n = (1, 0, 2) ∨ axis n = (1, 2, 0) ∨ axis n = (2, 0, 1) ∨ axis n = (2, 1, 0)) ∧
    ((sign n).1 = 1 ∨ (sign n).1 = -1) ∧ ((sign n).2.1 = 1 ∨ (sign n).2.1 = -1) ∧ ((sign n).2.2 = 1 ∨ (sign n).2.2 = -1) := by
  simp only [okTurn, Bool.and_eq_true, decide_eq_true_eq] at h
  have hn : n = 0 ∨ n = 1 ∨ n = 2 ∨ n = 3 ∨ n = 4 ∨ n = 5 ∨ n = 6 ∨ n = 7 ∨ n = 8 ∨ n = 9 ∨ n = 10 ∨ n = 11 ∨ n = 12 ∨ n = 13 ∨ n = 14 ∨ n = 15 ∨ n = 16 ∨ n = 17 ∨ n = 18 ∨ n = 19 ∨ n = 20 ∨ n = 21 ∨ n = 22 ∨ n = 23 := by omega
  rcases hn with rfl | rfl | rfl | rfl | rfl | rfl | rfl | rfl | rfl | rfl | rfl | rfl | rfl | rfl | rfl | rfl | rfl | rfl | rfl | rfl | rfl | rfl | rfl | rfl <;> decide
theorem ap_small {n c : Int} {v : Vec} (h : okTurn n = true) (hv : small c v) : small c (ap n v) := by
  obtain ⟨h1, h2, h3, h4⟩ := turn_cases h
  unfold small at *
  rcases h1 with e | e | e | e | e | e <;> rcases h2 with e2 | e2 <;> rcases h3 with e3 | e3 <;> rcases h4 with e4 | e4 <;> simp [ap, e, e2, e3, e4, co] <;> omega
theorem apply_eq {n : Int} {v : Vec} (h : okTurn n = true) (hv : small 4000000 v) : apply n v = ap n v := by
  have := ap_small h hv
  unfold small ap at this
  unfold apply ap
  simp only at this ⊢
  rw [w64_eq (by omega) (by omega), w64_eq (by omega) (by omega), w64_eq (by omega) (by omega)]
theorem add_eq {a b : Vec} (ha : small 1000000000 a) (hb : small 1000000000 b) : add a b = vadd a b := by
  unfold small at *
  unfold add vadd
  rw [w64_eq (by omega) (by omega), w64_eq (by omega) (by omega), w64_eq (by omega) (by omega)]
theorem neg_eq {a : Vec} (ha : small 1000000000 a) : neg a = vsub ⟨0, 0, 0⟩ a := by
  unfold small at *
  unfold neg vsub
  rw [w64_eq (by omega) (by omega), w64_eq (by omega) (by omega), w64_eq (by omega) (by omega)]
theorem sub_eq {a b : Vec} (ha : small 1000000000 a) (hb : small 1000000000 b) : sub a b = vsub a b := by
  unfold small at *
  unfold sub vsub
  rw [w64_eq (by omega) (by omega), w64_eq (by omega) (by omega), w64_eq (by omega) (by omega)]
theorem lengths_eq {b : Box} (h1 : small 1000000000 b.Min) (h2 : small 1000000000 b.Max) : lengths b = vsub b.Max b.Min := sub_eq h2 h1
theorem image_eq {n : Int} {b : Box} (h : okTurn n = true) (h1 : small 4000000 b.Min) (h2 : small 4000000 b.Max) : image n b = im n b := by
  unfold image im
  rw [apply_eq h h1, apply_eq h h2]; rfl
theorem vmin_small {c : Int} {a b : Vec} (ha : small c a) (hb : small c b) : small c (vmin a b) := by unfold small vmin at *; simp only; omega
theorem vmax_small {c : Int} {a b : Vec} (ha : small c a) (hb : small c b) : small c (vmax a b) := by unfold small vmax at *; simp only; omega
theorem im_small {n c : Int} {b : Box} (h : okTurn n = true) (h1 : small c b.Min) (h2 : small c b.Max) : small c (im n b).Min ∧ small c (im n b).Max :=
  ⟨vmin_small (ap_small h h1) (ap_small h h2), vmax_small (ap_small h h1) (ap_small h h2)⟩
/-- the image of a box from 0 to a size -/
theorem im_size {n : Int} {s : Vec} (h : okTurn n = true) (hx : 0 ≤ s.X) (hy : 0 ≤ s.Y) (hz : 0 ≤ s.Z) : vsub (im n ⟨⟨0, 0, 0⟩, s⟩).Max (im n ⟨⟨0, 0, 0⟩, s⟩).Min = perm n s := by
  obtain ⟨x, y, z⟩ := s
  simp only at hx hy hz
  obtain ⟨h1, h2, h3, h4⟩ := turn_cases h
  rcases h1 with e | e | e | e | e | e <;> rcases h2 with e2 | e2 <;> rcases h3 with e3 | e3 <;> rcases h4 with e4 | e4 <;> simp [vsub, im, vmin, vmax, perm, ap, e, e2, e3, e4, co] <;> omega
theorem turned_eq {n : Int} {s : Vec} (h : okTurn n = true) (hs : small 1000000 s) (hx : 0 ≤ s.X) (hy : 0 ≤ s.Y) (hz : 0 ≤ s.Z) : turned n s = perm n s := by
  have h0 : small 1000000 (⟨0, 0, 0⟩ : Vec) := by unfold small; simp only; omega
  obtain ⟨k1, k2⟩ := im_small (b := ⟨⟨0, 0, 0⟩, s⟩) h h0 hs
  unfold turned
  rw [show zeroV = (⟨0, 0, 0⟩ : Vec) from rfl, image_eq h (h0.le (by omega)) (hs.le (by omega)), neg_eq (k1.le (by omega)), add_eq (k2.le (by omega)) (by unfold small vsub at *; simp only; omega), ← im_size h hx hy hz]
  simp only [vadd, vsub, Vec.mk.injEq]; omega
/-- all pairs of turns -/
def chkT (a b : Int) : Bool := okTurn (compose a b) && decide (axis (compose a b) = (pick (axis b) (axis a).1, pick (axis b) (axis a).2.1, pick (axis b) (axis a).2.2)) &&
  decide (sign (compose a b) = ((sign a).1 * pick (sign b) (axis a).1, (sign a).2.1 * pick (sign b) (axis a).2.1, (sign a).2.2 * pick (sign b) (axis a).2.2))
theorem chk_all : ((List.range 24).all fun a => (List.range 24).all fun b => chkT (a : Int) (b : Int)) = true := by kernel_rfl
theorem chk_inv : ((List.range 24).all fun a => okTurn (invert (a : Int)) && decide (compose (invert (a : Int)) (a : Int) = 0) && decide (compose (a : Int) (invert (a : Int)) = 0)) = true := by kernel_rfl
theorem turn_nat {n : Int} (h : okTurn n = true) : ∃ k : Nat, k < 24 ∧ (k : Int) = n := by
  simp only [okTurn, Bool.and_eq_true, decide_eq_true_eq] at h
  exact ⟨n.toNat, by omega, by omega⟩
theorem chk {a b : Int} (ha : okTurn a = true) (hb : okTurn b = true) : chkT a b = true := by
  obtain ⟨i, hi, rfl⟩ := turn_nat ha
  obtain ⟨j, hj, rfl⟩ := turn_nat hb
  exact List.all_eq_true.1 (List.all_eq_true.1 chk_all i (List.mem_range.2 hi)) j (List.mem_range.2 hj)
theorem compose_ok {a b : Int} (ha : okTurn a = true) (hb : okTurn b = true) : okTurn (compose a b) = true := by
  have := chk ha hb
  simp only [chkT, Bool.and_eq_true] at this; exact this.1.1
theorem invert_ok {a : Int} (ha : okTurn a = true) : okTurn (invert a) = true ∧ compose (invert a) a = 0 ∧ compose a (invert a) = 0 := by
  obtain ⟨i, hi, rfl⟩ := turn_nat ha
  have := List.all_eq_true.1 chk_inv i (List.mem_range.2 hi)
  simp only [Bool.and_eq_true, decide_eq_true_eq] at this
  exact ⟨this.1.1, this.1.2, this.2⟩
theorem ap_compose {a b : Int} (ha : okTurn a = true) (hb : okTurn b = true) (v : Vec) : ap (compose a b) v = ap a (ap b v) := by
  have h := chk ha hb
  simp only [chkT, Bool.and_eq_true, decide_eq_true_eq] at h
  obtain ⟨⟨_, h1⟩, h2⟩ := h
  obtain ⟨k1, _, _, _⟩ := turn_cases ha
  unfold ap
  rw [h1, h2]
  rcases k1 with e | e | e | e | e | e <;> simp [e, pick, co, Int.mul_assoc]
theorem perm_compose {a b : Int} (ha : okTurn a = true) (hb : okTurn b = true) (v : Vec) : perm (compose a b) v = perm a (perm b v) := by
  have h := chk ha hb
  simp only [chkT, Bool.and_eq_true, decide_eq_true_eq] at h
  obtain ⟨⟨_, h1⟩, h2⟩ := h
  obtain ⟨k1, _, _, _⟩ := turn_cases ha
  unfold perm
  rw [h1]
  rcases k1 with e | e | e | e | e | e <;> simp [e, pick, co]
theorem perm_0 (v : Vec) : perm 0 v = v := by simp [perm, axis, axs, co]
theorem ap_0 (v : Vec) : ap 0 v = v := by simp [ap, axis, axs, co, sign, sgE]
theorem perm_back {n : Int} (h : okTurn n = true) (v : Vec) : perm n (perm (invert n) v) = v := by
  obtain ⟨h1, h2, h3⟩ := invert_ok h
  rw [← perm_compose h h1, h3, perm_0]
theorem ap_vadd {n : Int} (h : okTurn n = true) (u v : Vec) : ap n (vadd u v) = vadd (ap n u) (ap n v) := by
  obtain ⟨h1, _⟩ := turn_cases h
  rcases h1 with e | e | e | e | e | e <;> simp [ap, e, co, vadd, Int.mul_add]
theorem ap_min {n : Int} (h : okTurn n = true) (u w : Vec) : vmin (ap n (vmin u w)) (ap n (vmax u w)) = vmin (ap n u) (ap n w) ∧ vmax (ap n (vmin u w)) (ap n (vmax u w)) = vmax (ap n u) (ap n w) := by
  obtain ⟨h1, h2, h3, h4⟩ := turn_cases h
  rcases h1 with e | e | e | e | e | e <;> rcases h2 with e2 | e2 <;> rcases h3 with e3 | e3 <;> rcases h4 with e4 | e4 <;> simp [vmin, vmax, ap, e, e2, e3, e4, co] <;> omega
theorem vmin_vadd (a b s : Vec) : vmin (vadd a s) (vadd b s) = vadd (vmin a b) s := by simp only [vmin, vadd, Vec.mk.injEq]; omega
theorem vmax_vadd (a b s : Vec) : vmax (vadd a s) (vadd b s) = vadd (vmax a b) s := by simp only [vmax, vadd, Vec.mk.injEq]; omega
theorem vadd_assoc (a b c : Vec) : vadd (vadd a b) c = vadd a (vadd b c) := by simp only [vadd, Vec.mk.injEq]; omega
/-- a box moved twice -/
theorem mv_mv {p q : Pose} (hp : okTurn p.Turn = true) (hq : okTurn q.Turn = true) (b : Box) : mv p (mv q b) = mv ⟨compose p.Turn q.Turn, vadd (ap p.Turn q.Shift) p.Shift⟩ b := by
  unfold mv im
  simp only [ap_compose hp hq, ← vadd_assoc, ap_vadd hp, vmin_vadd, vmax_vadd, (ap_min hp _ _).1, (ap_min hp _ _).2]
/-- a box in a box stays there -/
theorem mv_inside {p : Pose} (hp : okTurn p.Turn = true) {a b : Box} (ha : bad a = false) (h : inside a b = true) : inside (mv p a) (mv p b) = true := by
  obtain ⟨h1, h2, h3, h4⟩ := turn_cases hp
  simp [inside, bad] at h ha ⊢
  rcases h1 with e | e | e | e | e | e <;> rcases h2 with e2 | e2 <;> rcases h3 with e3 | e3 <;> rcases h4 with e4 | e4 <;> simp [mv, im, vadd, vmin, vmax, ap, e, e2, e3, e4, co] <;> omega
theorem mv_apart {p : Pose} (hp : okTurn p.Turn = true) {a b : Box} (ha : bad a = false) (hb : bad b = false) : overlap (mv p a) (mv p b) = overlap a b := by
  obtain ⟨h1, h2, h3, h4⟩ := turn_cases hp
  simp [bad] at ha hb
  rw [Bool.eq_iff_iff]
  simp [overlap]
  rcases h1 with e | e | e | e | e | e <;> rcases h2 with e2 | e2 <;> rcases h3 with e3 | e3 <;> rcases h4 with e4 | e4 <;> simp [mv, im, vadd, vmin, vmax, ap, e, e2, e3, e4, co] <;> omega
theorem mv_bad {p : Pose} (hp : okTurn p.Turn = true) {a : Box} (ha : bad a = false) : bad (mv p a) = false := by
  obtain ⟨h1, h2, h3, h4⟩ := turn_cases hp
  simp [bad] at ha ⊢
  rcases h1 with e | e | e | e | e | e <;> rcases h2 with e2 | e2 <;> rcases h3 with e3 | e3 <;> rcases h4 with e4 | e4 <;> simp [mv, im, vadd, vmin, vmax, ap, e, e2, e3, e4, co] <;> omega
theorem mv_len {p : Pose} (hp : okTurn p.Turn = true) {a : Box} (ha : bad a = false) : vsub (mv p a).Max (mv p a).Min = perm p.Turn (vsub a.Max a.Min) := by
  obtain ⟨h1, h2, h3, h4⟩ := turn_cases hp
  simp [bad] at ha
  rcases h1 with e | e | e | e | e | e <;> rcases h2 with e2 | e2 <;> rcases h3 with e3 | e3 <;> rcases h4 with e4 | e4 <;> simp [mv, im, vadd, vsub, perm, vmin, vmax, ap, e, e2, e3, e4, co] <;> omega
/-- where a pose brings 0: a corner of the box that is moved from 0 -/
theorem mv_corner {p : Pose} (hp : okTurn p.Turn = true) {s : Vec} (hx : 0 ≤ s.X) (hy : 0 ≤ s.Y) (hz : 0 ≤ s.Z) : let b := mv p ⟨⟨0, 0, 0⟩, s⟩
    (b.Min.X ≤ p.Shift.X ∧ p.Shift.X ≤ b.Max.X) ∧ (b.Min.Y ≤ p.Shift.Y ∧ p.Shift.Y ≤ b.Max.Y) ∧ (b.Min.Z ≤ p.Shift.Z ∧ p.Shift.Z ≤ b.Max.Z) := by
  obtain ⟨h1, h2, h3, h4⟩ := turn_cases hp
  intro b
  rcases h1 with e | e | e | e | e | e <;> rcases h2 with e2 | e2 <;> rcases h3 with e3 | e3 <;> rcases h4 with e4 | e4 <;> simp [b, mv, im, vadd, vmin, vmax, ap, e, e2, e3, e4, co] <;> omega
theorem boxOf_ok {p : Pose} {b : Box} (h1 : okTurn p.Turn = true) (h2 : nearV b.Min = true) (h3 : nearV b.Max = true) (h4 : bad b = false) (h5 : nearV p.Shift = true) (h6 : nearV (mv p b).Min = true) (h7 : nearV (mv p b).Max = true) :
    boxOf p b = (mv p b, 0) := by
  have k2 := nearV_iff.1 h2
  have k3 := nearV_iff.1 h3
  have k5 := nearV_iff.1 h5
  obtain ⟨q1, q2⟩ := im_small h1 k2 k3
  have e : shift (image p.Turn b) p.Shift = mv p b := by
    unfold shift mv
    rw [image_eq h1 (k2.le (by omega)) (k3.le (by omega)), add_eq (q1.le (by omega)) (k5.le (by omega)), add_eq (q2.le (by omega)) (k5.le (by omega))]
  unfold boxOf
  simp only [e, h1, h2, h3, h4, h5, h6, h7]
  rfl
theorem join_ok {p q : Pose} (h1 : okTurn p.Turn = true) (h2 : okTurn q.Turn = true) (h3 : nearV p.Shift = true) (h4 : nearV q.Shift = true) (h5 : nearV (vadd (ap p.Turn q.Shift) p.Shift) = true) :
    join p q = (⟨compose p.Turn q.Turn, vadd (ap p.Turn q.Shift) p.Shift⟩, 0) := by
  have k3 := nearV_iff.1 h3
  have k4 := nearV_iff.1 h4
  have e : add (apply p.Turn q.Shift) p.Shift = vadd (ap p.Turn q.Shift) p.Shift := by
    rw [apply_eq h1 (k4.le (by omega)), add_eq ((ap_small h1 k4).le (by omega)) (k3.le (by omega))]
  unfold join
  simp only [e, h1, h2, h3, h4, h5]
  rfl
end Go.AM.Orient
end
section
namespace Go.AM.Orient
open Go Go.AM
open Go.AM.Enc (enc dec)
open Go.AM.Row (row ofRow)
set_option linter.unusedVariables false
theorem boxOf_zero {p : Pose} {b : Box} (h : (boxOf p b).2 = 0) : okTurn p.Turn = true ∧ nearV b.Min = true ∧ nearV b.Max = true ∧ bad b = false ∧ nearV p.Shift = true := by
  unfold boxOf at h
  split at h; · simp at h
  rename_i h1
  split at h; · simp at h
  rename_i h2
  simp at h1 h2
  exact ⟨h1.1.1, (h1.1.2).1, (h1.1.2).2, h1.2, h2⟩
theorem sizedV_iff {s : Vec} : sizedV s = true ↔ small 1000000 s ∧ 1 ≤ s.X ∧ 1 ≤ s.Y ∧ 1 ≤ s.Z := by
  simp only [sizedV, Bool.and_eq_true, decide_eq_true_eq, nearV_iff]
theorem size_zero {n : Int} {s : Vec} (h : (size n s).2 = 0) : okTurn n = true ∧ sizedV s = true ∧ size n s = (perm n s, 0) := by
  unfold size at h ⊢
  split at h
  · simp at h
  · rename_i h1
    simp at h1
    obtain ⟨a, b⟩ := sizedV_iff.1 h1.2
    rw [if_neg (by simp [h1]), turned_eq h1.1 a (by omega) (by omega) (by omega)]
    exact ⟨h1.1, h1.2, rfl⟩
theorem place_zero {n : Int} {s a : Vec} (h : (place n s a).2 = 0) : okTurn n = true ∧ sizedV s = true ∧ nearV a = true ∧ place n s a = (⟨n, vsub a (im n ⟨zeroV, s⟩).Min⟩, 0) ∧ nearV (vsub a (im n ⟨zeroV, s⟩).Min) = true := by
  have h0 : small 1000000 zeroV := by unfold small zeroV; simp only; omega
  unfold place at h ⊢
  split at h
  · simp at h
  · rename_i h1
    simp at h1
    split at h
    · simp at h
    · rename_i h2
      simp at h2
      obtain ⟨k1, k2⟩ := sizedV_iff.1 h1.2
      have k3 := nearV_iff.1 h2
      obtain ⟨q1, q2⟩ := im_small (b := ⟨zeroV, s⟩) h1.1 h0 k1
      have e : add a (neg (image n ⟨zeroV, s⟩).Min) = vsub a (im n ⟨zeroV, s⟩).Min := by
        rw [image_eq h1.1 (h0.le (by omega)) (k1.le (by omega)), neg_eq (q1.le (by omega)), add_eq (k3.le (by omega)) (by unfold small vsub at *; simp only; omega)]
        simp only [vadd, vsub, Vec.mk.injEq]; omega
      simp only [e] at h ⊢
      rw [if_neg (by simp [h1]), if_neg (by simp [h2])]
      split at h
      · rename_i h3
        rw [if_pos h3]
        simp at h3
        exact ⟨h1.1, h1.2, h2, rfl, h3.1⟩
      · simp at h
/-- a piece in its own frame comes to lie where it is to lie -/
theorem mv_place {n : Int} {s a : Vec} (hn : okTurn n = true) (hs : sizedV s = true) : mv ⟨n, vsub a (im n ⟨zeroV, s⟩).Min⟩ ⟨zeroV, s⟩ = ⟨a, vadd a (perm n s)⟩ := by
  obtain ⟨_, h1, h2, h3⟩ := sizedV_iff.1 hs
  rw [← im_size hn (by omega) (by omega) (by omega)]
  unfold mv zeroV
  simp only [vadd, vsub, Box.mk.injEq]
  refine ⟨?_, ?_⟩
  · cases a; simp only [Vec.mk.injEq]; omega
  · simp only [Vec.mk.injEq]; omega
theorem bad_size {s : Vec} (h : sizedV s = true) : bad ⟨zeroV, s⟩ = false := by
  obtain ⟨_, h1, h2, h3⟩ := sizedV_iff.1 h
  cases hb : bad ⟨zeroV, s⟩ with
  | false => rfl
  | true =>
    simp only [bad, Bool.or_eq_true, decide_eq_true_eq] at hb
    simp only [zeroV] at hb
    omega
theorem nearV_zero : nearV zeroV = true := by decide
theorem near_inside {a b : Box} (h : inside a b = true) (ha : bad a = false) (h1 : nearV b.Min = true) (h2 : nearV b.Max = true) : nearV a.Min = true ∧ nearV a.Max = true := by
  rw [nearV_iff] at *
  rw [nearV_iff]
  simp [inside, bad] at h ha
  unfold small at *
  omega
end Go.AM.Orient
namespace Go.AM.Lineage
open Go Go.AM Go.AM.Orient
open Go.AM.Enc (enc dec)
open Go.AM.Row (row ofRow)
set_option linter.unusedVariables false
theorem right_spec {p : Piece} (h : right p = true) : okTurn p.Pose.Turn = true ∧ nearV p.Box.Min = true ∧ nearV p.Box.Max = true ∧ bad p.Box = false ∧ sizedV (vsub p.Box.Max p.Box.Min) = true ∧
    sizeOf p = (perm (invert p.Pose.Turn) (vsub p.Box.Max p.Box.Min), true) ∧ sizedV (sizeOf p).1 = true ∧ nearV p.Pose.Shift = true ∧ p.Pose = ⟨p.Pose.Turn, vsub p.Box.Min (im p.Pose.Turn ⟨zeroV, (sizeOf p).1⟩).Min⟩ ∧ mv p.Pose ⟨zeroV, (sizeOf p).1⟩ = p.Box := by
  unfold right at h
  simp only [Bool.and_eq_true, decide_eq_true_eq] at h
  obtain ⟨h1, h2, h3, h4⟩ := h
  obtain ⟨_, a1, a2, a3, _⟩ := boxOf_zero h1
  obtain ⟨b1, b2, b3, b4, b5⟩ := place_zero h3
  have hl : lengths p.Box = vsub p.Box.Max p.Box.Min := lengths_eq ((nearV_iff.1 a1).le (by omega)) ((nearV_iff.1 a2).le (by omega))
  have hs : sizeOf p = (perm (invert p.Pose.Turn) (vsub p.Box.Max p.Box.Min), true) ∧ sizedV (vsub p.Box.Max p.Box.Min) = true := by
    unfold sizeOf at h2 ⊢
    rw [if_pos b1] at h2 ⊢
    simp only [decide_eq_true_eq] at h2
    obtain ⟨c1, c2, c3⟩ := size_zero h2
    rw [hl] at c2 c3 ⊢
    rw [c3]
    exact ⟨by simp, c2⟩
  rw [b4] at h4
  simp only at h4
  refine ⟨b1, a1, a2, a3, hs.2, hs.1, b2, by rw [← h4]; exact b5, h4.symm, ?_⟩
  have := mv_place (a := p.Box.Min) b1 b2
  rw [h4] at this
  rw [this, hs.1]
  simp only [perm_back b1]
  generalize hb : p.Box = b
  cases b with | mk m M => cases M; simp only [vadd, vsub, Box.mk.injEq, true_and, Vec.mk.injEq]; omega
/-- what holds of a piece of a valid lineage -/
structure Posed (l : List Piece) (i : Nat) (hi : i < l.length) : Prop where
  turn : okTurn (poseOf l i).Turn = true
  near : nearV (poseOf l i).Shift = true
  place : placeOf l i = mv (poseOf l i) ⟨zeroV, (sizeOf l[i]).1⟩
  box : boxOf (poseOf l i) ⟨zeroV, (sizeOf l[i]).1⟩ = (placeOf l i, 0)
  pmin : nearV (placeOf l i).Min = true
  pmax : nearV (placeOf l i).Max = true
  notbad : bad (placeOf l i) = false
  top : l[i].Parent = ByteArray.empty → poseOf l i = l[i].Pose ∧ placeOf l i = l[i].Box
  kid : l[i].Parent ≠ ByteArray.empty → ∀ k, idxK l[i].Parent (idsTo l l.length) = some k → join (poseOf l k) l[i].Pose = (poseOf l i, 0) ∧ poseOf l i = ⟨compose (poseOf l k).Turn l[i].Pose.Turn, vadd (ap (poseOf l k).Turn l[i].Pose.Shift) (poseOf l k).Shift⟩ ∧
    placeOf l i = mv (poseOf l k) l[i].Box ∧ inside (placeOf l i) (placeOf l k) = true
theorem Posed.of {l : List Piece} {i : Nat} {hi : i < l.length} (hs : sizedV (sizeOf l[i]).1 = true) (h1 : okTurn (poseOf l i).Turn = true)
    (h3 : nearV (mv (poseOf l i) ⟨zeroV, (sizeOf l[i]).1⟩).Min = true) (h4 : nearV (mv (poseOf l i) ⟨zeroV, (sizeOf l[i]).1⟩).Max = true) :
    nearV (poseOf l i).Shift = true ∧ placeOf l i = mv (poseOf l i) ⟨zeroV, (sizeOf l[i]).1⟩ ∧ boxOf (poseOf l i) ⟨zeroV, (sizeOf l[i]).1⟩ = (placeOf l i, 0) := by
  obtain ⟨s0, s1, s2, s3⟩ := sizedV_iff.1 hs
  have h2 : nearV (poseOf l i).Shift = true := by
    have := mv_corner h1 (s := (sizeOf l[i]).1) (by omega) (by omega) (by omega)
    simp only at this
    rw [nearV_iff] at h3 h4 ⊢
    unfold small at *
    simp only [zeroV] at h3 h4
    omega
  have hb := boxOf_ok h1 nearV_zero (nearV_iff.2 s0) (bad_size hs) h2 h3 h4
  have hp : placeOf l i = mv (poseOf l i) ⟨zeroV, (sizeOf l[i]).1⟩ := by
    unfold placeOf
    rw [List.getElem?_eq_getElem hi]
    simp only [hb]
  exact ⟨h2, hp, by rw [hb, hp]⟩
theorem posed {l : List Piece} (h : checkE l = 0) : ∀ (i : Nat) (hi : i < l.length), Posed l i hi := by
  intro i
  obtain ⟨_, _, hnd, _, hright, hout, _⟩ := valid_of h
  induction i using Nat.strongRecOn with
  | _ i ih =>
    intro hi
    obtain ⟨r1, r2, r3, r4, r5, r6, r7, r8, r9, r10⟩ := right_spec (hright _ (List.getElem_mem hi))
    by_cases hp : l[i].Parent = ByteArray.empty
    · have e := poseOf_top hi hp
      have hm : mv (poseOf l i) ⟨zeroV, (sizeOf l[i]).1⟩ = l[i].Box := by rw [e, r10]
      obtain ⟨a1, a2, a3⟩ := Posed.of (hi := hi) r7 (by rw [e]; exact r1) (by rw [hm]; exact r2) (by rw [hm]; exact r3)
      exact ⟨by rw [e]; exact r1, a1, a2, a3, by rw [a2, hm]; exact r2, by rw [a2, hm]; exact r3, by rw [a2, hm]; exact r4, fun _ => ⟨e, by rw [a2, hm]⟩, fun hn => absurd hp hn⟩
    · obtain ⟨k, hk, hki⟩ := parent_of h hi hp
      obtain ⟨hkl, hid⟩ := idxK_id hnd hk
      have P := ih k hki hkl
      have hin : inside l[i].Box ⟨zeroV, (sizeOf l[k]).1⟩ = true := by
        cases hx : inside l[i].Box ⟨zeroV, (sizeOf l[k]).1⟩ with
        | true => rfl
        | false => exact absurd ⟨i, hi, hp, k, hkl, hid, hx⟩ hout
      have hin2 : inside (mv (poseOf l k) l[i].Box) (placeOf l k) = true := by rw [P.place]; exact mv_inside P.turn r4 hin
      obtain ⟨n1, n2⟩ := near_inside hin2 (mv_bad P.turn r4) P.pmin P.pmax
      have hmv : mv ⟨compose (poseOf l k).Turn l[i].Pose.Turn, vadd (ap (poseOf l k).Turn l[i].Pose.Shift) (poseOf l k).Shift⟩ ⟨zeroV, (sizeOf l[i]).1⟩ = mv (poseOf l k) l[i].Box := by
        rw [← mv_mv P.turn r1, r10]
      have hc := compose_ok P.turn r1
      obtain ⟨s0, s1, s2, s3⟩ := sizedV_iff.1 r7
      have hsh : nearV (vadd (ap (poseOf l k).Turn l[i].Pose.Shift) (poseOf l k).Shift) = true := by
        have := mv_corner (p := ⟨compose (poseOf l k).Turn l[i].Pose.Turn, vadd (ap (poseOf l k).Turn l[i].Pose.Shift) (poseOf l k).Shift⟩) hc (s := (sizeOf l[i]).1) (by omega) (by omega) (by omega)
        simp only [show (⟨0, 0, 0⟩ : Vec) = zeroV from rfl, hmv] at this
        rw [nearV_iff] at n1 n2 ⊢
        unfold small at *
        omega
      have hj := join_ok P.turn r1 P.near r8 hsh
      have e : poseOf l i = ⟨compose (poseOf l k).Turn l[i].Pose.Turn, vadd (ap (poseOf l k).Turn l[i].Pose.Shift) (poseOf l k).Shift⟩ := by rw [poseOf_kid h hi hp hk hki, hj]
      have hm : mv (poseOf l i) ⟨zeroV, (sizeOf l[i]).1⟩ = mv (poseOf l k) l[i].Box := by rw [e, hmv]
      obtain ⟨a1, a2, a3⟩ := Posed.of (hi := hi) r7 (by rw [e]; exact hc) (by rw [hm]; exact n1) (by rw [hm]; exact n2)
      refine ⟨by rw [e]; exact hc, a1, a2, a3, by rw [a2, hm]; exact n1, by rw [a2, hm]; exact n2, by rw [a2, hm]; exact mv_bad P.turn r4, fun hn => absurd hn hp, fun _ k' hk' => ?_⟩
      rw [hk] at hk'
      obtain rfl := Option.some.inj hk'
      exact ⟨by rw [hj, e], e, by rw [a2, hm], by rw [a2, hm]; exact hin2⟩
end Go.AM.Lineage
end
section
namespace Go.AM.Orient
open Go Go.AM
open Go.AM.Enc (enc dec)
open Go.AM.Row (row ofRow)
set_option linter.unusedVariables false
set_option maxRecDepth 100000
def ex : Vec := ⟨1, 0, 0⟩
def ey : Vec := ⟨0, 1, 0⟩
def ez : Vec := ⟨0, 0, 1⟩
/-- does a turn what b and then a does? -/
def sameR (t a b : Int) : Bool := decide (apply t ex = apply a (apply b ex)) && (decide (apply t ey = apply a (apply b ey)) && decide (apply t ez = apply a (apply b ez)))
/-- the first turn that does it, or 0 -/
def findR (p : Int → Bool) : Int := match (List.range 24).find? (fun (k : Nat) => p (k : Int)) with | some k => (k : Int) | none => 0
def composeR (a b : Int) : Int := findR fun t => sameR t a b
def invertR (a : Int) : Int := findR fun t => decide (composeR t a = 0)
theorem findR_some {p : Int → Bool} {i : Nat} (h : i < 24) (hp : p i = true) (hn : ∀ j : Nat, j < i → p j = false) : findR p = i := by
  unfold findR
  have : (List.range 24).find? (fun (k : Nat) => p (k : Int)) = some i := by
    rw [List.find?_range_eq_some]
    exact ⟨hp, by simpa using h, fun j hj => by simp [hn j hj]⟩
  rw [this]
theorem findR_none {p : Int → Bool} (hn : ∀ j : Nat, j < 24 → p j = false) : findR p = 0 := by
  unfold findR
  have : (List.range 24).find? (fun (k : Nat) => p (k : Int)) = none := by
    rw [List.find?_eq_none]; intro x hx; simp at hx; simp [hn x hx]
  rw [this]
theorem findR_one {p : Int → Bool} {c : Int} (hc : okTurn c = true) (h1 : p c = true) (h2 : ∀ j : Nat, j < 24 → p j = true → (j : Int) = c) : findR p = c := by
  obtain ⟨i, hi, rfl⟩ := turn_nat hc
  exact findR_some hi h1 (fun j hj => by
    cases hp : p j with
    | false => rfl
    | true => have := h2 j (by omega) hp; omega)
theorem one_turn : ((List.range 24).all fun a => (List.range 24).all fun b => !(decide (apply a ex = apply b ex) && (decide (apply a ey = apply b ey) && decide (apply a ez = apply b ez))) || decide (a = b)) = true := by kernel_rfl
theorem small_apply {n c : Int} {v : Vec} (h : okTurn n = true) (hv : small c v) (hc : c ≤ 4000000) : small c (apply n v) := by
  rw [apply_eq h (hv.le hc)]; exact ap_small h hv
theorem composeR_eq {a b : Int} (ha : okTurn a = true) (hb : okTurn b = true) : composeR a b = compose a b := by
  have hc := compose_ok ha hb
  have sx : small 1 ex := by unfold small ex; simp only; omega
  have sy : small 1 ey := by unfold small ey; simp only; omega
  have sz : small 1 ez := by unfold small ez; simp only; omega
  have key : ∀ v, small 1 v → apply (compose a b) v = apply a (apply b v) := fun v hv => by
    rw [apply_eq hc (hv.le (by omega)), apply_eq ha ((small_apply hb hv (by omega)).le (by omega)), apply_eq hb (hv.le (by omega)), ap_compose ha hb]
  refine findR_one hc ?_ ?_
  · simp [sameR, key _ sx, key _ sy, key _ sz]
  · intro j hj hs
    obtain ⟨i, hi, he⟩ := turn_nat hc
    simp only [sameR, ← key _ sx, ← key _ sy, ← key _ sz, ← he] at hs
    have := List.all_eq_true.1 (List.all_eq_true.1 one_turn j (List.mem_range.2 hj)) i (List.mem_range.2 hi)
    rw [hs] at this
    simp at this
    omega
theorem find_congr {p q : Nat → Bool} : ∀ {l : List Nat}, (∀ x ∈ l, p x = q x) → l.find? p = l.find? q
  | [], _ => rfl
  | x :: l, h => by simp only [List.find?_cons, h x (List.mem_cons_self ..), find_congr (fun y hy => h y (List.mem_cons_of_mem _ hy))]
theorem invertR_eq {a : Int} (ha : okTurn a = true) : invertR a = invert a := by
  obtain ⟨h1, h2, h3⟩ := invert_ok ha
  have hcong : ∀ k ∈ List.range 24, decide (composeR (k : Int) a = 0) = decide (compose (k : Int) a = 0) := fun k hk => by
    rw [composeR_eq (by simp [okTurn]; simp at hk; omega) ha]
  have he : (List.range 24).find? (fun (k : Nat) => decide (composeR (k : Int) a = 0)) = (List.range 24).find? (fun (k : Nat) => decide (compose (k : Int) a = 0)) := find_congr hcong
  have hx : invert a ≠ -1 := fun h => by rw [h] at h1; simp [okTurn] at h1
  unfold invertR findR
  unfold invert findT at hx ⊢
  rw [he]
  split
  · rename_i k hk; rw [hk]
  · rename_i hk; rw [hk] at hx; exact absurd rfl hx
def validR (b : Box) : Bool := nearV b.Min && (nearV b.Max && (decide (b.Min.X < b.Max.X) && (decide (b.Min.Y < b.Max.Y) && decide (b.Min.Z < b.Max.Z))))
def pointR (p : Pose) (v : Vec) : Vec := add (apply p.Turn v) p.Shift
def boxR (p : Pose) (b : Box) : Box := ⟨⟨min (pointR p b.Min).X (pointR p b.Max).X, min (pointR p b.Min).Y (pointR p b.Max).Y, min (pointR p b.Min).Z (pointR p b.Max).Z⟩,
  ⟨max (pointR p b.Min).X (pointR p b.Max).X, max (pointR p b.Min).Y (pointR p b.Max).Y, max (pointR p b.Min).Z (pointR p b.Max).Z⟩⟩
def sizeR (t : Int) (s : Vec) : Vec := sub (boxR ⟨t, zeroV⟩ ⟨zeroV, s⟩).Max (boxR ⟨t, zeroV⟩ ⟨zeroV, s⟩).Min
def placeR (t : Int) (s a : Vec) : Pose := ⟨t, sub a (boxR ⟨t, zeroV⟩ ⟨zeroV, s⟩).Min⟩
def joinR (a b : Pose) : Pose := ⟨composeR a.Turn b.Turn, pointR a b.Shift⟩
theorem small_zero (c : Int) (h : 0 ≤ c) : small c zeroV := by unfold small zeroV; simp only; omega
theorem boxR_eq {p : Pose} {b : Box} (h : okTurn p.Turn = true) (h1 : small 4000000 b.Min) (h2 : small 4000000 b.Max) (h3 : small 4000000 p.Shift) : boxR p b = mv p b := by
  have e : ∀ v, small 4000000 v → pointR p v = vadd (ap p.Turn v) p.Shift := fun v hv => by
    unfold pointR
    rw [apply_eq h hv, add_eq ((ap_small h hv).le (by omega)) (h3.le (by omega))]
  unfold boxR mv im
  rw [e _ h1, e _ h2, ← vmin_vadd, ← vmax_vadd]
  rfl
theorem sizeR_eq {t : Int} {s : Vec} (h : okTurn t = true) (hs : small 1000000 s) (hx : 0 ≤ s.X) (hy : 0 ≤ s.Y) (hz : 0 ≤ s.Z) : sizeR t s = perm t s := by
  have z := small_zero 1000000 (by omega)
  obtain ⟨k1, k2⟩ := im_small (b := ⟨zeroV, s⟩) h z hs
  have e : boxR ⟨t, zeroV⟩ ⟨zeroV, s⟩ = im t ⟨zeroV, s⟩ := by
    rw [boxR_eq h (z.le (by omega)) (hs.le (by omega)) (z.le (by omega))]
    simp [mv, vadd, zeroV]
  unfold sizeR
  rw [e, sub_eq (k2.le (by omega)) (k1.le (by omega)), ← im_size h hx hy hz]
  rfl
theorem placeR_eq {t : Int} {s a : Vec} (h : okTurn t = true) (hs : small 1000000 s) (ha : small 1000000 a) : placeR t s a = ⟨t, vsub a (im t ⟨zeroV, s⟩).Min⟩ := by
  have z := small_zero 1000000 (by omega)
  obtain ⟨k1, k2⟩ := im_small (b := ⟨zeroV, s⟩) h z hs
  have e : boxR ⟨t, zeroV⟩ ⟨zeroV, s⟩ = im t ⟨zeroV, s⟩ := by
    rw [boxR_eq h (z.le (by omega)) (hs.le (by omega)) (z.le (by omega))]
    simp [mv, vadd, zeroV]
  unfold placeR
  rw [e, sub_eq (ha.le (by omega)) (k1.le (by omega))]
theorem joinR_eq {a b : Pose} (h1 : okTurn a.Turn = true) (h2 : okTurn b.Turn = true) (h3 : small 4000000 a.Shift) (h4 : small 4000000 b.Shift) : joinR a b = ⟨compose a.Turn b.Turn, vadd (ap a.Turn b.Shift) a.Shift⟩ := by
  unfold joinR pointR
  rw [composeR_eq h1 h2, apply_eq h1 h4, add_eq ((ap_small h1 h4).le (by omega)) (h3.le (by omega))]
theorem validR_iff {b : Box} : validR b = true ↔ nearV b.Min = true ∧ nearV b.Max = true ∧ bad b = false := by
  simp [validR, bad]
theorem mv_zero {b : Box} (h : bad b = false) : mv zeroP b = b := by
  simp [bad] at h
  obtain ⟨⟨a1, a2, a3⟩, ⟨b1, b2, b3⟩⟩ := b
  simp only at h
  simp only [mv, im, zeroP, zeroV, ap_0, vmin, vmax, vadd, Box.mk.injEq, Vec.mk.injEq]
  omega
theorem boxOf_zeroP {b : Box} (h : validR b = true) : boxOf zeroP b = (b, 0) := by
  obtain ⟨h1, h2, h3⟩ := validR_iff.1 h
  have e := mv_zero h3
  have := boxOf_ok (p := zeroP) (b := b) (by decide) h1 h2 h3 nearV_zero (by rw [e]; exact h1) (by rw [e]; exact h2)
  rw [this, e]
theorem size_ok {n : Int} {s : Vec} (h1 : okTurn n = true) (h2 : sizedV s = true) : size n s = (perm n s, 0) := by
  obtain ⟨a, b⟩ := sizedV_iff.1 h2
  unfold size
  rw [if_neg (by simp [h1, h2]), turned_eq h1 a (by omega) (by omega) (by omega)]
theorem place_ok {n : Int} {s a : Vec} (h1 : okTurn n = true) (h2 : sizedV s = true) (h3 : nearV a = true) (h4 : nearV (vsub a (im n ⟨zeroV, s⟩).Min) = true) (h5 : nearV (vadd a (perm n s)) = true) : place n s a = (⟨n, vsub a (im n ⟨zeroV, s⟩).Min⟩, 0) := by
  obtain ⟨k1, k2⟩ := sizedV_iff.1 h2
  have k3 := nearV_iff.1 h3
  have h0 : small 1000000 zeroV := small_zero _ (by omega)
  obtain ⟨q1, q2⟩ := im_small (b := ⟨zeroV, s⟩) h1 h0 k1
  have e : add a (neg (image n ⟨zeroV, s⟩).Min) = vsub a (im n ⟨zeroV, s⟩).Min := by
    rw [image_eq h1 (h0.le (by omega)) (k1.le (by omega)), neg_eq (q1.le (by omega)), add_eq (k3.le (by omega)) (by unfold small vsub at *; simp only; omega)]
    simp only [vadd, vsub, Vec.mk.injEq]; omega
  have e2 : add a (turned n s) = vadd a (perm n s) := by
    rw [turned_eq h1 k1 (by omega) (by omega) (by omega), add_eq (k3.le (by omega))]
    have : small 1000000 (perm n s) := by
      obtain ⟨c1, _⟩ := turn_cases h1
      unfold small at *
      rcases c1 with e | e | e | e | e | e <;> simp only [perm, e, co] <;> simp only [reduceIte, Int.one_ne_zero, show ¬ ((2 : Int) = 0) from by decide, show ¬ ((2 : Int) = 1) from by decide, show ¬ ((1 : Int) = 0) from by decide] <;> omega
    exact this.le (by omega)
  unfold place
  simp only [e, e2, h1, h2, h3, h4, h5]
  rfl
end Go.AM.Orient
namespace Go.AM.Lineage
open Go Go.AM Go.AM.Orient
open Go.AM.Enc (enc dec)
open Go.AM.Row (row ofRow)
set_option linter.unusedVariables false
def sizeOfR (p : Piece) : Vec := sizeR (invertR p.Pose.Turn) (sub p.Box.Max p.Box.Min)
def rightR (p : Piece) : Bool := validR p.Box && (nearV (sub p.Box.Max p.Box.Min) && (okTurn p.Pose.Turn && decide (p.Pose = placeR p.Pose.Turn (sizeOfR p) p.Box.Min)))
theorem sized_of {b : Box} (h1 : nearV b.Min = true) (h2 : nearV b.Max = true) (h3 : bad b = false) (h4 : nearV (vsub b.Max b.Min) = true) : sizedV (vsub b.Max b.Min) = true := by
  rw [sizedV_iff]
  refine ⟨nearV_iff.1 h4, ?_⟩
  simp [bad] at h3
  simp only [vsub]
  omega
theorem perm_sized {n : Int} {s : Vec} (h : okTurn n = true) (hs : sizedV s = true) : sizedV (perm n s) = true := by
  rw [sizedV_iff] at *
  obtain ⟨c1, _⟩ := turn_cases h
  unfold small at *
  rcases c1 with e | e | e | e | e | e <;> simp only [perm, e, co] <;> simp only [reduceIte, Int.one_ne_zero, show ¬ ((2 : Int) = 0) from by decide, show ¬ ((2 : Int) = 1) from by decide, show ¬ ((1 : Int) = 0) from by decide] <;> omega
theorem sizeOfR_eq {p : Piece} (h : okTurn p.Pose.Turn = true) (h1 : nearV p.Box.Min = true) (h2 : nearV p.Box.Max = true) (h3 : sizedV (vsub p.Box.Max p.Box.Min) = true) : sizeOfR p = perm (invert p.Pose.Turn) (vsub p.Box.Max p.Box.Min) := by
  obtain ⟨s0, s1, s2, s3⟩ := sizedV_iff.1 h3
  unfold sizeOfR
  rw [sub_eq ((nearV_iff.1 h2).le (by omega)) ((nearV_iff.1 h1).le (by omega)), invertR_eq h, sizeR_eq (invert_ok h).1 s0 (by omega) (by omega) (by omega)]
theorem rightR_eq (p : Piece) : rightR p = right p := by
  rw [Bool.eq_iff_iff]
  constructor
  · intro h
    unfold rightR at h
    simp only [Bool.and_eq_true, decide_eq_true_eq] at h
    obtain ⟨a1, a2, a3, a4⟩ := h
    obtain ⟨b1, b2, b3⟩ := validR_iff.1 a1
    rw [sub_eq ((nearV_iff.1 b2).le (by omega)) ((nearV_iff.1 b1).le (by omega))] at a2
    have hs := sized_of b1 b2 b3 a2
    have hl : lengths p.Box = vsub p.Box.Max p.Box.Min := lengths_eq ((nearV_iff.1 b1).le (by omega)) ((nearV_iff.1 b2).le (by omega))
    have hi := (invert_ok a3).1
    have hsz : sizeOf p = (perm (invert p.Pose.Turn) (vsub p.Box.Max p.Box.Min), true) := by
      unfold sizeOf
      rw [if_pos a3, hl, size_ok hi hs]
      simp
    have hps := perm_sized hi hs
    rw [sizeOfR_eq a3 b1 b2 hs, placeR_eq a3 (sizedV_iff.1 hps).1 (nearV_iff.1 b1)] at a4
    have hmv := mv_place (a := p.Box.Min) a3 hps
    rw [← a4, perm_back a3] at hmv
    have hbox : mv p.Pose ⟨zeroV, perm (invert p.Pose.Turn) (vsub p.Box.Max p.Box.Min)⟩ = p.Box := by
      rw [hmv]
      generalize p.Box = b
      obtain ⟨⟨x, y, z⟩, ⟨x', y', z'⟩⟩ := b
      simp only [vadd, vsub, Box.mk.injEq, true_and, Vec.mk.injEq]; omega
    obtain ⟨_, p1, p2, p3⟩ := sizedV_iff.1 hps
    have hcor := mv_corner (p := p.Pose) a3 (s := perm (invert p.Pose.Turn) (vsub p.Box.Max p.Box.Min)) (by omega) (by omega) (by omega)
    simp only at hcor
    rw [show (⟨0, 0, 0⟩ : Vec) = zeroV from rfl, hbox] at hcor
    have hnear : nearV p.Pose.Shift = true := by
      rw [nearV_iff] at b1 b2 ⊢
      unfold small at *
      omega
    have hpl := place_ok (a := p.Box.Min) a3 hps b1 (by have := congrArg Pose.Shift a4; simp only at this; rw [← this]; exact hnear) (by
      rw [perm_back a3]
      rw [show vadd p.Box.Min (vsub p.Box.Max p.Box.Min) = p.Box.Max from by generalize p.Box.Max = m; generalize p.Box.Min = n; cases m; simp only [vadd, vsub, Vec.mk.injEq]; omega]
      exact b2)
    unfold right
    rw [boxOf_zeroP a1, hsz]
    simp only [hpl, ← a4]
    simp
  · intro h
    obtain ⟨r1, r2, r3, r4, r5, r6, r7, r8, r9, r10⟩ := right_spec h
    unfold rightR
    simp only [Bool.and_eq_true, decide_eq_true_eq]
    refine ⟨validR_iff.2 ⟨r2, r3, r4⟩, ?_, r1, ?_⟩
    · rw [sub_eq ((nearV_iff.1 r3).le (by omega)) ((nearV_iff.1 r2).le (by omega))]
      exact nearV_iff.2 (sizedV_iff.1 r5).1
    · have e : (sizeOf p).1 = sizeOfR p := by rw [sizeOfR_eq r1 r2 r3 r5, r6]
      have hps : sizedV (sizeOfR p) = true := by rw [← e]; exact r7
      rw [placeR_eq r1 (sizedV_iff.1 hps).1 (nearV_iff.1 r2), ← e]
      exact r9
theorem sizeOfR_right {p : Piece} (h : right p = true) : sizeOfR p = (sizeOf p).1 := by
  obtain ⟨r1, r2, r3, r4, r5, r6, r7, r8, r9, r10⟩ := right_spec h
  rw [sizeOfR_eq r1 r2 r3 r5, r6]
/-- poses and places, by the reference -/
theorem joinR_kid {l : List Piece} (hc : checkE l = 0) {i k : Nat} (hi : i < l.length) (hp : l[i].Parent ≠ ByteArray.empty) (hk : idxK l[i].Parent (idsTo l l.length) = some k) (hki : k < i) : joinR (poseOf l k) l[i].Pose = poseOf l i := by
  obtain ⟨_, _, hnd, _, hright, _, _⟩ := valid_of hc
  have P := posed hc i hi
  have Q := posed hc k (by omega)
  obtain ⟨r1, r2, r3, r4, r5, r6, r7, r8, r9, r10⟩ := right_spec (hright _ (List.getElem_mem hi))
  rw [joinR_eq Q.turn r1 ((nearV_iff.1 Q.near).le (by omega)) ((nearV_iff.1 r8).le (by omega)), (P.kid hp k hk).2.1]
theorem boxR_place {l : List Piece} (hc : checkE l = 0) {i : Nat} (hi : i < l.length) : boxR (poseOf l i) ⟨zeroV, sizeOfR l[i]⟩ = placeOf l i := by
  obtain ⟨_, _, hnd, _, hright, _, _⟩ := valid_of hc
  have P := posed hc i hi
  have hr := hright _ (List.getElem_mem hi)
  obtain ⟨r1, r2, r3, r4, r5, r6, r7, r8, r9, r10⟩ := right_spec hr
  rw [sizeOfR_right hr, boxR_eq P.turn (small_zero _ (by omega)) ((sizedV_iff.1 r7).1.le (by omega)) ((nearV_iff.1 P.near).le (by omega)), ← P.place]
end Go.AM.Lineage
end
