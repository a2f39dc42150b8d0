/- The tables of types. -/
import Derived.Test.YtmfgnajlkoafkaaGreatDoorMd
import Derived.Test.YtmfgnajlkoafkaaGreatDoorProg
set_option linter.all false
set_option maxHeartbeats 2000000
namespace Go.Proofs.YtmfgnajlkoafkaaGreatDoor
open Go Go.AM
open Go.AM.Enc (enc dec)
open Go.AM.Row (row ofRow)
set_option maxRecDepth 100000
@[simp] theorem tyT_2 : tyT Tryz.prog 2 = some (false, 1) := by kernel_rfl
@[simp] theorem sizeT_2 : sizeT Tryz.prog 2 = some 1 := by kernel_rfl
@[simp] theorem bytesT_2 : bytesT Tryz.prog 2 = some 8 := by kernel_rfl
@[simp] theorem zeroT_2 : zeroT Tryz.prog 2 = some (.d (.int .i64 0)) := by kernel_rfl
@[simp] theorem under_2 : Program.underlying Tryz.prog 2 = some (.int .i64) := by kernel_rfl
@[simp] theorem tyT_3 : tyT Tryz.prog 3 = some (false, 1) := by kernel_rfl
@[simp] theorem sizeT_3 : sizeT Tryz.prog 3 = some 1 := by kernel_rfl
@[simp] theorem bytesT_3 : bytesT Tryz.prog 3 = some 8 := by kernel_rfl
@[simp] theorem zeroT_3 : zeroT Tryz.prog 3 = some (.d (.int .i64 0)) := by kernel_rfl
@[simp] theorem under_3 : Program.underlying Tryz.prog 3 = some (.int .i64) := by kernel_rfl
@[simp] theorem tyT_4 : tyT Tryz.prog 4 = some (false, 1) := by kernel_rfl
@[simp] theorem sizeT_4 : sizeT Tryz.prog 4 = some 1 := by kernel_rfl
@[simp] theorem bytesT_4 : bytesT Tryz.prog 4 = some 1 := by kernel_rfl
@[simp] theorem zeroT_4 : zeroT Tryz.prog 4 = some (.d (.bool false)) := by kernel_rfl
@[simp] theorem under_4 : Program.underlying Tryz.prog 4 = some (.bool) := by kernel_rfl
@[simp] theorem eql_4 (c : Bool) (a b : Bool) : eqOpV Tryz.prog c .eql 4 (.d (.bool a)) (.d (.bool b)) = some (.d (.bool (decide (a = b)))) := eqOpV_eql (.inl (by kernel_rfl)) (eqV_bool under_4 ..)
@[simp] theorem neq_4 (c : Bool) (a b : Bool) : eqOpV Tryz.prog c .neq 4 (.d (.bool a)) (.d (.bool b)) = some (.d (.bool !(decide (a = b)))) := eqOpV_neq (.inl (by kernel_rfl)) (eqV_bool under_4 ..)
@[simp] theorem tyT_5 : tyT Tryz.prog 5 = some (false, 1) := by kernel_rfl
@[simp] theorem sizeT_5 : sizeT Tryz.prog 5 = some 1 := by kernel_rfl
@[simp] theorem bytesT_5 : bytesT Tryz.prog 5 = some 1 := by kernel_rfl
@[simp] theorem zeroT_5 : zeroT Tryz.prog 5 = some (.d (.int .u8 0)) := by kernel_rfl
@[simp] theorem under_5 : Program.underlying Tryz.prog 5 = some (.int .u8) := by kernel_rfl
@[simp] theorem tyT_9 : tyT Tryz.prog 9 = some (false, 1) := by kernel_rfl
@[simp] theorem sizeT_9 : sizeT Tryz.prog 9 = some 1 := by kernel_rfl
@[simp] theorem bytesT_9 : bytesT Tryz.prog 9 = some 16 := by kernel_rfl
@[simp] theorem zeroT_9 : zeroT Tryz.prog 9 = some (.d (.str ByteArray.empty)) := by kernel_rfl
@[simp] theorem under_9 : Program.underlying Tryz.prog 9 = some (.string) := by kernel_rfl
@[simp] theorem tyT_21 : tyT Tryz.prog 21 = some (false, 1) := by kernel_rfl
@[simp] theorem sizeT_21 : sizeT Tryz.prog 21 = some 1 := by kernel_rfl
@[simp] theorem bytesT_21 : bytesT Tryz.prog 21 = some 4 := by kernel_rfl
@[simp] theorem zeroT_21 : zeroT Tryz.prog 21 = some (.d (.int .i32 0)) := by kernel_rfl
@[simp] theorem under_21 : Program.underlying Tryz.prog 21 = some (.int .i32) := by kernel_rfl
@[simp] theorem tyT_22 : tyT Tryz.prog 22 = some (false, 1) := by kernel_rfl
@[simp] theorem sizeT_22 : sizeT Tryz.prog 22 = some 1 := by kernel_rfl
@[simp] theorem bytesT_22 : bytesT Tryz.prog 22 = some 24 := by kernel_rfl
@[simp] theorem zeroT_22 : zeroT Tryz.prog 22 = some (.nils) := by kernel_rfl
@[simp] theorem under_22 : Program.underlying Tryz.prog 22 = some (.slice 39) := by kernel_rfl
@[simp] theorem tyT_25 : tyT Tryz.prog 25 = some (false, 1) := by kernel_rfl
@[simp] theorem sizeT_25 : sizeT Tryz.prog 25 = some 1 := by kernel_rfl
@[simp] theorem bytesT_25 : bytesT Tryz.prog 25 = some 8 := by kernel_rfl
@[simp] theorem zeroT_25 : zeroT Tryz.prog 25 = some (.d (.int .i64 0)) := by kernel_rfl
@[simp] theorem under_25 : Program.underlying Tryz.prog 25 = some (.int .i64) := by kernel_rfl
@[simp] theorem tyT_27 : tyT Tryz.prog 27 = some (false, 1) := by kernel_rfl
@[simp] theorem sizeT_27 : sizeT Tryz.prog 27 = some 1 := by kernel_rfl
@[simp] theorem bytesT_27 : bytesT Tryz.prog 27 = some 24 := by kernel_rfl
@[simp] theorem zeroT_27 : zeroT Tryz.prog 27 = some (.nils) := by kernel_rfl
@[simp] theorem under_27 : Program.underlying Tryz.prog 27 = some (.slice 9) := by kernel_rfl
@[simp] theorem tyT_33 : tyT Tryz.prog 33 = some (true, 3) := by kernel_rfl
@[simp] theorem sizeT_33 : sizeT Tryz.prog 33 = some 3 := by kernel_rfl
@[simp] theorem bytesT_33 : bytesT Tryz.prog 33 = some 24 := by kernel_rfl
@[simp] theorem zeroT_33 : zeroT Tryz.prog 33 = some (.d (.agg [.int .i64 0, .int .i64 0, .int .i64 0])) := by kernel_rfl
@[simp] theorem fieldOff_33_0 : fieldOff Tryz.prog 33 0 = some (0, 3) := by kernel_rfl
@[simp] theorem fieldOff_33_1 : fieldOff Tryz.prog 33 1 = some (1, 3) := by kernel_rfl
@[simp] theorem fieldOff_33_2 : fieldOff Tryz.prog 33 2 = some (2, 3) := by kernel_rfl
@[simp] theorem placesT_33 : placesT Tryz.prog 33 = some [(0, 1), (1, 1), (2, 1)] := by kernel_rfl
theorem eqV_33 (c : Bool) (d : Nat) (x0 y0 : Int) (x1 y1 : Int) (x2 y2 : Int) : eqV Tryz.prog c (d + 2) 33 (.d (.agg [.int .i64 x0, .int .i64 x1, .int .i64 x2])) (.d (.agg [.int .i64 y0, .int .i64 y1, .int .i64 y2])) = some (decide (x0 = y0) && decide (x1 = y1) && decide (x2 = y2)) := by
  rw [eqV_struct Tryz.underlying33 (by kernel_rfl)]; simp [eqFieldsV_cons, eqFieldsV_nil, eqV_int under_3, Bool.and_assoc]
@[simp] theorem eql_33 (c : Bool) (x0 y0 : Int) (x1 y1 : Int) (x2 y2 : Int) : eqOpV Tryz.prog c .eql 33 (.d (.agg [.int .i64 x0, .int .i64 x1, .int .i64 x2])) (.d (.agg [.int .i64 y0, .int .i64 y1, .int .i64 y2])) = some (.d (.bool (decide (x0 = y0) && decide (x1 = y1) && decide (x2 = y2)))) := eqOpV_eql (.inl (by kernel_rfl)) (eqV_33 ..)
@[simp] theorem neq_33 (c : Bool) (x0 y0 : Int) (x1 y1 : Int) (x2 y2 : Int) : eqOpV Tryz.prog c .neq 33 (.d (.agg [.int .i64 x0, .int .i64 x1, .int .i64 x2])) (.d (.agg [.int .i64 y0, .int .i64 y1, .int .i64 y2])) = some (.d (.bool !(decide (x0 = y0) && decide (x1 = y1) && decide (x2 = y2)))) := eqOpV_neq (.inl (by kernel_rfl)) (eqV_33 ..)
@[simp] theorem tyT_35 : tyT Tryz.prog 35 = some (true, 4) := by kernel_rfl
@[simp] theorem sizeT_35 : sizeT Tryz.prog 35 = some 4 := by kernel_rfl
@[simp] theorem bytesT_35 : bytesT Tryz.prog 35 = some 32 := by kernel_rfl
@[simp] theorem zeroT_35 : zeroT Tryz.prog 35 = some (.d (.agg [.int .i64 0, .int .i64 0, .int .i64 0, .int .i64 0])) := by kernel_rfl
@[simp] theorem fieldOff_35_0 : fieldOff Tryz.prog 35 0 = some (0, 3) := by kernel_rfl
@[simp] theorem fieldOff_35_1 : fieldOff Tryz.prog 35 1 = some (1, 33) := by kernel_rfl
@[simp] theorem placesT_35 : placesT Tryz.prog 35 = some [(0, 1), (1, 3)] := by kernel_rfl
theorem eqV_35 (c : Bool) (d : Nat) (x0 y0 : Int) (x1 y1 : Int) (x2 y2 : Int) (x3 y3 : Int) : eqV Tryz.prog c (d + 3) 35 (.d (.agg [.int .i64 x0, .int .i64 x1, .int .i64 x2, .int .i64 x3])) (.d (.agg [.int .i64 y0, .int .i64 y1, .int .i64 y2, .int .i64 y3])) = some (decide (x0 = y0) && decide (x1 = y1) && decide (x2 = y2) && decide (x3 = y3)) := by
  rw [eqV_struct Tryz.underlying35 (by kernel_rfl)]; simp [eqFieldsV_cons, eqFieldsV_nil, eqV_33, eqV_int under_3, Bool.and_assoc]
@[simp] theorem eql_35 (c : Bool) (x0 y0 : Int) (x1 y1 : Int) (x2 y2 : Int) (x3 y3 : Int) : eqOpV Tryz.prog c .eql 35 (.d (.agg [.int .i64 x0, .int .i64 x1, .int .i64 x2, .int .i64 x3])) (.d (.agg [.int .i64 y0, .int .i64 y1, .int .i64 y2, .int .i64 y3])) = some (.d (.bool (decide (x0 = y0) && decide (x1 = y1) && decide (x2 = y2) && decide (x3 = y3)))) := eqOpV_eql (.inl (by kernel_rfl)) (eqV_35 ..)
@[simp] theorem neq_35 (c : Bool) (x0 y0 : Int) (x1 y1 : Int) (x2 y2 : Int) (x3 y3 : Int) : eqOpV Tryz.prog c .neq 35 (.d (.agg [.int .i64 x0, .int .i64 x1, .int .i64 x2, .int .i64 x3])) (.d (.agg [.int .i64 y0, .int .i64 y1, .int .i64 y2, .int .i64 y3])) = some (.d (.bool !(decide (x0 = y0) && decide (x1 = y1) && decide (x2 = y2) && decide (x3 = y3)))) := eqOpV_neq (.inl (by kernel_rfl)) (eqV_35 ..)
@[simp] theorem tyT_37 : tyT Tryz.prog 37 = some (true, 6) := by kernel_rfl
@[simp] theorem sizeT_37 : sizeT Tryz.prog 37 = some 6 := by kernel_rfl
@[simp] theorem bytesT_37 : bytesT Tryz.prog 37 = some 48 := by kernel_rfl
@[simp] theorem zeroT_37 : zeroT Tryz.prog 37 = some (.d (.agg [.int .i64 0, .int .i64 0, .int .i64 0, .int .i64 0, .int .i64 0, .int .i64 0])) := by kernel_rfl
@[simp] theorem fieldOff_37_0 : fieldOff Tryz.prog 37 0 = some (0, 33) := by kernel_rfl
@[simp] theorem fieldOff_37_1 : fieldOff Tryz.prog 37 1 = some (3, 33) := by kernel_rfl
@[simp] theorem placesT_37 : placesT Tryz.prog 37 = some [(0, 3), (3, 3)] := by kernel_rfl
theorem eqV_37 (c : Bool) (d : Nat) (x0 y0 : Int) (x1 y1 : Int) (x2 y2 : Int) (x3 y3 : Int) (x4 y4 : Int) (x5 y5 : Int) : eqV Tryz.prog c (d + 3) 37 (.d (.agg [.int .i64 x0, .int .i64 x1, .int .i64 x2, .int .i64 x3, .int .i64 x4, .int .i64 x5])) (.d (.agg [.int .i64 y0, .int .i64 y1, .int .i64 y2, .int .i64 y3, .int .i64 y4, .int .i64 y5])) = some (decide (x0 = y0) && decide (x1 = y1) && decide (x2 = y2) && decide (x3 = y3) && decide (x4 = y4) && decide (x5 = y5)) := by
  rw [eqV_struct Tryz.underlying37 (by kernel_rfl)]; simp [eqFieldsV_cons, eqFieldsV_nil, eqV_33, Bool.and_assoc]
@[simp] theorem eql_37 (c : Bool) (x0 y0 : Int) (x1 y1 : Int) (x2 y2 : Int) (x3 y3 : Int) (x4 y4 : Int) (x5 y5 : Int) : eqOpV Tryz.prog c .eql 37 (.d (.agg [.int .i64 x0, .int .i64 x1, .int .i64 x2, .int .i64 x3, .int .i64 x4, .int .i64 x5])) (.d (.agg [.int .i64 y0, .int .i64 y1, .int .i64 y2, .int .i64 y3, .int .i64 y4, .int .i64 y5])) = some (.d (.bool (decide (x0 = y0) && decide (x1 = y1) && decide (x2 = y2) && decide (x3 = y3) && decide (x4 = y4) && decide (x5 = y5)))) := eqOpV_eql (.inl (by kernel_rfl)) (eqV_37 ..)
@[simp] theorem neq_37 (c : Bool) (x0 y0 : Int) (x1 y1 : Int) (x2 y2 : Int) (x3 y3 : Int) (x4 y4 : Int) (x5 y5 : Int) : eqOpV Tryz.prog c .neq 37 (.d (.agg [.int .i64 x0, .int .i64 x1, .int .i64 x2, .int .i64 x3, .int .i64 x4, .int .i64 x5])) (.d (.agg [.int .i64 y0, .int .i64 y1, .int .i64 y2, .int .i64 y3, .int .i64 y4, .int .i64 y5])) = some (.d (.bool !(decide (x0 = y0) && decide (x1 = y1) && decide (x2 = y2) && decide (x3 = y3) && decide (x4 = y4) && decide (x5 = y5)))) := eqOpV_neq (.inl (by kernel_rfl)) (eqV_37 ..)
@[simp] theorem tyT_39 : tyT Tryz.prog 39 = some (true, 12) := by kernel_rfl
@[simp] theorem sizeT_39 : sizeT Tryz.prog 39 = some 12 := by kernel_rfl
@[simp] theorem bytesT_39 : bytesT Tryz.prog 39 = some 112 := by kernel_rfl
@[simp] theorem zeroT_39 : zeroT Tryz.prog 39 = some (.d (.agg [.str ByteArray.empty, .str ByteArray.empty, .int .i64 0, .int .i64 0, .int .i64 0, .int .i64 0, .int .i64 0, .int .i64 0, .int .i64 0, .int .i64 0, .int .i64 0, .int .i64 0])) := by kernel_rfl
@[simp] theorem fieldOff_39_0 : fieldOff Tryz.prog 39 0 = some (0, 9) := by kernel_rfl
@[simp] theorem fieldOff_39_1 : fieldOff Tryz.prog 39 1 = some (1, 9) := by kernel_rfl
@[simp] theorem fieldOff_39_2 : fieldOff Tryz.prog 39 2 = some (2, 35) := by kernel_rfl
@[simp] theorem fieldOff_39_3 : fieldOff Tryz.prog 39 3 = some (6, 37) := by kernel_rfl
@[simp] theorem placesT_39 : placesT Tryz.prog 39 = some [(0, 1), (1, 1), (2, 4), (6, 6)] := by kernel_rfl
theorem eqV_39 (c : Bool) (d : Nat) (x0 y0 : ByteArray) (x1 y1 : ByteArray) (x2 y2 : Int) (x3 y3 : Int) (x4 y4 : Int) (x5 y5 : Int) (x6 y6 : Int) (x7 y7 : Int) (x8 y8 : Int) (x9 y9 : Int) (x10 y10 : Int) (x11 y11 : Int) : eqV Tryz.prog c (d + 4) 39 (.d (.agg [.str x0, .str x1, .int .i64 x2, .int .i64 x3, .int .i64 x4, .int .i64 x5, .int .i64 x6, .int .i64 x7, .int .i64 x8, .int .i64 x9, .int .i64 x10, .int .i64 x11])) (.d (.agg [.str y0, .str y1, .int .i64 y2, .int .i64 y3, .int .i64 y4, .int .i64 y5, .int .i64 y6, .int .i64 y7, .int .i64 y8, .int .i64 y9, .int .i64 y10, .int .i64 y11])) = some (decide (x0 = y0) && decide (x1 = y1) && decide (x2 = y2) && decide (x3 = y3) && decide (x4 = y4) && decide (x5 = y5) && decide (x6 = y6) && decide (x7 = y7) && decide (x8 = y8) && decide (x9 = y9) && decide (x10 = y10) && decide (x11 = y11)) := by
  rw [eqV_struct Tryz.underlying39 (by kernel_rfl)]; simp [eqFieldsV_cons, eqFieldsV_nil, eqV_35, eqV_37, eqV_str under_9, Bool.and_assoc]
@[simp] theorem eql_39 (c : Bool) (x0 y0 : ByteArray) (x1 y1 : ByteArray) (x2 y2 : Int) (x3 y3 : Int) (x4 y4 : Int) (x5 y5 : Int) (x6 y6 : Int) (x7 y7 : Int) (x8 y8 : Int) (x9 y9 : Int) (x10 y10 : Int) (x11 y11 : Int) : eqOpV Tryz.prog c .eql 39 (.d (.agg [.str x0, .str x1, .int .i64 x2, .int .i64 x3, .int .i64 x4, .int .i64 x5, .int .i64 x6, .int .i64 x7, .int .i64 x8, .int .i64 x9, .int .i64 x10, .int .i64 x11])) (.d (.agg [.str y0, .str y1, .int .i64 y2, .int .i64 y3, .int .i64 y4, .int .i64 y5, .int .i64 y6, .int .i64 y7, .int .i64 y8, .int .i64 y9, .int .i64 y10, .int .i64 y11])) = some (.d (.bool (decide (x0 = y0) && decide (x1 = y1) && decide (x2 = y2) && decide (x3 = y3) && decide (x4 = y4) && decide (x5 = y5) && decide (x6 = y6) && decide (x7 = y7) && decide (x8 = y8) && decide (x9 = y9) && decide (x10 = y10) && decide (x11 = y11)))) := eqOpV_eql (.inl (by kernel_rfl)) (eqV_39 ..)
@[simp] theorem neq_39 (c : Bool) (x0 y0 : ByteArray) (x1 y1 : ByteArray) (x2 y2 : Int) (x3 y3 : Int) (x4 y4 : Int) (x5 y5 : Int) (x6 y6 : Int) (x7 y7 : Int) (x8 y8 : Int) (x9 y9 : Int) (x10 y10 : Int) (x11 y11 : Int) : eqOpV Tryz.prog c .neq 39 (.d (.agg [.str x0, .str x1, .int .i64 x2, .int .i64 x3, .int .i64 x4, .int .i64 x5, .int .i64 x6, .int .i64 x7, .int .i64 x8, .int .i64 x9, .int .i64 x10, .int .i64 x11])) (.d (.agg [.str y0, .str y1, .int .i64 y2, .int .i64 y3, .int .i64 y4, .int .i64 y5, .int .i64 y6, .int .i64 y7, .int .i64 y8, .int .i64 y9, .int .i64 y10, .int .i64 y11])) = some (.d (.bool !(decide (x0 = y0) && decide (x1 = y1) && decide (x2 = y2) && decide (x3 = y3) && decide (x4 = y4) && decide (x5 = y5) && decide (x6 = y6) && decide (x7 = y7) && decide (x8 = y8) && decide (x9 = y9) && decide (x10 = y10) && decide (x11 = y11)))) := eqOpV_neq (.inl (by kernel_rfl)) (eqV_39 ..)
@[simp] theorem tyT_70 : tyT Tryz.prog 70 = some (false, 1) := by kernel_rfl
@[simp] theorem sizeT_70 : sizeT Tryz.prog 70 = some 1 := by kernel_rfl
@[simp] theorem bytesT_70 : bytesT Tryz.prog 70 = some 24 := by kernel_rfl
@[simp] theorem zeroT_70 : zeroT Tryz.prog 70 = some (.nils) := by kernel_rfl
@[simp] theorem under_70 : Program.underlying Tryz.prog 70 = some (.slice 37) := by kernel_rfl
@[simp] theorem tyT_129 : tyT Tryz.prog 129 = some (true, 7) := by kernel_rfl
@[simp] theorem sizeT_129 : sizeT Tryz.prog 129 = some 7 := by kernel_rfl
@[simp] theorem bytesT_129 : bytesT Tryz.prog 129 = some 64 := by kernel_rfl
@[simp] theorem zeroT_129 : zeroT Tryz.prog 129 = some (.d (.agg [.int .i64 0, .str ByteArray.empty, .int .i64 0, .int .i64 0, .int .i64 0, .int .i64 0, .int .i64 0])) := by kernel_rfl
@[simp] theorem fieldOff_129_0 : fieldOff Tryz.prog 129 0 = some (0, 3) := by kernel_rfl
@[simp] theorem fieldOff_129_1 : fieldOff Tryz.prog 129 1 = some (1, 9) := by kernel_rfl
@[simp] theorem fieldOff_129_2 : fieldOff Tryz.prog 129 2 = some (2, 3) := by kernel_rfl
@[simp] theorem fieldOff_129_3 : fieldOff Tryz.prog 129 3 = some (3, 3) := by kernel_rfl
@[simp] theorem fieldOff_129_4 : fieldOff Tryz.prog 129 4 = some (4, 3) := by kernel_rfl
@[simp] theorem fieldOff_129_5 : fieldOff Tryz.prog 129 5 = some (5, 3) := by kernel_rfl
@[simp] theorem fieldOff_129_6 : fieldOff Tryz.prog 129 6 = some (6, 3) := by kernel_rfl
@[simp] theorem placesT_129 : placesT Tryz.prog 129 = some [(0, 1), (1, 1), (2, 1), (3, 1), (4, 1), (5, 1), (6, 1)] := by kernel_rfl
theorem eqV_129 (c : Bool) (d : Nat) (x0 y0 : Int) (x1 y1 : ByteArray) (x2 y2 : Int) (x3 y3 : Int) (x4 y4 : Int) (x5 y5 : Int) (x6 y6 : Int) : eqV Tryz.prog c (d + 2) 129 (.d (.agg [.int .i64 x0, .str x1, .int .i64 x2, .int .i64 x3, .int .i64 x4, .int .i64 x5, .int .i64 x6])) (.d (.agg [.int .i64 y0, .str y1, .int .i64 y2, .int .i64 y3, .int .i64 y4, .int .i64 y5, .int .i64 y6])) = some (decide (x0 = y0) && decide (x1 = y1) && decide (x2 = y2) && decide (x3 = y3) && decide (x4 = y4) && decide (x5 = y5) && decide (x6 = y6)) := by
  rw [eqV_struct Tryz.underlying129 (by kernel_rfl)]; simp [eqFieldsV_cons, eqFieldsV_nil, eqV_int under_3, eqV_str under_9, Bool.and_assoc]
@[simp] theorem eql_129 (c : Bool) (x0 y0 : Int) (x1 y1 : ByteArray) (x2 y2 : Int) (x3 y3 : Int) (x4 y4 : Int) (x5 y5 : Int) (x6 y6 : Int) : eqOpV Tryz.prog c .eql 129 (.d (.agg [.int .i64 x0, .str x1, .int .i64 x2, .int .i64 x3, .int .i64 x4, .int .i64 x5, .int .i64 x6])) (.d (.agg [.int .i64 y0, .str y1, .int .i64 y2, .int .i64 y3, .int .i64 y4, .int .i64 y5, .int .i64 y6])) = some (.d (.bool (decide (x0 = y0) && decide (x1 = y1) && decide (x2 = y2) && decide (x3 = y3) && decide (x4 = y4) && decide (x5 = y5) && decide (x6 = y6)))) := eqOpV_eql (.inl (by kernel_rfl)) (eqV_129 ..)
@[simp] theorem neq_129 (c : Bool) (x0 y0 : Int) (x1 y1 : ByteArray) (x2 y2 : Int) (x3 y3 : Int) (x4 y4 : Int) (x5 y5 : Int) (x6 y6 : Int) : eqOpV Tryz.prog c .neq 129 (.d (.agg [.int .i64 x0, .str x1, .int .i64 x2, .int .i64 x3, .int .i64 x4, .int .i64 x5, .int .i64 x6])) (.d (.agg [.int .i64 y0, .str y1, .int .i64 y2, .int .i64 y3, .int .i64 y4, .int .i64 y5, .int .i64 y6])) = some (.d (.bool !(decide (x0 = y0) && decide (x1 = y1) && decide (x2 = y2) && decide (x3 = y3) && decide (x4 = y4) && decide (x5 = y5) && decide (x6 = y6)))) := eqOpV_neq (.inl (by kernel_rfl)) (eqV_129 ..)
@[simp] theorem tyT_130 : tyT Tryz.prog 130 = some (false, 1) := by kernel_rfl
@[simp] theorem sizeT_130 : sizeT Tryz.prog 130 = some 1 := by kernel_rfl
@[simp] theorem bytesT_130 : bytesT Tryz.prog 130 = some 24 := by kernel_rfl
@[simp] theorem zeroT_130 : zeroT Tryz.prog 130 = some (.nils) := by kernel_rfl
@[simp] theorem under_130 : Program.underlying Tryz.prog 130 = some (.slice 129) := by kernel_rfl
@[simp] theorem tyT_139 : tyT Tryz.prog 139 = some (false, 1) := by kernel_rfl
@[simp] theorem sizeT_139 : sizeT Tryz.prog 139 = some 1 := by kernel_rfl
@[simp] theorem bytesT_139 : bytesT Tryz.prog 139 = some 8 := by kernel_rfl
@[simp] theorem zeroT_139 : zeroT Tryz.prog 139 = some (.d (.nilp)) := by kernel_rfl
@[simp] theorem under_139 : Program.underlying Tryz.prog 139 = some (.pointer 151) := by kernel_rfl
@[simp] theorem eql_nilp_139 (c : Bool) : eqOpV Tryz.prog c .eql 139 (.d .nilp) (.d .nilp) = some (.d (.bool true)) := by kernel_rfl
@[simp] theorem eql_ptr_139 (c : Bool) (r : List D) (o : Nat) : eqOpV Tryz.prog c .eql 139 (.d (.ptr r o)) (.d .nilp) = some (.d (.bool false)) := by kernel_rfl
@[simp] theorem neq_nilp_139 (c : Bool) : eqOpV Tryz.prog c .neq 139 (.d .nilp) (.d .nilp) = some (.d (.bool false)) := by kernel_rfl
@[simp] theorem neq_ptr_139 (c : Bool) (r : List D) (o : Nat) : eqOpV Tryz.prog c .neq 139 (.d (.ptr r o)) (.d .nilp) = some (.d (.bool true)) := by kernel_rfl
@[simp] theorem tyT_143 : tyT Tryz.prog 143 = some (false, 1) := by kernel_rfl
@[simp] theorem sizeT_143 : sizeT Tryz.prog 143 = some 1 := by kernel_rfl
@[simp] theorem bytesT_143 : bytesT Tryz.prog 143 = some 24 := by kernel_rfl
@[simp] theorem zeroT_143 : zeroT Tryz.prog 143 = some (.nils) := by kernel_rfl
@[simp] theorem under_143 : Program.underlying Tryz.prog 143 = some (.slice 3) := by kernel_rfl
@[simp] theorem tyT_148 : tyT Tryz.prog 148 = some (false, 1) := by kernel_rfl
@[simp] theorem sizeT_148 : sizeT Tryz.prog 148 = some 1 := by kernel_rfl
@[simp] theorem bytesT_148 : bytesT Tryz.prog 148 = some 8 := by kernel_rfl
@[simp] theorem zeroT_148 : zeroT Tryz.prog 148 = some (.d (.nilm)) := by kernel_rfl
@[simp] theorem under_148 : Program.underlying Tryz.prog 148 = some (.map 9 3) := by kernel_rfl
@[simp] theorem tyT_149 : tyT Tryz.prog 149 = some (false, 1) := by kernel_rfl
@[simp] theorem sizeT_149 : sizeT Tryz.prog 149 = some 1 := by kernel_rfl
@[simp] theorem bytesT_149 : bytesT Tryz.prog 149 = some 8 := by kernel_rfl
@[simp] theorem zeroT_149 : zeroT Tryz.prog 149 = some (.d (.nilm)) := by kernel_rfl
@[simp] theorem under_149 : Program.underlying Tryz.prog 149 = some (.map 9 143) := by kernel_rfl
@[simp] theorem tyT_151 : tyT Tryz.prog 151 = some (true, 3) := by kernel_rfl
@[simp] theorem sizeT_151 : sizeT Tryz.prog 151 = some 3 := by kernel_rfl
@[simp] theorem bytesT_151 : bytesT Tryz.prog 151 = some 40 := by kernel_rfl
@[simp] theorem zeroT_151 : zeroT Tryz.prog 151 = some (.agg [.nils, .d (.nilm), .d (.nilm)]) := by kernel_rfl
@[simp] theorem fieldOff_151_0 : fieldOff Tryz.prog 151 0 = some (0, 22) := by kernel_rfl
@[simp] theorem fieldOff_151_1 : fieldOff Tryz.prog 151 1 = some (1, 148) := by kernel_rfl
@[simp] theorem fieldOff_151_2 : fieldOff Tryz.prog 151 2 = some (2, 149) := by kernel_rfl
@[simp] theorem placesT_151 : placesT Tryz.prog 151 = some [(0, 1), (1, 1), (2, 1)] := by kernel_rfl
@[simp] theorem tyT_185 : tyT Tryz.prog 185 = some (false, 1) := by kernel_rfl
@[simp] theorem sizeT_185 : sizeT Tryz.prog 185 = some 1 := by kernel_rfl
@[simp] theorem bytesT_185 : bytesT Tryz.prog 185 = some 24 := by kernel_rfl
@[simp] theorem zeroT_185 : zeroT Tryz.prog 185 = some (.nils) := by kernel_rfl
@[simp] theorem under_185 : Program.underlying Tryz.prog 185 = some (.slice 190) := by kernel_rfl
@[simp] theorem tyT_190 : tyT Tryz.prog 190 = some (true, 8) := by kernel_rfl
@[simp] theorem sizeT_190 : sizeT Tryz.prog 190 = some 8 := by kernel_rfl
@[simp] theorem bytesT_190 : bytesT Tryz.prog 190 = some 72 := by kernel_rfl
@[simp] theorem zeroT_190 : zeroT Tryz.prog 190 = some (.d (.agg [.int .i64 0, .str ByteArray.empty, .int .i64 0, .int .i64 0, .int .i64 0, .int .i64 0, .int .i64 0, .int .i64 0])) := by kernel_rfl
@[simp] theorem fieldOff_190_0 : fieldOff Tryz.prog 190 0 = some (0, 3) := by kernel_rfl
@[simp] theorem fieldOff_190_1 : fieldOff Tryz.prog 190 1 = some (1, 9) := by kernel_rfl
@[simp] theorem fieldOff_190_2 : fieldOff Tryz.prog 190 2 = some (2, 37) := by kernel_rfl
@[simp] theorem placesT_190 : placesT Tryz.prog 190 = some [(0, 1), (1, 1), (2, 6)] := by kernel_rfl
theorem eqV_190 (c : Bool) (d : Nat) (x0 y0 : Int) (x1 y1 : ByteArray) (x2 y2 : Int) (x3 y3 : Int) (x4 y4 : Int) (x5 y5 : Int) (x6 y6 : Int) (x7 y7 : Int) : eqV Tryz.prog c (d + 4) 190 (.d (.agg [.int .i64 x0, .str x1, .int .i64 x2, .int .i64 x3, .int .i64 x4, .int .i64 x5, .int .i64 x6, .int .i64 x7])) (.d (.agg [.int .i64 y0, .str y1, .int .i64 y2, .int .i64 y3, .int .i64 y4, .int .i64 y5, .int .i64 y6, .int .i64 y7])) = some (decide (x0 = y0) && decide (x1 = y1) && decide (x2 = y2) && decide (x3 = y3) && decide (x4 = y4) && decide (x5 = y5) && decide (x6 = y6) && decide (x7 = y7)) := by
  rw [eqV_struct Tryz.underlying190 (by kernel_rfl)]; simp [eqFieldsV_cons, eqFieldsV_nil, eqV_37, eqV_int under_3, eqV_str under_9, Bool.and_assoc]
@[simp] theorem eql_190 (c : Bool) (x0 y0 : Int) (x1 y1 : ByteArray) (x2 y2 : Int) (x3 y3 : Int) (x4 y4 : Int) (x5 y5 : Int) (x6 y6 : Int) (x7 y7 : Int) : eqOpV Tryz.prog c .eql 190 (.d (.agg [.int .i64 x0, .str x1, .int .i64 x2, .int .i64 x3, .int .i64 x4, .int .i64 x5, .int .i64 x6, .int .i64 x7])) (.d (.agg [.int .i64 y0, .str y1, .int .i64 y2, .int .i64 y3, .int .i64 y4, .int .i64 y5, .int .i64 y6, .int .i64 y7])) = some (.d (.bool (decide (x0 = y0) && decide (x1 = y1) && decide (x2 = y2) && decide (x3 = y3) && decide (x4 = y4) && decide (x5 = y5) && decide (x6 = y6) && decide (x7 = y7)))) := eqOpV_eql (.inl (by kernel_rfl)) (eqV_190 ..)
@[simp] theorem neq_190 (c : Bool) (x0 y0 : Int) (x1 y1 : ByteArray) (x2 y2 : Int) (x3 y3 : Int) (x4 y4 : Int) (x5 y5 : Int) (x6 y6 : Int) (x7 y7 : Int) : eqOpV Tryz.prog c .neq 190 (.d (.agg [.int .i64 x0, .str x1, .int .i64 x2, .int .i64 x3, .int .i64 x4, .int .i64 x5, .int .i64 x6, .int .i64 x7])) (.d (.agg [.int .i64 y0, .str y1, .int .i64 y2, .int .i64 y3, .int .i64 y4, .int .i64 y5, .int .i64 y6, .int .i64 y7])) = some (.d (.bool !(decide (x0 = y0) && decide (x1 = y1) && decide (x2 = y2) && decide (x3 = y3) && decide (x4 = y4) && decide (x5 = y5) && decide (x6 = y6) && decide (x7 = y7)))) := eqOpV_neq (.inl (by kernel_rfl)) (eqV_190 ..)
@[simp] theorem tyT_193 : tyT Tryz.prog 193 = some (false, 1) := by kernel_rfl
@[simp] theorem sizeT_193 : sizeT Tryz.prog 193 = some 1 := by kernel_rfl
@[simp] theorem bytesT_193 : bytesT Tryz.prog 193 = some 16 := by kernel_rfl
@[simp] theorem zeroT_193 : zeroT Tryz.prog 193 = some (.d (.nili)) := by kernel_rfl
@[simp] theorem eql_nili_193 : eqOpV Tryz.prog true .eql 193 (.d .nili) (.d .nili) = some (.d (.bool true)) := by kernel_rfl
@[simp] theorem eql_iface_193 (c : Bool) (u : TypeId) (x : D) : eqOpV Tryz.prog c .eql 193 (.d (.iface u x)) (.d .nili) = some (.d (.bool false)) := by kernel_rfl
@[simp] theorem neq_nili_193 : eqOpV Tryz.prog true .neq 193 (.d .nili) (.d .nili) = some (.d (.bool false)) := by kernel_rfl
@[simp] theorem neq_iface_193 (c : Bool) (u : TypeId) (x : D) : eqOpV Tryz.prog c .neq 193 (.d (.iface u x)) (.d .nili) = some (.d (.bool true)) := by kernel_rfl
@[simp] theorem tyT_204 : tyT Tryz.prog 204 = some (false, 1) := by kernel_rfl
@[simp] theorem sizeT_204 : sizeT Tryz.prog 204 = some 1 := by kernel_rfl
@[simp] theorem bytesT_204 : bytesT Tryz.prog 204 = some 24 := by kernel_rfl
@[simp] theorem zeroT_204 : zeroT Tryz.prog 204 = some (.nils) := by kernel_rfl
@[simp] theorem under_204 : Program.underlying Tryz.prog 204 = some (.slice 33) := by kernel_rfl
@[simp] theorem tyT_206 : tyT Tryz.prog 206 = some (true, 3) := by kernel_rfl
@[simp] theorem sizeT_206 : sizeT Tryz.prog 206 = some 3 := by kernel_rfl
@[simp] theorem bytesT_206 : bytesT Tryz.prog 206 = some 24 := by kernel_rfl
@[simp] theorem zeroT_206 : zeroT Tryz.prog 206 = some (.d (.agg [.int .i64 0, .int .i64 0, .int .i64 0])) := by kernel_rfl
@[simp] theorem under_206 : Program.underlying Tryz.prog 206 = some (.array 3 3) := by kernel_rfl
@[simp] theorem tyT_224 : tyT Tryz.prog 224 = some (false, 1) := by kernel_rfl
@[simp] theorem sizeT_224 : sizeT Tryz.prog 224 = some 1 := by kernel_rfl
@[simp] theorem bytesT_224 : bytesT Tryz.prog 224 = some 24 := by kernel_rfl
@[simp] theorem zeroT_224 : zeroT Tryz.prog 224 = some (.nils) := by kernel_rfl
@[simp] theorem under_224 : Program.underlying Tryz.prog 224 = some (.slice 5) := by kernel_rfl
@[simp] theorem tyT_245 : tyT Tryz.prog 245 = some (true, 6) := by kernel_rfl
@[simp] theorem sizeT_245 : sizeT Tryz.prog 245 = some 6 := by kernel_rfl
@[simp] theorem bytesT_245 : bytesT Tryz.prog 245 = some 48 := by kernel_rfl
@[simp] theorem zeroT_245 : zeroT Tryz.prog 245 = some (.d (.agg [.int .i64 0, .int .i64 0, .int .i64 0, .int .i64 0, .int .i64 0, .int .i64 0])) := by kernel_rfl
@[simp] theorem fieldOff_245_0 : fieldOff Tryz.prog 245 0 = some (0, 206) := by kernel_rfl
@[simp] theorem fieldOff_245_1 : fieldOff Tryz.prog 245 1 = some (3, 206) := by kernel_rfl
@[simp] theorem placesT_245 : placesT Tryz.prog 245 = some [(0, 3), (3, 3)] := by kernel_rfl
@[simp] theorem tyT_284 : tyT Tryz.prog 284 = some (true, 8) := by kernel_rfl
@[simp] theorem sizeT_284 : sizeT Tryz.prog 284 = some 8 := by kernel_rfl
@[simp] theorem bytesT_284 : bytesT Tryz.prog 284 = some 64 := by kernel_rfl
@[simp] theorem zeroT_284 : zeroT Tryz.prog 284 = some (.d (.agg [.int .i64 0, .int .i64 0, .int .i64 0, .int .i64 0, .int .i64 0, .int .i64 0, .int .i64 0, .int .i64 0])) := by kernel_rfl
@[simp] theorem fieldOff_284_0 : fieldOff Tryz.prog 284 0 = some (0, 3) := by kernel_rfl
@[simp] theorem fieldOff_284_1 : fieldOff Tryz.prog 284 1 = some (1, 37) := by kernel_rfl
@[simp] theorem fieldOff_284_2 : fieldOff Tryz.prog 284 2 = some (7, 3) := by kernel_rfl
@[simp] theorem placesT_284 : placesT Tryz.prog 284 = some [(0, 1), (1, 6), (7, 1)] := by kernel_rfl
theorem eqV_284 (c : Bool) (d : Nat) (x0 y0 : Int) (x1 y1 : Int) (x2 y2 : Int) (x3 y3 : Int) (x4 y4 : Int) (x5 y5 : Int) (x6 y6 : Int) (x7 y7 : Int) : eqV Tryz.prog c (d + 4) 284 (.d (.agg [.int .i64 x0, .int .i64 x1, .int .i64 x2, .int .i64 x3, .int .i64 x4, .int .i64 x5, .int .i64 x6, .int .i64 x7])) (.d (.agg [.int .i64 y0, .int .i64 y1, .int .i64 y2, .int .i64 y3, .int .i64 y4, .int .i64 y5, .int .i64 y6, .int .i64 y7])) = some (decide (x0 = y0) && decide (x1 = y1) && decide (x2 = y2) && decide (x3 = y3) && decide (x4 = y4) && decide (x5 = y5) && decide (x6 = y6) && decide (x7 = y7)) := by
  rw [eqV_struct Tryz.underlying284 (by kernel_rfl)]; simp [eqFieldsV_cons, eqFieldsV_nil, eqV_37, eqV_int under_3, Bool.and_assoc]
@[simp] theorem eql_284 (c : Bool) (x0 y0 : Int) (x1 y1 : Int) (x2 y2 : Int) (x3 y3 : Int) (x4 y4 : Int) (x5 y5 : Int) (x6 y6 : Int) (x7 y7 : Int) : eqOpV Tryz.prog c .eql 284 (.d (.agg [.int .i64 x0, .int .i64 x1, .int .i64 x2, .int .i64 x3, .int .i64 x4, .int .i64 x5, .int .i64 x6, .int .i64 x7])) (.d (.agg [.int .i64 y0, .int .i64 y1, .int .i64 y2, .int .i64 y3, .int .i64 y4, .int .i64 y5, .int .i64 y6, .int .i64 y7])) = some (.d (.bool (decide (x0 = y0) && decide (x1 = y1) && decide (x2 = y2) && decide (x3 = y3) && decide (x4 = y4) && decide (x5 = y5) && decide (x6 = y6) && decide (x7 = y7)))) := eqOpV_eql (.inl (by kernel_rfl)) (eqV_284 ..)
@[simp] theorem neq_284 (c : Bool) (x0 y0 : Int) (x1 y1 : Int) (x2 y2 : Int) (x3 y3 : Int) (x4 y4 : Int) (x5 y5 : Int) (x6 y6 : Int) (x7 y7 : Int) : eqOpV Tryz.prog c .neq 284 (.d (.agg [.int .i64 x0, .int .i64 x1, .int .i64 x2, .int .i64 x3, .int .i64 x4, .int .i64 x5, .int .i64 x6, .int .i64 x7])) (.d (.agg [.int .i64 y0, .int .i64 y1, .int .i64 y2, .int .i64 y3, .int .i64 y4, .int .i64 y5, .int .i64 y6, .int .i64 y7])) = some (.d (.bool !(decide (x0 = y0) && decide (x1 = y1) && decide (x2 = y2) && decide (x3 = y3) && decide (x4 = y4) && decide (x5 = y5) && decide (x6 = y6) && decide (x7 = y7)))) := eqOpV_neq (.inl (by kernel_rfl)) (eqV_284 ..)
@[simp] theorem tyT_305 : tyT Tryz.prog 305 = some (true, 12) := by kernel_rfl
@[simp] theorem sizeT_305 : sizeT Tryz.prog 305 = some 12 := by kernel_rfl
@[simp] theorem bytesT_305 : bytesT Tryz.prog 305 = some 96 := by kernel_rfl
@[simp] theorem zeroT_305 : zeroT Tryz.prog 305 = some (.d (.agg [.int .i64 0, .int .i64 0, .int .i64 0, .int .i64 0, .int .i64 0, .int .i64 0, .int .i64 0, .int .i64 0, .int .i64 0, .int .i64 0, .int .i64 0, .int .i64 0])) := by kernel_rfl
@[simp] theorem under_305 : Program.underlying Tryz.prog 305 = some (.array 4 206) := by kernel_rfl
end Go.Proofs.YtmfgnajlkoafkaaGreatDoor
