/- Names and ids. Ids. lineage: conditions on all pieces. -/
import Derived.Test.YtmfgnajlkoafkaaGreatDoorZTi
import Derived.Test.YtmfgnajlkoafkaaGreatDoorMe
set_option linter.all false
set_option maxHeartbeats 2000000
section
namespace Go.Proofs.YtmfgnajlkoafkaaGreatDoor
open Go Go.AM Go.AM.Orient Go.AM.Lineage
open Go.AM.Enc (enc dec)
open Go.AM.Row (row ofRow)
set_option maxRecDepth 100000
set_option linter.unusedVariables false
set_option linter.unusedSimpArgs false
variable {gl : Gb}
noncomputable def prims_C8 (gl : Gb) (f : FuncId) : Option (List D → Option D) := match f with
  | 139 => some p_right
  | _ => none
noncomputable def C8 (gl : Gb) : Cfg := (C7 gl).more (prims_C8 gl)
@[simp] theorem mutS_C8 (gl : Gb) (f s) : (C8 gl).mutS f s = mutTab f s := rfl
@[simp] theorem pureF_C8 (gl : Gb) (f) : (C8 gl).pureF f = true := rfl
@[simp] theorem glob_C8 (gl : Gb) : (C8 gl).glob = gl := rfl
@[simp] theorem C8_p92 (gl : Gb) : (C8 gl).primF 92 = some p_is := rfl
@[simp] theorem C8_p149 (gl : Gb) : (C8 gl).primF 149 = some p_array := rfl
@[simp] theorem C8_p196 (gl : Gb) : (C8 gl).primF 196 = some p_vec := rfl
@[simp] theorem C8_p98 (gl : Gb) : (C8 gl).primF 98 = some p_add := rfl
@[simp] theorem C8_p148 (gl : Gb) : (C8 gl).primF 148 = some p_neg := rfl
@[simp] theorem C8_p145 (gl : Gb) : (C8 gl).primF 145 = some p_lengths := rfl
@[simp] theorem C8_p140 (gl : Gb) : (C8 gl).primF 140 = some p_inside := rfl
@[simp] theorem C8_p99 (gl : Gb) : (C8 gl).primF 99 = some p_overlap := rfl
@[simp] theorem C8_p150 (gl : Gb) : (C8 gl).primF 150 = some p_apply := rfl
@[simp] theorem C8_p96 (gl : Gb) : (C8 gl).primF 96 = some p_near := rfl
@[simp] theorem C8_p194 (gl : Gb) : (C8 gl).primF 194 = some p_compose1 := rfl
@[simp] theorem C8_p97 (gl : Gb) : (C8 gl).primF 97 = some p_image := rfl
@[simp] theorem C8_p193 (gl : Gb) : (C8 gl).primF 193 = some p_find := rfl
@[simp] theorem C8_p147 (gl : Gb) : (C8 gl).primF 147 = some p_compose := rfl
@[simp] theorem C8_p93 (gl : Gb) : (C8 gl).primF 93 = some p_invert := rfl
@[simp] theorem C8_p190 (gl : Gb) : (C8 gl).primF 190 = some p_result := rfl
@[simp] theorem C8_p95 (gl : Gb) : (C8 gl).primF 95 = some p_turned := rfl
@[simp] theorem C8_p94 (gl : Gb) : (C8 gl).primF 94 = some p_sized := rfl
@[simp] theorem C8_p38 (gl : Gb) : (C8 gl).primF 38 = some p_Invert := rfl
@[simp] theorem C8_p39 (gl : Gb) : (C8 gl).primF 39 = some p_Size := rfl
@[simp] theorem C8_p41 (gl : Gb) : (C8 gl).primF 41 = some p_Box := rfl
@[simp] theorem C8_p142 (gl : Gb) : (C8 gl).primF 142 = some p_Join := rfl
@[simp] theorem C8_p187 (gl : Gb) : (C8 gl).primF 187 = some p_Place := rfl
@[simp] theorem C8_p125 (gl : Gb) : (C8 gl).primF 125 = some p_sizeOf := rfl
@[simp] theorem C8_p139 (gl : Gb) : (C8 gl).primF 139 = some p_right := rfl
theorem C8_ok {gl : Gb} (h : (C7 gl).Ok Tryz.prog) : (C8 gl).Ok Tryz.prog := h.more (by
  intro f gf hf
  unfold prims_C8 at hf
  split at hf
  · simp only [Option.some.injEq] at hf; subst hf; exact does_right
  · cases hf)
noncomputable def prims_C9 (gl : Gb) (f : FuncId) : Option (List D → Option D) := match f with
  | 182 => some p_Split
  | 114 => some p_Itoa
  | 131 => some p_Atoi
  | _ => none
noncomputable def C9 (gl : Gb) : Cfg := (C8 gl).more (prims_C9 gl)
@[simp] theorem mutS_C9 (gl : Gb) (f s) : (C9 gl).mutS f s = mutTab f s := rfl
@[simp] theorem pureF_C9 (gl : Gb) (f) : (C9 gl).pureF f = true := rfl
@[simp] theorem glob_C9 (gl : Gb) : (C9 gl).glob = gl := rfl
@[simp] theorem C9_p92 (gl : Gb) : (C9 gl).primF 92 = some p_is := rfl
@[simp] theorem C9_p149 (gl : Gb) : (C9 gl).primF 149 = some p_array := rfl
@[simp] theorem C9_p196 (gl : Gb) : (C9 gl).primF 196 = some p_vec := rfl
@[simp] theorem C9_p98 (gl : Gb) : (C9 gl).primF 98 = some p_add := rfl
@[simp] theorem C9_p148 (gl : Gb) : (C9 gl).primF 148 = some p_neg := rfl
@[simp] theorem C9_p145 (gl : Gb) : (C9 gl).primF 145 = some p_lengths := rfl
@[simp] theorem C9_p140 (gl : Gb) : (C9 gl).primF 140 = some p_inside := rfl
@[simp] theorem C9_p99 (gl : Gb) : (C9 gl).primF 99 = some p_overlap := rfl
@[simp] theorem C9_p150 (gl : Gb) : (C9 gl).primF 150 = some p_apply := rfl
@[simp] theorem C9_p96 (gl : Gb) : (C9 gl).primF 96 = some p_near := rfl
@[simp] theorem C9_p194 (gl : Gb) : (C9 gl).primF 194 = some p_compose1 := rfl
@[simp] theorem C9_p97 (gl : Gb) : (C9 gl).primF 97 = some p_image := rfl
@[simp] theorem C9_p193 (gl : Gb) : (C9 gl).primF 193 = some p_find := rfl
@[simp] theorem C9_p147 (gl : Gb) : (C9 gl).primF 147 = some p_compose := rfl
@[simp] theorem C9_p93 (gl : Gb) : (C9 gl).primF 93 = some p_invert := rfl
@[simp] theorem C9_p190 (gl : Gb) : (C9 gl).primF 190 = some p_result := rfl
@[simp] theorem C9_p95 (gl : Gb) : (C9 gl).primF 95 = some p_turned := rfl
@[simp] theorem C9_p94 (gl : Gb) : (C9 gl).primF 94 = some p_sized := rfl
@[simp] theorem C9_p38 (gl : Gb) : (C9 gl).primF 38 = some p_Invert := rfl
@[simp] theorem C9_p39 (gl : Gb) : (C9 gl).primF 39 = some p_Size := rfl
@[simp] theorem C9_p41 (gl : Gb) : (C9 gl).primF 41 = some p_Box := rfl
@[simp] theorem C9_p142 (gl : Gb) : (C9 gl).primF 142 = some p_Join := rfl
@[simp] theorem C9_p187 (gl : Gb) : (C9 gl).primF 187 = some p_Place := rfl
@[simp] theorem C9_p125 (gl : Gb) : (C9 gl).primF 125 = some p_sizeOf := rfl
@[simp] theorem C9_p139 (gl : Gb) : (C9 gl).primF 139 = some p_right := rfl
@[simp] theorem C9_p182 (gl : Gb) : (C9 gl).primF 182 = some p_Split := rfl
@[simp] theorem C9_p114 (gl : Gb) : (C9 gl).primF 114 = some p_Itoa := rfl
@[simp] theorem C9_p131 (gl : Gb) : (C9 gl).primF 131 = some p_Atoi := rfl
theorem C9_ok {m : Int} (h : (C8 (Gl m)).Ok Tryz.prog) : (C9 (Gl m)).Ok Tryz.prog := h.lib (by
  intro f gf hf
  unfold prims_C9 at hf
  split at hf
  · simp only [Option.some.injEq] at hf; subst hf; exact prim_Split m
  · simp only [Option.some.injEq] at hf; subst hf; exact prim_Itoa m
  · simp only [Option.some.injEq] at hf; subst hf; exact prim_Atoi m
  · cases hf)
def classB (c : Nat) : Int := if lowerI c || upperI c then 1 else if digitI c then 2 else if c = 95 then 3 else if c = 40 ∨ c = 41 ∨ c = 44 ∨ c = 61 ∨ c = 58 ∨ c = 60 ∨ c = 62 ∨ c = 43 ∨ c = 47 then 4 else 0
def classTab : List D := (List.range 256).map fun c => D.int .u8 (classB c)
def p_classes : List D → Option D
  | [] => some (.agg classTab)
  | _ => none
theorem classes_run (gl : Gb) : pcall Tryz.prog (C9 gl) 300 316 [] = some (.agg classTab) := by kernel_rfl
theorem does_classes : Does Tryz.prog (C9 gl) 316 p_classes := by
  intro ds d h
  unfold p_classes at h
  split at h
  · cases h; exact ⟨300, classes_run gl⟩
  · cases h
noncomputable def prims_C10 (gl : Gb) (f : FuncId) : Option (List D → Option D) := match f with
  | 316 => some p_classes
  | _ => none
noncomputable def C10 (gl : Gb) : Cfg := (C9 gl).more (prims_C10 gl)
@[simp] theorem mutS_C10 (gl : Gb) (f s) : (C10 gl).mutS f s = mutTab f s := rfl
@[simp] theorem pureF_C10 (gl : Gb) (f) : (C10 gl).pureF f = true := rfl
@[simp] theorem glob_C10 (gl : Gb) : (C10 gl).glob = gl := rfl
@[simp] theorem C10_p92 (gl : Gb) : (C10 gl).primF 92 = some p_is := rfl
@[simp] theorem C10_p149 (gl : Gb) : (C10 gl).primF 149 = some p_array := rfl
@[simp] theorem C10_p196 (gl : Gb) : (C10 gl).primF 196 = some p_vec := rfl
@[simp] theorem C10_p98 (gl : Gb) : (C10 gl).primF 98 = some p_add := rfl
@[simp] theorem C10_p148 (gl : Gb) : (C10 gl).primF 148 = some p_neg := rfl
@[simp] theorem C10_p145 (gl : Gb) : (C10 gl).primF 145 = some p_lengths := rfl
@[simp] theorem C10_p140 (gl : Gb) : (C10 gl).primF 140 = some p_inside := rfl
@[simp] theorem C10_p99 (gl : Gb) : (C10 gl).primF 99 = some p_overlap := rfl
@[simp] theorem C10_p150 (gl : Gb) : (C10 gl).primF 150 = some p_apply := rfl
@[simp] theorem C10_p96 (gl : Gb) : (C10 gl).primF 96 = some p_near := rfl
@[simp] theorem C10_p194 (gl : Gb) : (C10 gl).primF 194 = some p_compose1 := rfl
@[simp] theorem C10_p97 (gl : Gb) : (C10 gl).primF 97 = some p_image := rfl
@[simp] theorem C10_p193 (gl : Gb) : (C10 gl).primF 193 = some p_find := rfl
@[simp] theorem C10_p147 (gl : Gb) : (C10 gl).primF 147 = some p_compose := rfl
@[simp] theorem C10_p93 (gl : Gb) : (C10 gl).primF 93 = some p_invert := rfl
@[simp] theorem C10_p190 (gl : Gb) : (C10 gl).primF 190 = some p_result := rfl
@[simp] theorem C10_p95 (gl : Gb) : (C10 gl).primF 95 = some p_turned := rfl
@[simp] theorem C10_p94 (gl : Gb) : (C10 gl).primF 94 = some p_sized := rfl
@[simp] theorem C10_p38 (gl : Gb) : (C10 gl).primF 38 = some p_Invert := rfl
@[simp] theorem C10_p39 (gl : Gb) : (C10 gl).primF 39 = some p_Size := rfl
@[simp] theorem C10_p41 (gl : Gb) : (C10 gl).primF 41 = some p_Box := rfl
@[simp] theorem C10_p142 (gl : Gb) : (C10 gl).primF 142 = some p_Join := rfl
@[simp] theorem C10_p187 (gl : Gb) : (C10 gl).primF 187 = some p_Place := rfl
@[simp] theorem C10_p125 (gl : Gb) : (C10 gl).primF 125 = some p_sizeOf := rfl
@[simp] theorem C10_p139 (gl : Gb) : (C10 gl).primF 139 = some p_right := rfl
@[simp] theorem C10_p182 (gl : Gb) : (C10 gl).primF 182 = some p_Split := rfl
@[simp] theorem C10_p114 (gl : Gb) : (C10 gl).primF 114 = some p_Itoa := rfl
@[simp] theorem C10_p131 (gl : Gb) : (C10 gl).primF 131 = some p_Atoi := rfl
@[simp] theorem C10_p316 (gl : Gb) : (C10 gl).primF 316 = some p_classes := rfl
theorem C10_ok {gl : Gb} (h : (C9 gl).Ok Tryz.prog) : (C10 gl).Ok Tryz.prog := h.more (by
  intro f gf hf
  unfold prims_C10 at hf
  split at hf
  · simp only [Option.some.injEq] at hf; subst hf; exact does_classes
  · cases hf)
def isB (x : Option D) (b : Bool) : Bool := match x with
  | some (.bool c) => c == b
  | _ => false
theorem isB_eq {x : Option D} {b : Bool} (h : isB x b = true) : x = some (.bool b) := by
  unfold isB at h; split at h
  · simp at h; rw [h]
  · cases h
theorem inner_run (gl : Gb) : (List.range 256).all (fun c => isB (pcall Tryz.prog (C10 gl) 100 252 [.int .u8 c]) (innerI c)) = true := by kernel_rfl
def p_inner : List D → Option D := p1 fun (c : U8) => if 0 ≤ c.v ∧ c.v < 256 then some (.bool (innerI c.v)) else none
theorem does_inner : Does Tryz.prog (C10 gl) 252 p_inner := Does.p1 fun c d hd => by
  split at hd
  · rename_i hc
    cases hd
    have h := List.all_eq_true.1 (inner_run gl) c.v.toNat (by simp; omega)
    have e : ((c.v.toNat : Nat) : Int) = c.v := by omega
    simp only [e] at h
    exact ⟨100, isB_eq h⟩
  · cases hd
noncomputable def prims_C11 (gl : Gb) (f : FuncId) : Option (List D → Option D) := match f with
  | 252 => some p_inner
  | _ => none
noncomputable def C11 (gl : Gb) : Cfg := (C10 gl).more (prims_C11 gl)
@[simp] theorem mutS_C11 (gl : Gb) (f s) : (C11 gl).mutS f s = mutTab f s := rfl
@[simp] theorem pureF_C11 (gl : Gb) (f) : (C11 gl).pureF f = true := rfl
@[simp] theorem glob_C11 (gl : Gb) : (C11 gl).glob = gl := rfl
@[simp] theorem C11_p92 (gl : Gb) : (C11 gl).primF 92 = some p_is := rfl
@[simp] theorem C11_p149 (gl : Gb) : (C11 gl).primF 149 = some p_array := rfl
@[simp] theorem C11_p196 (gl : Gb) : (C11 gl).primF 196 = some p_vec := rfl
@[simp] theorem C11_p98 (gl : Gb) : (C11 gl).primF 98 = some p_add := rfl
@[simp] theorem C11_p148 (gl : Gb) : (C11 gl).primF 148 = some p_neg := rfl
@[simp] theorem C11_p145 (gl : Gb) : (C11 gl).primF 145 = some p_lengths := rfl
@[simp] theorem C11_p140 (gl : Gb) : (C11 gl).primF 140 = some p_inside := rfl
@[simp] theorem C11_p99 (gl : Gb) : (C11 gl).primF 99 = some p_overlap := rfl
@[simp] theorem C11_p150 (gl : Gb) : (C11 gl).primF 150 = some p_apply := rfl
@[simp] theorem C11_p96 (gl : Gb) : (C11 gl).primF 96 = some p_near := rfl
@[simp] theorem C11_p194 (gl : Gb) : (C11 gl).primF 194 = some p_compose1 := rfl
@[simp] theorem C11_p97 (gl : Gb) : (C11 gl).primF 97 = some p_image := rfl
@[simp] theorem C11_p193 (gl : Gb) : (C11 gl).primF 193 = some p_find := rfl
@[simp] theorem C11_p147 (gl : Gb) : (C11 gl).primF 147 = some p_compose := rfl
@[simp] theorem C11_p93 (gl : Gb) : (C11 gl).primF 93 = some p_invert := rfl
@[simp] theorem C11_p190 (gl : Gb) : (C11 gl).primF 190 = some p_result := rfl
@[simp] theorem C11_p95 (gl : Gb) : (C11 gl).primF 95 = some p_turned := rfl
@[simp] theorem C11_p94 (gl : Gb) : (C11 gl).primF 94 = some p_sized := rfl
@[simp] theorem C11_p38 (gl : Gb) : (C11 gl).primF 38 = some p_Invert := rfl
@[simp] theorem C11_p39 (gl : Gb) : (C11 gl).primF 39 = some p_Size := rfl
@[simp] theorem C11_p41 (gl : Gb) : (C11 gl).primF 41 = some p_Box := rfl
@[simp] theorem C11_p142 (gl : Gb) : (C11 gl).primF 142 = some p_Join := rfl
@[simp] theorem C11_p187 (gl : Gb) : (C11 gl).primF 187 = some p_Place := rfl
@[simp] theorem C11_p125 (gl : Gb) : (C11 gl).primF 125 = some p_sizeOf := rfl
@[simp] theorem C11_p139 (gl : Gb) : (C11 gl).primF 139 = some p_right := rfl
@[simp] theorem C11_p182 (gl : Gb) : (C11 gl).primF 182 = some p_Split := rfl
@[simp] theorem C11_p114 (gl : Gb) : (C11 gl).primF 114 = some p_Itoa := rfl
@[simp] theorem C11_p131 (gl : Gb) : (C11 gl).primF 131 = some p_Atoi := rfl
@[simp] theorem C11_p316 (gl : Gb) : (C11 gl).primF 316 = some p_classes := rfl
@[simp] theorem C11_p252 (gl : Gb) : (C11 gl).primF 252 = some p_inner := rfl
theorem C11_ok {gl : Gb} (h : (C10 gl).Ok Tryz.prog) : (C11 gl).Ok Tryz.prog := h.more (by
  intro f gf hf
  unfold prims_C11 at hf
  split at hf
  · simp only [Option.some.injEq] at hf; subst hf; exact does_inner
  · cases hf)
def p_Name1 : List D → Option D := p1 fun (c : U8) => if 0 ≤ c.v ∧ c.v < 256 then some (.bool (nameI c.v)) else none
theorem does_Name1 : Does Tryz.prog (C11 gl) 251 p_Name1 := con1 (fun _ => 10) fun c hc ic => by
  refine W_body (c := _) Tryz.func251 rfl (by simp [Tryz.f251]) ?_
  by_cases h : innerI c.v = true
  · simp (config := {decide := true}) [Tryz.f251, p_inner, hc, h]
    simp only [innerI, nameI, lowerI, upperI, digitI] at *
    grind
  · simp (config := {decide := true}) [Tryz.f251, p_inner, hc, h]
    simp only [innerI, nameI, lowerI, upperI, digitI] at *
    grind
noncomputable def prims_C12 (gl : Gb) (f : FuncId) : Option (List D → Option D) := match f with
  | 251 => some p_Name1
  | _ => none
noncomputable def C12 (gl : Gb) : Cfg := (C11 gl).more (prims_C12 gl)
@[simp] theorem mutS_C12 (gl : Gb) (f s) : (C12 gl).mutS f s = mutTab f s := rfl
@[simp] theorem pureF_C12 (gl : Gb) (f) : (C12 gl).pureF f = true := rfl
@[simp] theorem glob_C12 (gl : Gb) : (C12 gl).glob = gl := rfl
@[simp] theorem C12_p92 (gl : Gb) : (C12 gl).primF 92 = some p_is := rfl
@[simp] theorem C12_p149 (gl : Gb) : (C12 gl).primF 149 = some p_array := rfl
@[simp] theorem C12_p196 (gl : Gb) : (C12 gl).primF 196 = some p_vec := rfl
@[simp] theorem C12_p98 (gl : Gb) : (C12 gl).primF 98 = some p_add := rfl
@[simp] theorem C12_p148 (gl : Gb) : (C12 gl).primF 148 = some p_neg := rfl
@[simp] theorem C12_p145 (gl : Gb) : (C12 gl).primF 145 = some p_lengths := rfl
@[simp] theorem C12_p140 (gl : Gb) : (C12 gl).primF 140 = some p_inside := rfl
@[simp] theorem C12_p99 (gl : Gb) : (C12 gl).primF 99 = some p_overlap := rfl
@[simp] theorem C12_p150 (gl : Gb) : (C12 gl).primF 150 = some p_apply := rfl
@[simp] theorem C12_p96 (gl : Gb) : (C12 gl).primF 96 = some p_near := rfl
@[simp] theorem C12_p194 (gl : Gb) : (C12 gl).primF 194 = some p_compose1 := rfl
@[simp] theorem C12_p97 (gl : Gb) : (C12 gl).primF 97 = some p_image := rfl
@[simp] theorem C12_p193 (gl : Gb) : (C12 gl).primF 193 = some p_find := rfl
@[simp] theorem C12_p147 (gl : Gb) : (C12 gl).primF 147 = some p_compose := rfl
@[simp] theorem C12_p93 (gl : Gb) : (C12 gl).primF 93 = some p_invert := rfl
@[simp] theorem C12_p190 (gl : Gb) : (C12 gl).primF 190 = some p_result := rfl
@[simp] theorem C12_p95 (gl : Gb) : (C12 gl).primF 95 = some p_turned := rfl
@[simp] theorem C12_p94 (gl : Gb) : (C12 gl).primF 94 = some p_sized := rfl
@[simp] theorem C12_p38 (gl : Gb) : (C12 gl).primF 38 = some p_Invert := rfl
@[simp] theorem C12_p39 (gl : Gb) : (C12 gl).primF 39 = some p_Size := rfl
@[simp] theorem C12_p41 (gl : Gb) : (C12 gl).primF 41 = some p_Box := rfl
@[simp] theorem C12_p142 (gl : Gb) : (C12 gl).primF 142 = some p_Join := rfl
@[simp] theorem C12_p187 (gl : Gb) : (C12 gl).primF 187 = some p_Place := rfl
@[simp] theorem C12_p125 (gl : Gb) : (C12 gl).primF 125 = some p_sizeOf := rfl
@[simp] theorem C12_p139 (gl : Gb) : (C12 gl).primF 139 = some p_right := rfl
@[simp] theorem C12_p182 (gl : Gb) : (C12 gl).primF 182 = some p_Split := rfl
@[simp] theorem C12_p114 (gl : Gb) : (C12 gl).primF 114 = some p_Itoa := rfl
@[simp] theorem C12_p131 (gl : Gb) : (C12 gl).primF 131 = some p_Atoi := rfl
@[simp] theorem C12_p316 (gl : Gb) : (C12 gl).primF 316 = some p_classes := rfl
@[simp] theorem C12_p252 (gl : Gb) : (C12 gl).primF 252 = some p_inner := rfl
@[simp] theorem C12_p251 (gl : Gb) : (C12 gl).primF 251 = some p_Name1 := rfl
theorem C12_ok {gl : Gb} (h : (C11 gl).Ok Tryz.prog) : (C12 gl).Ok Tryz.prog := h.more (by
  intro f gf hf
  unfold prims_C12 at hf
  split at hf
  · simp only [Option.some.injEq] at hf; subst hf; exact does_Name1
  · cases hf)
/-- run, called by Name -/
def p_run : List D → Option D
  | [.str s, .fn 251 [] []] => if s.size ≤ 4611686018427387904 then some (I (runName s.data.toList)) else none
  | _ => none
theorem runName_stop {l : List UInt8} {i : Nat} (h1 : (l.take i).all nameB = true) (hi : i ≤ l.length) (h2 : ∀ c, l[i]? = some c → nameB c = false) : runName l = i := by
  unfold runName
  induction l generalizing i with
  | nil => simp at hi; subst hi; rfl
  | cons c l ih =>
    cases i with
    | zero => have := h2 c (by simp); simp [List.takeWhile_cons, this]
    | succ i =>
      simp at h1 hi
      have := ih (i := i) (by simpa using h1.2) hi (fun d hd => h2 d (by simpa using hd))
      simp [List.takeWhile_cons, h1.1, this]
theorem str_get (s : Str) (i : Nat) : s[i]? = s.data.toList[i]? := by
  by_cases h : i < s.size
  · have h1 : i < s.data.toList.length := by simpa using h
    rw [List.getElem?_eq_getElem h1, getElem?_pos s i h]; rfl
  · have h1 : ¬ i < s.data.toList.length := by simpa using h
    rw [List.getElem?_eq_none (by omega), getElem?_neg s i h]
theorem does_run : Does Tryz.prog (C12 gl) 250 p_run := by
  intro ds d hd
  unfold p_run at hd
  split at hd
  · rename_i s
    split at hd
    · rename_i hc
      cases hd
      refine ⟨_, pcall_of (k := s.size + 10) ?_⟩
      refine W_body (c := _) Tryz.func250 rfl (by simp [Tryz.f250]) ?_
      simp [Tryz.f250]
      refine W_loop rfl (fun (i : Nat) e h => e 5 = .d (I i) ∧ e 0 = .d (.str s) ∧ e 1 = .d (.fn 251 [] []) ∧ i ≤ s.size ∧ (s.data.toList.take i).all nameB = true) (fun i => s.size - i) 0 (by omega) (by simp) ?_
      rintro i e h ⟨h1, h2, h3, h4, h5⟩
      have hl : s.data.toList.length = s.size := by simp
      by_cases hlt : i < s.size
      · have hw : IntKind.i64.wrap ((i : Int) + 1) = ((i + 1 : Nat) : Int) := by rw [wrap_i64] <;> omega
        have hlt' : (i : Int) < s.size := by omega
        have hg : s[i]? = some s.data.toList[i] := by rw [str_get, List.getElem?_eq_getElem]
        have hb : (s.data.toList[i]).toNat < 256 := (s.data.toList[i]).toNat_lt
        simp [h1, h2, h3, hlt, hg, p_Name1, hw, hb]
        have hi' : i < s.data.toList.length := by omega
        have hb' : (s[i]).toNat < 256 := (s[i]).toNat_lt
        refine ⟨fun _ => ⟨fun hn => ⟨i + 1, by omega, by simp, by omega, ?_⟩, fun hn => ?_⟩, by omega⟩
        · exact List.all_eq_true.1 (take_all (p := nameB) hi' h5 hn)
        · rw [runName_stop h5 (by omega) (fun c hc => by rw [List.getElem?_eq_getElem hi'] at hc; cases hc; exact hn)]
      · obtain rfl : i = s.size := by omega
        simp [h1, h2, h3]
        rw [runName_stop h5 (by omega) (fun c hc => by rw [List.getElem?_eq_none (by omega)] at hc; cases hc)]
    · cases hd
  · cases hd
noncomputable def prims_C13 (gl : Gb) (f : FuncId) : Option (List D → Option D) := match f with
  | 250 => some p_run
  | _ => none
noncomputable def C13 (gl : Gb) : Cfg := (C12 gl).more (prims_C13 gl)
@[simp] theorem mutS_C13 (gl : Gb) (f s) : (C13 gl).mutS f s = mutTab f s := rfl
@[simp] theorem pureF_C13 (gl : Gb) (f) : (C13 gl).pureF f = true := rfl
@[simp] theorem glob_C13 (gl : Gb) : (C13 gl).glob = gl := rfl
@[simp] theorem C13_p92 (gl : Gb) : (C13 gl).primF 92 = some p_is := rfl
@[simp] theorem C13_p149 (gl : Gb) : (C13 gl).primF 149 = some p_array := rfl
@[simp] theorem C13_p196 (gl : Gb) : (C13 gl).primF 196 = some p_vec := rfl
@[simp] theorem C13_p98 (gl : Gb) : (C13 gl).primF 98 = some p_add := rfl
@[simp] theorem C13_p148 (gl : Gb) : (C13 gl).primF 148 = some p_neg := rfl
@[simp] theorem C13_p145 (gl : Gb) : (C13 gl).primF 145 = some p_lengths := rfl
@[simp] theorem C13_p140 (gl : Gb) : (C13 gl).primF 140 = some p_inside := rfl
@[simp] theorem C13_p99 (gl : Gb) : (C13 gl).primF 99 = some p_overlap := rfl
@[simp] theorem C13_p150 (gl : Gb) : (C13 gl).primF 150 = some p_apply := rfl
@[simp] theorem C13_p96 (gl : Gb) : (C13 gl).primF 96 = some p_near := rfl
@[simp] theorem C13_p194 (gl : Gb) : (C13 gl).primF 194 = some p_compose1 := rfl
@[simp] theorem C13_p97 (gl : Gb) : (C13 gl).primF 97 = some p_image := rfl
@[simp] theorem C13_p193 (gl : Gb) : (C13 gl).primF 193 = some p_find := rfl
@[simp] theorem C13_p147 (gl : Gb) : (C13 gl).primF 147 = some p_compose := rfl
@[simp] theorem C13_p93 (gl : Gb) : (C13 gl).primF 93 = some p_invert := rfl
@[simp] theorem C13_p190 (gl : Gb) : (C13 gl).primF 190 = some p_result := rfl
@[simp] theorem C13_p95 (gl : Gb) : (C13 gl).primF 95 = some p_turned := rfl
@[simp] theorem C13_p94 (gl : Gb) : (C13 gl).primF 94 = some p_sized := rfl
@[simp] theorem C13_p38 (gl : Gb) : (C13 gl).primF 38 = some p_Invert := rfl
@[simp] theorem C13_p39 (gl : Gb) : (C13 gl).primF 39 = some p_Size := rfl
@[simp] theorem C13_p41 (gl : Gb) : (C13 gl).primF 41 = some p_Box := rfl
@[simp] theorem C13_p142 (gl : Gb) : (C13 gl).primF 142 = some p_Join := rfl
@[simp] theorem C13_p187 (gl : Gb) : (C13 gl).primF 187 = some p_Place := rfl
@[simp] theorem C13_p125 (gl : Gb) : (C13 gl).primF 125 = some p_sizeOf := rfl
@[simp] theorem C13_p139 (gl : Gb) : (C13 gl).primF 139 = some p_right := rfl
@[simp] theorem C13_p182 (gl : Gb) : (C13 gl).primF 182 = some p_Split := rfl
@[simp] theorem C13_p114 (gl : Gb) : (C13 gl).primF 114 = some p_Itoa := rfl
@[simp] theorem C13_p131 (gl : Gb) : (C13 gl).primF 131 = some p_Atoi := rfl
@[simp] theorem C13_p316 (gl : Gb) : (C13 gl).primF 316 = some p_classes := rfl
@[simp] theorem C13_p252 (gl : Gb) : (C13 gl).primF 252 = some p_inner := rfl
@[simp] theorem C13_p251 (gl : Gb) : (C13 gl).primF 251 = some p_Name1 := rfl
@[simp] theorem C13_p250 (gl : Gb) : (C13 gl).primF 250 = some p_run := rfl
theorem C13_ok {gl : Gb} (h : (C12 gl).Ok Tryz.prog) : (C13 gl).Ok Tryz.prog := h.more (by
  intro f gf hf
  unfold prims_C13 at hf
  split at hf
  · simp only [Option.some.injEq] at hf; subst hf; exact does_run
  · cases hf)
def p_Name : List D → Option D := p1 fun (s : Str) => if s.size ≤ 4611686018427387904 then some (.bool (nameOk s)) else none
theorem runName_all {l : List UInt8} : runName l = l.length ↔ l.all nameB = true := by
  unfold runName
  induction l with
  | nil => simp
  | cons c l ih =>
    by_cases h : nameB c = true
    · simp [List.takeWhile_cons, h]; simpa using ih
    · simp [List.takeWhile_cons, h]
theorem does_Name : Does Tryz.prog (C13 gl) 183 p_Name := con1 (fun _ => 10) fun s hs ic => by
  refine W_body (c := _) Tryz.func183 rfl (by simp [Tryz.f183]) ?_
  have hl : s.data.toList.length = s.size := by simp
  by_cases h0 : s.size = 0
  · have he : s = ByteArray.empty := by
      apply ByteArray.ext; apply Array.ext'; apply List.eq_nil_of_length_eq_zero; simpa using h0
    subst he
    have : nameOk ByteArray.empty = false := rfl
    simp (config := {decide := true}) [Tryz.f183, p_run, this]
  · have hne : ¬ s = ⟨#[]⟩ := fun e => h0 (by rw [e]; rfl)
    obtain ⟨c, r, hc⟩ : ∃ c r, s.data.toList = c :: r := by
      cases h : s.data.toList with
      | nil => rw [h] at hl; simp at hl; omega
      | cons c r => exact ⟨c, r, rfl⟩
    have hg : s[0]? = some c := by rw [str_get, hc]; rfl
    have hok : nameOk s = (decide (s.size ≤ 24) && lowerI c.toNat && decide (runName s.data.toList = s.size)) := by
      rw [Bool.eq_iff_iff]
      simp only [Bool.and_eq_true, decide_eq_true_eq, ← hl, runName_all]
      unfold nameOk
      rw [hc]
      simp only [Bool.and_eq_true, decide_eq_true_eq, List.length_cons]
    have hb : c.toNat < 256 := c.toNat_lt
    simp (config := {decide := true}) [Tryz.f183, p_run, hne, hg, hs, hok, lowerI]
    grind
end Go.Proofs.YtmfgnajlkoafkaaGreatDoor
end
section
namespace Go.Proofs.YtmfgnajlkoafkaaGreatDoor
open Go Go.AM Go.AM.Orient Go.AM.Lineage
open Go.AM.Enc (enc dec)
open Go.AM.Row (row ofRow)
set_option maxRecDepth 100000
set_option linter.unusedVariables false
set_option linter.unusedSimpArgs false
variable {gl : Gb}
noncomputable def prims_C14 (gl : Gb) (f : FuncId) : Option (List D → Option D) := match f with
  | 183 => some p_Name
  | _ => none
noncomputable def C14 (gl : Gb) : Cfg := (C13 gl).more (prims_C14 gl)
@[simp] theorem mutS_C14 (gl : Gb) (f s) : (C14 gl).mutS f s = mutTab f s := rfl
@[simp] theorem pureF_C14 (gl : Gb) (f) : (C14 gl).pureF f = true := rfl
@[simp] theorem glob_C14 (gl : Gb) : (C14 gl).glob = gl := rfl
@[simp] theorem C14_p92 (gl : Gb) : (C14 gl).primF 92 = some p_is := rfl
@[simp] theorem C14_p149 (gl : Gb) : (C14 gl).primF 149 = some p_array := rfl
@[simp] theorem C14_p196 (gl : Gb) : (C14 gl).primF 196 = some p_vec := rfl
@[simp] theorem C14_p98 (gl : Gb) : (C14 gl).primF 98 = some p_add := rfl
@[simp] theorem C14_p148 (gl : Gb) : (C14 gl).primF 148 = some p_neg := rfl
@[simp] theorem C14_p145 (gl : Gb) : (C14 gl).primF 145 = some p_lengths := rfl
@[simp] theorem C14_p140 (gl : Gb) : (C14 gl).primF 140 = some p_inside := rfl
@[simp] theorem C14_p99 (gl : Gb) : (C14 gl).primF 99 = some p_overlap := rfl
@[simp] theorem C14_p150 (gl : Gb) : (C14 gl).primF 150 = some p_apply := rfl
@[simp] theorem C14_p96 (gl : Gb) : (C14 gl).primF 96 = some p_near := rfl
@[simp] theorem C14_p194 (gl : Gb) : (C14 gl).primF 194 = some p_compose1 := rfl
@[simp] theorem C14_p97 (gl : Gb) : (C14 gl).primF 97 = some p_image := rfl
@[simp] theorem C14_p193 (gl : Gb) : (C14 gl).primF 193 = some p_find := rfl
@[simp] theorem C14_p147 (gl : Gb) : (C14 gl).primF 147 = some p_compose := rfl
@[simp] theorem C14_p93 (gl : Gb) : (C14 gl).primF 93 = some p_invert := rfl
@[simp] theorem C14_p190 (gl : Gb) : (C14 gl).primF 190 = some p_result := rfl
@[simp] theorem C14_p95 (gl : Gb) : (C14 gl).primF 95 = some p_turned := rfl
@[simp] theorem C14_p94 (gl : Gb) : (C14 gl).primF 94 = some p_sized := rfl
@[simp] theorem C14_p38 (gl : Gb) : (C14 gl).primF 38 = some p_Invert := rfl
@[simp] theorem C14_p39 (gl : Gb) : (C14 gl).primF 39 = some p_Size := rfl
@[simp] theorem C14_p41 (gl : Gb) : (C14 gl).primF 41 = some p_Box := rfl
@[simp] theorem C14_p142 (gl : Gb) : (C14 gl).primF 142 = some p_Join := rfl
@[simp] theorem C14_p187 (gl : Gb) : (C14 gl).primF 187 = some p_Place := rfl
@[simp] theorem C14_p125 (gl : Gb) : (C14 gl).primF 125 = some p_sizeOf := rfl
@[simp] theorem C14_p139 (gl : Gb) : (C14 gl).primF 139 = some p_right := rfl
@[simp] theorem C14_p182 (gl : Gb) : (C14 gl).primF 182 = some p_Split := rfl
@[simp] theorem C14_p114 (gl : Gb) : (C14 gl).primF 114 = some p_Itoa := rfl
@[simp] theorem C14_p131 (gl : Gb) : (C14 gl).primF 131 = some p_Atoi := rfl
@[simp] theorem C14_p316 (gl : Gb) : (C14 gl).primF 316 = some p_classes := rfl
@[simp] theorem C14_p252 (gl : Gb) : (C14 gl).primF 252 = some p_inner := rfl
@[simp] theorem C14_p251 (gl : Gb) : (C14 gl).primF 251 = some p_Name1 := rfl
@[simp] theorem C14_p250 (gl : Gb) : (C14 gl).primF 250 = some p_run := rfl
@[simp] theorem C14_p183 (gl : Gb) : (C14 gl).primF 183 = some p_Name := rfl
theorem C14_ok {gl : Gb} (h : (C13 gl).Ok Tryz.prog) : (C14 gl).Ok Tryz.prog := h.more (by
  intro f gf hf
  unfold prims_C14 at hf
  split at hf
  · simp only [Option.some.injEq] at hf; subst hf; exact does_Name
  · cases hf)
def p_isId : List D → Option D := p1 fun (s : Str) => if s.size < 4294967281 then some (.bool (idOk s)) else none
theorem split_size (sep : ByteArray) : ∀ (k : Nat) (s x : ByteArray), x ∈ Lib.splitB sep 0 k s → x.size ≤ s.size
  | 0, s, x, h => by simp [Lib.splitB] at h; rw [h]; exact Nat.le_refl _
  | k + 1, s, x, h => by
    simp only [Lib.splitB] at h
    split at h
    · simp at h; rw [h]; exact Nat.le_refl _
    · rcases List.mem_cons.1 h with rfl | h
      · simp only [ByteArray.size_extract]; omega
      · have := split_size sep k _ x h
        simp only [ByteArray.size_extract] at this; omega
theorem does_isId : Does Tryz.prog (C14 gl) 128 p_isId := con1 (fun s => s.size + 100) fun s hs ic => by
  refine W_body (c := _) Tryz.func128 rfl (by simp [Tryz.f128]) ?_
  obtain ⟨hd, tl, hp⟩ : ∃ hd tl, parts s = hd :: tl := by
    have := Lib.splitB_all dot (by decide) 0 _ s rfl
    cases h : parts s with
    | nil => unfold parts at h; rw [h] at this; simp at this
    | cons a b => exact ⟨a, b, rfl⟩
  have hlen : tl.length ≤ s.size := by
    have h1 := Lib.splitB_all dot (by decide) 0 _ s rfl
    have h2 := Lib.countB_le dot (by decide) s.size s (Nat.le_refl _)
    unfold parts at hp; rw [hp] at h1; simp at h1; omega
  have hsz : ∀ x, x = hd ∨ x ∈ tl → x.size ≤ s.size := fun x hx => split_size dot _ s x (by unfold parts at hp; rw [hp]; simpa using hx)
  have hok : idOk s = (tl.all numOk && (decide (s.size ≤ 60) && nameOk hd)) := by simp [idOk, hp]
  have hp' := hp
  unfold parts dot at hp'
  simp (config := {decide := true}) [Tryz.f128, p_Split, hs, hp']
  have htk : List.take tl.length (List.map row tl) = List.map row tl := by rw [List.take_of_length_le]; simp
  refine W_loop rfl (fun (i : Nat) e h => e 13 = .d (I i) ∧ e 12 = .d (I tl.length) ∧ e 11 = .d (.list (tl.map row)) ∧ e 3 = .d (.list ([D.str hd] :: tl.map row)) ∧ e 0 = .d (.str s) ∧ i ≤ tl.length ∧ (tl.take i).all numOk = true) (fun i => tl.length - i) 0 (by omega) (by simp [htk]) ?_
  rintro i e h ⟨h1, h2, h3, h4, h5, h6, h7⟩
  by_cases hlt : i < tl.length
  · have hw : IntKind.i64.wrap ((i : Int) + 1) = ((i + 1 : Nat) : Int) := by rw [wrap_i64] <;> omega
    have hx := hsz tl[i] (.inr (List.getElem_mem hlt))
    have hx' : tl[i].size ≤ 281474976710656 := by omega
    have hf : numOk tl[i] = false → idOk s = false := fun h => by rw [hok, all_false hlt h]; rfl
    have ht : numOk tl[i] = true → (tl.take (i + 1)).all numOk = true := fun h => take_all hlt h7 h
    cases hat : Lib.atoiAll tl[i].data.toList with
    | ok v =>
      have hv := Lib.atoiAll_bounds hat
      by_cases h1v : v < 1
      · have hn : idOk s = false := hf (by simp [numOk, hat]; omega)
        simp (config := {decide := true}) [h1, h2, h3, hlt, p_Atoi, hx', atoiD, hat, h1v, hn]
      · by_cases h2v : 1024 < v
        · have hn : idOk s = false := hf (by simp [numOk, hat]; omega)
          simp (config := {decide := true}) [h1, h2, h3, hlt, p_Atoi, hx', atoiD, hat, h1v, h2v, hn]
        · have hb1 : -9223372036854775808 ≤ v := by omega
          have hb2 : v ≤ 9223372036854775807 := by omega
          by_cases h3v : (⟨(Lib.itoa v).toArray⟩ : ByteArray) = tl[i]
          · simp (config := {decide := true}) [h1, h2, h3, h4, h5, hlt, p_Atoi, p_Itoa, hx', atoiD, hat, h1v, h2v, h3v, hb1, hb2]
            exact ⟨i + 1, by omega, by rw [wrap_i64] <;> omega, by omega, List.all_eq_true.1 (ht (by simp [numOk, hat, h3v]; omega))⟩
          · have hn : idOk s = false := hf (by simp [numOk, hat, h3v])
            simp (config := {decide := true}) [h1, h2, h3, hlt, p_Atoi, p_Itoa, hx', atoiD, hat, h1v, h2v, h3v, hn, hb1, hb2]
    | range =>
      have hn : idOk s = false := hf (by simp [numOk, hat])
      simp (config := {decide := true}) [h1, h2, h3, hlt, p_Atoi, hx', atoiD, hat, hn, atoiErr]
    | _ =>
      have hn : idOk s = false := hf (by simp [numOk, hat])
      simp (config := {decide := true}) [h1, h2, h3, hlt, p_Atoi, hx', atoiD, hat, hn, atoiErr]
  · obtain rfl : i = tl.length := by omega
    have hh := hsz hd (.inl rfl)
    have hh' : hd.size ≤ 4611686018427387904 := by omega
    have ha : tl.all numOk = true := by simpa using h7
    simp (config := {decide := true}) [h1, h2, h3, h4, h5, p_Name, hh', hok, ha]
    omega
end Go.Proofs.YtmfgnajlkoafkaaGreatDoor
end
section
namespace Go.Proofs.YtmfgnajlkoafkaaGreatDoor
open Go Go.AM Go.AM.Orient Go.AM.Lineage
open Go.AM.Enc (enc dec)
open Go.AM.Row (row ofRow)
set_option maxRecDepth 100000
set_option linter.unusedVariables false
set_option linter.unusedSimpArgs false
variable {gl : Gb}
noncomputable def prims_C15 (gl : Gb) (f : FuncId) : Option (List D → Option D) := match f with
  | 128 => some p_isId
  | _ => none
noncomputable def C15 (gl : Gb) : Cfg := (C14 gl).more (prims_C15 gl)
@[simp] theorem mutS_C15 (gl : Gb) (f s) : (C15 gl).mutS f s = mutTab f s := rfl
@[simp] theorem pureF_C15 (gl : Gb) (f) : (C15 gl).pureF f = true := rfl
@[simp] theorem glob_C15 (gl : Gb) : (C15 gl).glob = gl := rfl
@[simp] theorem C15_p92 (gl : Gb) : (C15 gl).primF 92 = some p_is := rfl
@[simp] theorem C15_p149 (gl : Gb) : (C15 gl).primF 149 = some p_array := rfl
@[simp] theorem C15_p196 (gl : Gb) : (C15 gl).primF 196 = some p_vec := rfl
@[simp] theorem C15_p98 (gl : Gb) : (C15 gl).primF 98 = some p_add := rfl
@[simp] theorem C15_p148 (gl : Gb) : (C15 gl).primF 148 = some p_neg := rfl
@[simp] theorem C15_p145 (gl : Gb) : (C15 gl).primF 145 = some p_lengths := rfl
@[simp] theorem C15_p140 (gl : Gb) : (C15 gl).primF 140 = some p_inside := rfl
@[simp] theorem C15_p99 (gl : Gb) : (C15 gl).primF 99 = some p_overlap := rfl
@[simp] theorem C15_p150 (gl : Gb) : (C15 gl).primF 150 = some p_apply := rfl
@[simp] theorem C15_p96 (gl : Gb) : (C15 gl).primF 96 = some p_near := rfl
@[simp] theorem C15_p194 (gl : Gb) : (C15 gl).primF 194 = some p_compose1 := rfl
@[simp] theorem C15_p97 (gl : Gb) : (C15 gl).primF 97 = some p_image := rfl
@[simp] theorem C15_p193 (gl : Gb) : (C15 gl).primF 193 = some p_find := rfl
@[simp] theorem C15_p147 (gl : Gb) : (C15 gl).primF 147 = some p_compose := rfl
@[simp] theorem C15_p93 (gl : Gb) : (C15 gl).primF 93 = some p_invert := rfl
@[simp] theorem C15_p190 (gl : Gb) : (C15 gl).primF 190 = some p_result := rfl
@[simp] theorem C15_p95 (gl : Gb) : (C15 gl).primF 95 = some p_turned := rfl
@[simp] theorem C15_p94 (gl : Gb) : (C15 gl).primF 94 = some p_sized := rfl
@[simp] theorem C15_p38 (gl : Gb) : (C15 gl).primF 38 = some p_Invert := rfl
@[simp] theorem C15_p39 (gl : Gb) : (C15 gl).primF 39 = some p_Size := rfl
@[simp] theorem C15_p41 (gl : Gb) : (C15 gl).primF 41 = some p_Box := rfl
@[simp] theorem C15_p142 (gl : Gb) : (C15 gl).primF 142 = some p_Join := rfl
@[simp] theorem C15_p187 (gl : Gb) : (C15 gl).primF 187 = some p_Place := rfl
@[simp] theorem C15_p125 (gl : Gb) : (C15 gl).primF 125 = some p_sizeOf := rfl
@[simp] theorem C15_p139 (gl : Gb) : (C15 gl).primF 139 = some p_right := rfl
@[simp] theorem C15_p182 (gl : Gb) : (C15 gl).primF 182 = some p_Split := rfl
@[simp] theorem C15_p114 (gl : Gb) : (C15 gl).primF 114 = some p_Itoa := rfl
@[simp] theorem C15_p131 (gl : Gb) : (C15 gl).primF 131 = some p_Atoi := rfl
@[simp] theorem C15_p316 (gl : Gb) : (C15 gl).primF 316 = some p_classes := rfl
@[simp] theorem C15_p252 (gl : Gb) : (C15 gl).primF 252 = some p_inner := rfl
@[simp] theorem C15_p251 (gl : Gb) : (C15 gl).primF 251 = some p_Name1 := rfl
@[simp] theorem C15_p250 (gl : Gb) : (C15 gl).primF 250 = some p_run := rfl
@[simp] theorem C15_p183 (gl : Gb) : (C15 gl).primF 183 = some p_Name := rfl
@[simp] theorem C15_p128 (gl : Gb) : (C15 gl).primF 128 = some p_isId := rfl
theorem C15_ok {gl : Gb} (h : (C14 gl).Ok Tryz.prog) : (C15 gl).Ok Tryz.prog := h.more (by
  intro f gf hf
  unfold prims_C15 at hf
  split at hf
  · simp only [Option.some.injEq] at hf; subst hf; exact does_isId
  · cases hf)
def p_build1 : List D → Option D := p1 fun (p : Piece) => if p.Id.size < 4294967281 then some (.bool (!idOk p.Id)) else none
theorem does_build1 : Does Tryz.prog (C15 gl) 137 p_build1 := con1 (fun _ => 10) fun p hc ic => by
  refine W_body (c := _) Tryz.func137 rfl (by simp [Tryz.f137]) ?_
  simp (config := {decide := true}) [Tryz.f137, p_isId, hc]
def p_build2 : List D → Option D := p1 fun (p : Piece) => some (.bool (!right p))
theorem does_build2 : Does Tryz.prog (C15 gl) 138 p_build2 := tot1 (fun _ => 10) fun p ic => by
  refine W_body (c := _) Tryz.func138 rfl (by simp [Tryz.f138]) ?_
  simp (config := {decide := true}) [Tryz.f138, p_right]
noncomputable def prims_C16 (gl : Gb) (f : FuncId) : Option (List D → Option D) := match f with
  | 137 => some p_build1
  | 138 => some p_build2
  | _ => none
noncomputable def C16 (gl : Gb) : Cfg := (C15 gl).more (prims_C16 gl)
@[simp] theorem mutS_C16 (gl : Gb) (f s) : (C16 gl).mutS f s = mutTab f s := rfl
@[simp] theorem pureF_C16 (gl : Gb) (f) : (C16 gl).pureF f = true := rfl
@[simp] theorem glob_C16 (gl : Gb) : (C16 gl).glob = gl := rfl
@[simp] theorem C16_p92 (gl : Gb) : (C16 gl).primF 92 = some p_is := rfl
@[simp] theorem C16_p149 (gl : Gb) : (C16 gl).primF 149 = some p_array := rfl
@[simp] theorem C16_p196 (gl : Gb) : (C16 gl).primF 196 = some p_vec := rfl
@[simp] theorem C16_p98 (gl : Gb) : (C16 gl).primF 98 = some p_add := rfl
@[simp] theorem C16_p148 (gl : Gb) : (C16 gl).primF 148 = some p_neg := rfl
@[simp] theorem C16_p145 (gl : Gb) : (C16 gl).primF 145 = some p_lengths := rfl
@[simp] theorem C16_p140 (gl : Gb) : (C16 gl).primF 140 = some p_inside := rfl
@[simp] theorem C16_p99 (gl : Gb) : (C16 gl).primF 99 = some p_overlap := rfl
@[simp] theorem C16_p150 (gl : Gb) : (C16 gl).primF 150 = some p_apply := rfl
@[simp] theorem C16_p96 (gl : Gb) : (C16 gl).primF 96 = some p_near := rfl
@[simp] theorem C16_p194 (gl : Gb) : (C16 gl).primF 194 = some p_compose1 := rfl
@[simp] theorem C16_p97 (gl : Gb) : (C16 gl).primF 97 = some p_image := rfl
@[simp] theorem C16_p193 (gl : Gb) : (C16 gl).primF 193 = some p_find := rfl
@[simp] theorem C16_p147 (gl : Gb) : (C16 gl).primF 147 = some p_compose := rfl
@[simp] theorem C16_p93 (gl : Gb) : (C16 gl).primF 93 = some p_invert := rfl
@[simp] theorem C16_p190 (gl : Gb) : (C16 gl).primF 190 = some p_result := rfl
@[simp] theorem C16_p95 (gl : Gb) : (C16 gl).primF 95 = some p_turned := rfl
@[simp] theorem C16_p94 (gl : Gb) : (C16 gl).primF 94 = some p_sized := rfl
@[simp] theorem C16_p38 (gl : Gb) : (C16 gl).primF 38 = some p_Invert := rfl
@[simp] theorem C16_p39 (gl : Gb) : (C16 gl).primF 39 = some p_Size := rfl
@[simp] theorem C16_p41 (gl : Gb) : (C16 gl).primF 41 = some p_Box := rfl
@[simp] theorem C16_p142 (gl : Gb) : (C16 gl).primF 142 = some p_Join := rfl
@[simp] theorem C16_p187 (gl : Gb) : (C16 gl).primF 187 = some p_Place := rfl
@[simp] theorem C16_p125 (gl : Gb) : (C16 gl).primF 125 = some p_sizeOf := rfl
@[simp] theorem C16_p139 (gl : Gb) : (C16 gl).primF 139 = some p_right := rfl
@[simp] theorem C16_p182 (gl : Gb) : (C16 gl).primF 182 = some p_Split := rfl
@[simp] theorem C16_p114 (gl : Gb) : (C16 gl).primF 114 = some p_Itoa := rfl
@[simp] theorem C16_p131 (gl : Gb) : (C16 gl).primF 131 = some p_Atoi := rfl
@[simp] theorem C16_p316 (gl : Gb) : (C16 gl).primF 316 = some p_classes := rfl
@[simp] theorem C16_p252 (gl : Gb) : (C16 gl).primF 252 = some p_inner := rfl
@[simp] theorem C16_p251 (gl : Gb) : (C16 gl).primF 251 = some p_Name1 := rfl
@[simp] theorem C16_p250 (gl : Gb) : (C16 gl).primF 250 = some p_run := rfl
@[simp] theorem C16_p183 (gl : Gb) : (C16 gl).primF 183 = some p_Name := rfl
@[simp] theorem C16_p128 (gl : Gb) : (C16 gl).primF 128 = some p_isId := rfl
@[simp] theorem C16_p137 (gl : Gb) : (C16 gl).primF 137 = some p_build1 := rfl
@[simp] theorem C16_p138 (gl : Gb) : (C16 gl).primF 138 = some p_build2 := rfl
theorem C16_ok {gl : Gb} (h : (C15 gl).Ok Tryz.prog) : (C16 gl).Ok Tryz.prog := h.more (by
  intro f gf hf
  unfold prims_C16 at hf
  split at hf
  · simp only [Option.some.injEq] at hf; subst hf; exact does_build1
  · simp only [Option.some.injEq] at hf; subst hf; exact does_build2
  · cases hf)
/-- the index of the first that does, or -1 -/
def findI {α : Type} (p : α → Bool) (l : List α) : Int := match l.findIdx? p with
  | some i => (i : Int)
  | none => -1
theorem findI_some {α : Type} {p : α → Bool} {l : List α} {i : Nat} (hi : i < l.length) (hp : p l[i] = true) (hn : ∀ j (h : j < i), p (l[j]'(by omega)) = false) : findI p l = i := by
  unfold findI
  have : l.findIdx? p = some i := by
    rw [List.findIdx?_eq_some_iff_getElem]
    exact ⟨hi, hp, fun j h => by simp [hn j h]⟩
  rw [this]
theorem findI_none {α : Type} {p : α → Bool} {l : List α} (hn : ∀ j (h : j < l.length), p l[j] = false) : findI p l = -1 := by
  unfold findI
  have : l.findIdx? p = none := by
    rw [List.findIdx?_eq_none_iff]
    intro x hx
    obtain ⟨j, hj, rfl⟩ := List.getElem_of_mem hx
    exact hn j hj
  rw [this]
theorem findI_any {α : Type} (p : α → Bool) (l : List α) : decide (0 ≤ findI p l) = l.any p := by
  unfold findI
  cases h : l.findIdx? p with
  | none =>
    rw [List.findIdx?_eq_none_iff] at h
    have : l.any p = false := by rw [List.any_eq_false]; intro x hx; simp [h x hx]
    rw [this]; rfl
  | some i =>
    rw [List.findIdx?_eq_some_iff_getElem] at h
    obtain ⟨hi, hp, _⟩ := h
    have : l.any p = true := List.any_eq_true.2 ⟨_, List.getElem_mem hi, hp⟩
    rw [this]; simp
/-- ids that can be looked at -/
def shortIds (l : List Piece) : Prop := l.length < 1000000 ∧ ∀ p ∈ l, p.Id.size < 4294967281
noncomputable instance shortIds_dec (l : List Piece) : Decidable (shortIds l) := Classical.propDecidable _
noncomputable def p_IndexFunc : List D → Option D
  | [.list rows, .fn 137 [] []] => (decRows rows).bind fun (l : List Piece) => if shortIds l then some (I (findI (fun p => !idOk p.Id) l)) else none
  | [.list rows, .fn 138 [] []] => (decRows rows).bind fun (l : List Piece) => open Classical in if l.length < 1000000 then some (I (findI (fun p => !right p) l)) else none
  | _ => none
theorem idxf_loop (C : Cfg) (ic : CallF) (k : Nat) (cl : D) (fid : FuncId) (p : Piece → Bool) (l : List Piece) (hl : l.length < 1000000) (hcl : cl = .fn fid [] []) (hmu : ∀ f s, C.mutS f s = mutTab f s) (hfn : C.fns 184 = some Tryz.f184)
    (hp : ∀ x ∈ l, ∀ h, pickC C ic k (.fn fid) [.d (.agg x.cells)] h = some (.d (.bool (p x)), h)) :
    W (bodyC Tryz.prog C (pickC C ic k) 1000001 184 [.d (enc l), .d cl] Heap.empty) (fun r => freezeV r.2 1000002 r.1 = some (I (findI p l))) := by
  refine W_body (c := _) hfn rfl (by simp [Tryz.f184]) ?_
  simp [Tryz.f184]
  refine W_loop rfl (fun (i : Nat) e h => e 8 = .d (I i) ∧ e 7 = .d (I l.length) ∧ e 6 = .d (.list (l.map row)) ∧ e 0 = .d (.list (l.map row)) ∧ e 1 = .d cl ∧ i ≤ l.length ∧ ∀ j (h : j < i) (h2 : j < l.length), p l[j] = false) (fun i => l.length - i) 0 (by omega) (by simp) ?_
  rintro i e h ⟨h1, h2, h3, h4, h5, h6, h7⟩
  subst hcl
  by_cases hlt : i < l.length
  · have hw : IntKind.i64.wrap ((i : Int) + 1) = ((i + 1 : Nat) : Int) := by rw [wrap_i64] <;> omega
    have hpp := hp l[i] (List.getElem_mem hlt)
    simp only [Piece.cells] at hpp
    simp [h1, h2, h3, h4, h5, hlt, hpp, hw]
    refine ⟨fun hx => ?_, fun hx => ⟨i + 1, by omega, by simp, by omega, fun j hj hj2 => ?_⟩⟩
    · rw [findI_some hlt hx (fun j hj => h7 j hj _)]
    · by_cases e : j = i
      · subst e; exact hx
      · exact h7 j (by omega) hj2
  · obtain rfl : i = l.length := by omega
    simp [h1, h2, h3]
    rw [findI_none (fun j hj => h7 j hj hj)]
theorem does_IndexFunc : Does Tryz.prog (C16 gl) 184 p_IndexFunc := by
  intro ds d hd
  unfold p_IndexFunc at hd
  split at hd
  · obtain ⟨l, h1, h2⟩ := Option.bind_eq_some_iff.1 hd
    obtain rfl := decRows_sound _ _ h1
    split at h2
    · rename_i hc
      cases h2
      exact ⟨_, pcall_of (k := 1000001) (idxf_loop _ _ _ _ 137 _ l hc.1 rfl (fun _ _ => rfl) Tryz.func184 (fun x hx h => by
        have := hc.2 x hx
        simp [p_build1, this, Piece.cells]))⟩
    · cases h2
  · obtain ⟨l, h1, h2⟩ := Option.bind_eq_some_iff.1 hd
    obtain rfl := decRows_sound _ _ h1
    split at h2
    · rename_i hc
      cases h2
      exact ⟨_, pcall_of (k := 1000001) (idxf_loop _ _ _ _ 138 _ l hc rfl (fun _ _ => rfl) Tryz.func184 (fun x hx h => by
        simp [p_build2, Piece.cells]))⟩
    · cases h2
  · cases hd
noncomputable def prims_C17 (gl : Gb) (f : FuncId) : Option (List D → Option D) := match f with
  | 184 => some p_IndexFunc
  | _ => none
noncomputable def C17 (gl : Gb) : Cfg := (C16 gl).more (prims_C17 gl)
@[simp] theorem mutS_C17 (gl : Gb) (f s) : (C17 gl).mutS f s = mutTab f s := rfl
@[simp] theorem pureF_C17 (gl : Gb) (f) : (C17 gl).pureF f = true := rfl
@[simp] theorem glob_C17 (gl : Gb) : (C17 gl).glob = gl := rfl
@[simp] theorem C17_p92 (gl : Gb) : (C17 gl).primF 92 = some p_is := rfl
@[simp] theorem C17_p149 (gl : Gb) : (C17 gl).primF 149 = some p_array := rfl
@[simp] theorem C17_p196 (gl : Gb) : (C17 gl).primF 196 = some p_vec := rfl
@[simp] theorem C17_p98 (gl : Gb) : (C17 gl).primF 98 = some p_add := rfl
@[simp] theorem C17_p148 (gl : Gb) : (C17 gl).primF 148 = some p_neg := rfl
@[simp] theorem C17_p145 (gl : Gb) : (C17 gl).primF 145 = some p_lengths := rfl
@[simp] theorem C17_p140 (gl : Gb) : (C17 gl).primF 140 = some p_inside := rfl
@[simp] theorem C17_p99 (gl : Gb) : (C17 gl).primF 99 = some p_overlap := rfl
@[simp] theorem C17_p150 (gl : Gb) : (C17 gl).primF 150 = some p_apply := rfl
@[simp] theorem C17_p96 (gl : Gb) : (C17 gl).primF 96 = some p_near := rfl
@[simp] theorem C17_p194 (gl : Gb) : (C17 gl).primF 194 = some p_compose1 := rfl
@[simp] theorem C17_p97 (gl : Gb) : (C17 gl).primF 97 = some p_image := rfl
@[simp] theorem C17_p193 (gl : Gb) : (C17 gl).primF 193 = some p_find := rfl
@[simp] theorem C17_p147 (gl : Gb) : (C17 gl).primF 147 = some p_compose := rfl
@[simp] theorem C17_p93 (gl : Gb) : (C17 gl).primF 93 = some p_invert := rfl
@[simp] theorem C17_p190 (gl : Gb) : (C17 gl).primF 190 = some p_result := rfl
@[simp] theorem C17_p95 (gl : Gb) : (C17 gl).primF 95 = some p_turned := rfl
@[simp] theorem C17_p94 (gl : Gb) : (C17 gl).primF 94 = some p_sized := rfl
@[simp] theorem C17_p38 (gl : Gb) : (C17 gl).primF 38 = some p_Invert := rfl
@[simp] theorem C17_p39 (gl : Gb) : (C17 gl).primF 39 = some p_Size := rfl
@[simp] theorem C17_p41 (gl : Gb) : (C17 gl).primF 41 = some p_Box := rfl
@[simp] theorem C17_p142 (gl : Gb) : (C17 gl).primF 142 = some p_Join := rfl
@[simp] theorem C17_p187 (gl : Gb) : (C17 gl).primF 187 = some p_Place := rfl
@[simp] theorem C17_p125 (gl : Gb) : (C17 gl).primF 125 = some p_sizeOf := rfl
@[simp] theorem C17_p139 (gl : Gb) : (C17 gl).primF 139 = some p_right := rfl
@[simp] theorem C17_p182 (gl : Gb) : (C17 gl).primF 182 = some p_Split := rfl
@[simp] theorem C17_p114 (gl : Gb) : (C17 gl).primF 114 = some p_Itoa := rfl
@[simp] theorem C17_p131 (gl : Gb) : (C17 gl).primF 131 = some p_Atoi := rfl
@[simp] theorem C17_p316 (gl : Gb) : (C17 gl).primF 316 = some p_classes := rfl
@[simp] theorem C17_p252 (gl : Gb) : (C17 gl).primF 252 = some p_inner := rfl
@[simp] theorem C17_p251 (gl : Gb) : (C17 gl).primF 251 = some p_Name1 := rfl
@[simp] theorem C17_p250 (gl : Gb) : (C17 gl).primF 250 = some p_run := rfl
@[simp] theorem C17_p183 (gl : Gb) : (C17 gl).primF 183 = some p_Name := rfl
@[simp] theorem C17_p128 (gl : Gb) : (C17 gl).primF 128 = some p_isId := rfl
@[simp] theorem C17_p137 (gl : Gb) : (C17 gl).primF 137 = some p_build1 := rfl
@[simp] theorem C17_p138 (gl : Gb) : (C17 gl).primF 138 = some p_build2 := rfl
@[simp] theorem C17_p184 (gl : Gb) : (C17 gl).primF 184 = some p_IndexFunc := rfl
theorem C17_ok {gl : Gb} (h : (C16 gl).Ok Tryz.prog) : (C17 gl).Ok Tryz.prog := h.more (by
  intro f gf hf
  unfold prims_C17 at hf
  split at hf
  · simp only [Option.some.injEq] at hf; subst hf; exact does_IndexFunc
  · cases hf)
noncomputable def p_ContainsFunc : List D → Option D
  | [.list rows, .fn 137 [] []] => (decRows rows).bind fun (l : List Piece) => if shortIds l then some (.bool (l.any (fun p => !idOk p.Id))) else none
  | [.list rows, .fn 138 [] []] => (decRows rows).bind fun (l : List Piece) => open Classical in if l.length < 1000000 then some (.bool (l.any (fun p => !right p))) else none
  | _ => none
theorem does_ContainsFunc : Does Tryz.prog (C17 gl) 129 p_ContainsFunc := by
  intro ds d hd
  unfold p_ContainsFunc at hd
  split at hd
  · obtain ⟨l, h1, h2⟩ := Option.bind_eq_some_iff.1 hd
    obtain rfl := decRows_sound _ _ h1
    split at h2
    · rename_i hc
      cases h2
      refine ⟨_, pcall_of (k := 10) ?_⟩
      refine W_body (c := _) Tryz.func129 rfl (by simp [Tryz.f129]) ?_
      simp [Tryz.f129, p_IndexFunc, hc]
      exact findI_any _ _
    · cases h2
  · obtain ⟨l, h1, h2⟩ := Option.bind_eq_some_iff.1 hd
    obtain rfl := decRows_sound _ _ h1
    split at h2
    · rename_i hc
      cases h2
      refine ⟨_, pcall_of (k := 10) ?_⟩
      refine W_body (c := _) Tryz.func129 rfl (by simp [Tryz.f129]) ?_
      simp [Tryz.f129, p_IndexFunc, hc]
      exact findI_any _ _
    · cases h2
  · cases hd
noncomputable def prims_C18 (gl : Gb) (f : FuncId) : Option (List D → Option D) := match f with
  | 129 => some p_ContainsFunc
  | _ => none
noncomputable def C18 (gl : Gb) : Cfg := (C17 gl).more (prims_C18 gl)
@[simp] theorem mutS_C18 (gl : Gb) (f s) : (C18 gl).mutS f s = mutTab f s := rfl
@[simp] theorem pureF_C18 (gl : Gb) (f) : (C18 gl).pureF f = true := rfl
@[simp] theorem glob_C18 (gl : Gb) : (C18 gl).glob = gl := rfl
@[simp] theorem C18_p92 (gl : Gb) : (C18 gl).primF 92 = some p_is := rfl
@[simp] theorem C18_p149 (gl : Gb) : (C18 gl).primF 149 = some p_array := rfl
@[simp] theorem C18_p196 (gl : Gb) : (C18 gl).primF 196 = some p_vec := rfl
@[simp] theorem C18_p98 (gl : Gb) : (C18 gl).primF 98 = some p_add := rfl
@[simp] theorem C18_p148 (gl : Gb) : (C18 gl).primF 148 = some p_neg := rfl
@[simp] theorem C18_p145 (gl : Gb) : (C18 gl).primF 145 = some p_lengths := rfl
@[simp] theorem C18_p140 (gl : Gb) : (C18 gl).primF 140 = some p_inside := rfl
@[simp] theorem C18_p99 (gl : Gb) : (C18 gl).primF 99 = some p_overlap := rfl
@[simp] theorem C18_p150 (gl : Gb) : (C18 gl).primF 150 = some p_apply := rfl
@[simp] theorem C18_p96 (gl : Gb) : (C18 gl).primF 96 = some p_near := rfl
@[simp] theorem C18_p194 (gl : Gb) : (C18 gl).primF 194 = some p_compose1 := rfl
@[simp] theorem C18_p97 (gl : Gb) : (C18 gl).primF 97 = some p_image := rfl
@[simp] theorem C18_p193 (gl : Gb) : (C18 gl).primF 193 = some p_find := rfl
@[simp] theorem C18_p147 (gl : Gb) : (C18 gl).primF 147 = some p_compose := rfl
@[simp] theorem C18_p93 (gl : Gb) : (C18 gl).primF 93 = some p_invert := rfl
@[simp] theorem C18_p190 (gl : Gb) : (C18 gl).primF 190 = some p_result := rfl
@[simp] theorem C18_p95 (gl : Gb) : (C18 gl).primF 95 = some p_turned := rfl
@[simp] theorem C18_p94 (gl : Gb) : (C18 gl).primF 94 = some p_sized := rfl
@[simp] theorem C18_p38 (gl : Gb) : (C18 gl).primF 38 = some p_Invert := rfl
@[simp] theorem C18_p39 (gl : Gb) : (C18 gl).primF 39 = some p_Size := rfl
@[simp] theorem C18_p41 (gl : Gb) : (C18 gl).primF 41 = some p_Box := rfl
@[simp] theorem C18_p142 (gl : Gb) : (C18 gl).primF 142 = some p_Join := rfl
@[simp] theorem C18_p187 (gl : Gb) : (C18 gl).primF 187 = some p_Place := rfl
@[simp] theorem C18_p125 (gl : Gb) : (C18 gl).primF 125 = some p_sizeOf := rfl
@[simp] theorem C18_p139 (gl : Gb) : (C18 gl).primF 139 = some p_right := rfl
@[simp] theorem C18_p182 (gl : Gb) : (C18 gl).primF 182 = some p_Split := rfl
@[simp] theorem C18_p114 (gl : Gb) : (C18 gl).primF 114 = some p_Itoa := rfl
@[simp] theorem C18_p131 (gl : Gb) : (C18 gl).primF 131 = some p_Atoi := rfl
@[simp] theorem C18_p316 (gl : Gb) : (C18 gl).primF 316 = some p_classes := rfl
@[simp] theorem C18_p252 (gl : Gb) : (C18 gl).primF 252 = some p_inner := rfl
@[simp] theorem C18_p251 (gl : Gb) : (C18 gl).primF 251 = some p_Name1 := rfl
@[simp] theorem C18_p250 (gl : Gb) : (C18 gl).primF 250 = some p_run := rfl
@[simp] theorem C18_p183 (gl : Gb) : (C18 gl).primF 183 = some p_Name := rfl
@[simp] theorem C18_p128 (gl : Gb) : (C18 gl).primF 128 = some p_isId := rfl
@[simp] theorem C18_p137 (gl : Gb) : (C18 gl).primF 137 = some p_build1 := rfl
@[simp] theorem C18_p138 (gl : Gb) : (C18 gl).primF 138 = some p_build2 := rfl
@[simp] theorem C18_p184 (gl : Gb) : (C18 gl).primF 184 = some p_IndexFunc := rfl
@[simp] theorem C18_p129 (gl : Gb) : (C18 gl).primF 129 = some p_ContainsFunc := rfl
theorem C18_ok {gl : Gb} (h : (C17 gl).Ok Tryz.prog) : (C18 gl).Ok Tryz.prog := h.more (by
  intro f gf hf
  unfold prims_C18 at hf
  split at hf
  · simp only [Option.some.injEq] at hf; subst hf; exact does_ContainsFunc
  · cases hf)
end Go.Proofs.YtmfgnajlkoafkaaGreatDoor
end
