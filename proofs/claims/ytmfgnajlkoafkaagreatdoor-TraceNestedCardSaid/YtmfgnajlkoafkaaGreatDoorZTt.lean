/- The reference's functions of turns and boxes. -/
import Derived.Test.YtmfgnajlkoafkaaGreatDoorZTr
import Derived.Test.YtmfgnajlkoafkaaGreatDoorMe
set_option linter.all false
set_option maxHeartbeats 2000000
namespace Go.Proofs.YtmfgnajlkoafkaaGreatDoor
open Go Go.AM Go.AM.Orient Go.AM.Lineage
open Go.AM.Enc (enc dec)
open Go.AM.Row (row ofRow)
set_option maxRecDepth 100000
set_option linter.unusedVariables false
set_option linter.unusedSimpArgs false
variable {gl : Gb}
theorem rapp_0 (gl : Gb) (x y z : Int) : pcall Tryz.prog (Cz gl) 100 179 [I 0, .agg [I x, I y, I z]] = some (enc (apply 0 ⟨x, y, z⟩)) := by kernel_rfl
theorem rapp_1 (gl : Gb) (x y z : Int) : pcall Tryz.prog (Cz gl) 100 179 [I 1, .agg [I x, I y, I z]] = some (enc (apply 1 ⟨x, y, z⟩)) := by kernel_rfl
theorem rapp_2 (gl : Gb) (x y z : Int) : pcall Tryz.prog (Cz gl) 100 179 [I 2, .agg [I x, I y, I z]] = some (enc (apply 2 ⟨x, y, z⟩)) := by kernel_rfl
theorem rapp_3 (gl : Gb) (x y z : Int) : pcall Tryz.prog (Cz gl) 100 179 [I 3, .agg [I x, I y, I z]] = some (enc (apply 3 ⟨x, y, z⟩)) := by kernel_rfl
theorem rapp_4 (gl : Gb) (x y z : Int) : pcall Tryz.prog (Cz gl) 100 179 [I 4, .agg [I x, I y, I z]] = some (enc (apply 4 ⟨x, y, z⟩)) := by kernel_rfl
theorem rapp_5 (gl : Gb) (x y z : Int) : pcall Tryz.prog (Cz gl) 100 179 [I 5, .agg [I x, I y, I z]] = some (enc (apply 5 ⟨x, y, z⟩)) := by kernel_rfl
theorem rapp_6 (gl : Gb) (x y z : Int) : pcall Tryz.prog (Cz gl) 100 179 [I 6, .agg [I x, I y, I z]] = some (enc (apply 6 ⟨x, y, z⟩)) := by kernel_rfl
theorem rapp_7 (gl : Gb) (x y z : Int) : pcall Tryz.prog (Cz gl) 100 179 [I 7, .agg [I x, I y, I z]] = some (enc (apply 7 ⟨x, y, z⟩)) := by kernel_rfl
theorem rapp_8 (gl : Gb) (x y z : Int) : pcall Tryz.prog (Cz gl) 100 179 [I 8, .agg [I x, I y, I z]] = some (enc (apply 8 ⟨x, y, z⟩)) := by kernel_rfl
theorem rapp_9 (gl : Gb) (x y z : Int) : pcall Tryz.prog (Cz gl) 100 179 [I 9, .agg [I x, I y, I z]] = some (enc (apply 9 ⟨x, y, z⟩)) := by kernel_rfl
theorem rapp_10 (gl : Gb) (x y z : Int) : pcall Tryz.prog (Cz gl) 100 179 [I 10, .agg [I x, I y, I z]] = some (enc (apply 10 ⟨x, y, z⟩)) := by kernel_rfl
theorem rapp_11 (gl : Gb) (x y z : Int) : pcall Tryz.prog (Cz gl) 100 179 [I 11, .agg [I x, I y, I z]] = some (enc (apply 11 ⟨x, y, z⟩)) := by kernel_rfl
theorem rapp_12 (gl : Gb) (x y z : Int) : pcall Tryz.prog (Cz gl) 100 179 [I 12, .agg [I x, I y, I z]] = some (enc (apply 12 ⟨x, y, z⟩)) := by kernel_rfl
theorem rapp_13 (gl : Gb) (x y z : Int) : pcall Tryz.prog (Cz gl) 100 179 [I 13, .agg [I x, I y, I z]] = some (enc (apply 13 ⟨x, y, z⟩)) := by kernel_rfl
theorem rapp_14 (gl : Gb) (x y z : Int) : pcall Tryz.prog (Cz gl) 100 179 [I 14, .agg [I x, I y, I z]] = some (enc (apply 14 ⟨x, y, z⟩)) := by kernel_rfl
theorem rapp_15 (gl : Gb) (x y z : Int) : pcall Tryz.prog (Cz gl) 100 179 [I 15, .agg [I x, I y, I z]] = some (enc (apply 15 ⟨x, y, z⟩)) := by kernel_rfl
theorem rapp_16 (gl : Gb) (x y z : Int) : pcall Tryz.prog (Cz gl) 100 179 [I 16, .agg [I x, I y, I z]] = some (enc (apply 16 ⟨x, y, z⟩)) := by kernel_rfl
theorem rapp_17 (gl : Gb) (x y z : Int) : pcall Tryz.prog (Cz gl) 100 179 [I 17, .agg [I x, I y, I z]] = some (enc (apply 17 ⟨x, y, z⟩)) := by kernel_rfl
theorem rapp_18 (gl : Gb) (x y z : Int) : pcall Tryz.prog (Cz gl) 100 179 [I 18, .agg [I x, I y, I z]] = some (enc (apply 18 ⟨x, y, z⟩)) := by kernel_rfl
theorem rapp_19 (gl : Gb) (x y z : Int) : pcall Tryz.prog (Cz gl) 100 179 [I 19, .agg [I x, I y, I z]] = some (enc (apply 19 ⟨x, y, z⟩)) := by kernel_rfl
theorem rapp_20 (gl : Gb) (x y z : Int) : pcall Tryz.prog (Cz gl) 100 179 [I 20, .agg [I x, I y, I z]] = some (enc (apply 20 ⟨x, y, z⟩)) := by kernel_rfl
theorem rapp_21 (gl : Gb) (x y z : Int) : pcall Tryz.prog (Cz gl) 100 179 [I 21, .agg [I x, I y, I z]] = some (enc (apply 21 ⟨x, y, z⟩)) := by kernel_rfl
theorem rapp_22 (gl : Gb) (x y z : Int) : pcall Tryz.prog (Cz gl) 100 179 [I 22, .agg [I x, I y, I z]] = some (enc (apply 22 ⟨x, y, z⟩)) := by kernel_rfl
theorem rapp_23 (gl : Gb) (x y z : Int) : pcall Tryz.prog (Cz gl) 100 179 [I 23, .agg [I x, I y, I z]] = some (enc (apply 23 ⟨x, y, z⟩)) := by kernel_rfl
theorem does_RApply : Does Tryz.prog (Cz gl) 179 p_apply := Does.p2 fun n v d hd => by
  split at hd
  · rename_i h
    cases hd
    simp only [okTurn, Bool.and_eq_true, decide_eq_true_eq] at h
    have hn : n = 0 ∨ n = 1 ∨ n = 2 ∨ n = 3 ∨ n = 4 ∨ n = 5 ∨ n = 6 ∨ n = 7 ∨ n = 8 ∨ n = 9 ∨ n = 10 ∨ n = 11 ∨ n = 12 ∨ n = 13 ∨ n = 14 ∨ n = 15 ∨ n = 16 ∨ n = 17 ∨ n = 18 ∨ n = 19 ∨ n = 20 ∨ n = 21 ∨ n = 22 ∨ n = 23 := by omega
    rcases hn with rfl | rfl | rfl | rfl | rfl | rfl | rfl | rfl | rfl | rfl | rfl | rfl | rfl | rfl | rfl | rfl | rfl | rfl | rfl | rfl | rfl | rfl | rfl | rfl
    · exact ⟨100, rapp_0 gl v.X v.Y v.Z⟩
    · exact ⟨100, rapp_1 gl v.X v.Y v.Z⟩
    · exact ⟨100, rapp_2 gl v.X v.Y v.Z⟩
    · exact ⟨100, rapp_3 gl v.X v.Y v.Z⟩
    · exact ⟨100, rapp_4 gl v.X v.Y v.Z⟩
    · exact ⟨100, rapp_5 gl v.X v.Y v.Z⟩
    · exact ⟨100, rapp_6 gl v.X v.Y v.Z⟩
    · exact ⟨100, rapp_7 gl v.X v.Y v.Z⟩
    · exact ⟨100, rapp_8 gl v.X v.Y v.Z⟩
    · exact ⟨100, rapp_9 gl v.X v.Y v.Z⟩
    · exact ⟨100, rapp_10 gl v.X v.Y v.Z⟩
    · exact ⟨100, rapp_11 gl v.X v.Y v.Z⟩
    · exact ⟨100, rapp_12 gl v.X v.Y v.Z⟩
    · exact ⟨100, rapp_13 gl v.X v.Y v.Z⟩
    · exact ⟨100, rapp_14 gl v.X v.Y v.Z⟩
    · exact ⟨100, rapp_15 gl v.X v.Y v.Z⟩
    · exact ⟨100, rapp_16 gl v.X v.Y v.Z⟩
    · exact ⟨100, rapp_17 gl v.X v.Y v.Z⟩
    · exact ⟨100, rapp_18 gl v.X v.Y v.Z⟩
    · exact ⟨100, rapp_19 gl v.X v.Y v.Z⟩
    · exact ⟨100, rapp_20 gl v.X v.Y v.Z⟩
    · exact ⟨100, rapp_21 gl v.X v.Y v.Z⟩
    · exact ⟨100, rapp_22 gl v.X v.Y v.Z⟩
    · exact ⟨100, rapp_23 gl v.X v.Y v.Z⟩
  · cases hd
theorem prim_RApply (m : Int) : PrimOk Tryz.prog (Gl m) 179 p_apply := PrimOk.of_does (Cz_ok (Glv_ok m)) does_RApply
noncomputable def prims_C26 (gl : Gb) (f : FuncId) : Option (List D → Option D) := match f with
  | 179 => some p_apply
  | _ => none
noncomputable def C26 (gl : Gb) : Cfg := (C25 gl).more (prims_C26 gl)
@[simp] theorem mutS_C26 (gl : Gb) (f s) : (C26 gl).mutS f s = mutTab f s := rfl
@[simp] theorem pureF_C26 (gl : Gb) (f) : (C26 gl).pureF f = true := rfl
@[simp] theorem glob_C26 (gl : Gb) : (C26 gl).glob = gl := rfl
@[simp] theorem C26_p92 (gl : Gb) : (C26 gl).primF 92 = some p_is := rfl
@[simp] theorem C26_p149 (gl : Gb) : (C26 gl).primF 149 = some p_array := rfl
@[simp] theorem C26_p196 (gl : Gb) : (C26 gl).primF 196 = some p_vec := rfl
@[simp] theorem C26_p98 (gl : Gb) : (C26 gl).primF 98 = some p_add := rfl
@[simp] theorem C26_p148 (gl : Gb) : (C26 gl).primF 148 = some p_neg := rfl
@[simp] theorem C26_p145 (gl : Gb) : (C26 gl).primF 145 = some p_lengths := rfl
@[simp] theorem C26_p140 (gl : Gb) : (C26 gl).primF 140 = some p_inside := rfl
@[simp] theorem C26_p99 (gl : Gb) : (C26 gl).primF 99 = some p_overlap := rfl
@[simp] theorem C26_p150 (gl : Gb) : (C26 gl).primF 150 = some p_apply := rfl
@[simp] theorem C26_p96 (gl : Gb) : (C26 gl).primF 96 = some p_near := rfl
@[simp] theorem C26_p194 (gl : Gb) : (C26 gl).primF 194 = some p_compose1 := rfl
@[simp] theorem C26_p97 (gl : Gb) : (C26 gl).primF 97 = some p_image := rfl
@[simp] theorem C26_p193 (gl : Gb) : (C26 gl).primF 193 = some p_find := rfl
@[simp] theorem C26_p147 (gl : Gb) : (C26 gl).primF 147 = some p_compose := rfl
@[simp] theorem C26_p93 (gl : Gb) : (C26 gl).primF 93 = some p_invert := rfl
@[simp] theorem C26_p190 (gl : Gb) : (C26 gl).primF 190 = some p_result := rfl
@[simp] theorem C26_p95 (gl : Gb) : (C26 gl).primF 95 = some p_turned := rfl
@[simp] theorem C26_p94 (gl : Gb) : (C26 gl).primF 94 = some p_sized := rfl
@[simp] theorem C26_p38 (gl : Gb) : (C26 gl).primF 38 = some p_Invert := rfl
@[simp] theorem C26_p39 (gl : Gb) : (C26 gl).primF 39 = some p_Size := rfl
@[simp] theorem C26_p41 (gl : Gb) : (C26 gl).primF 41 = some p_Box := rfl
@[simp] theorem C26_p142 (gl : Gb) : (C26 gl).primF 142 = some p_Join := rfl
@[simp] theorem C26_p187 (gl : Gb) : (C26 gl).primF 187 = some p_Place := rfl
@[simp] theorem C26_p125 (gl : Gb) : (C26 gl).primF 125 = some p_sizeOf := rfl
@[simp] theorem C26_p139 (gl : Gb) : (C26 gl).primF 139 = some p_right := rfl
@[simp] theorem C26_p182 (gl : Gb) : (C26 gl).primF 182 = some p_Split := rfl
@[simp] theorem C26_p114 (gl : Gb) : (C26 gl).primF 114 = some p_Itoa := rfl
@[simp] theorem C26_p131 (gl : Gb) : (C26 gl).primF 131 = some p_Atoi := rfl
@[simp] theorem C26_p316 (gl : Gb) : (C26 gl).primF 316 = some p_classes := rfl
@[simp] theorem C26_p252 (gl : Gb) : (C26 gl).primF 252 = some p_inner := rfl
@[simp] theorem C26_p251 (gl : Gb) : (C26 gl).primF 251 = some p_Name1 := rfl
@[simp] theorem C26_p250 (gl : Gb) : (C26 gl).primF 250 = some p_run := rfl
@[simp] theorem C26_p183 (gl : Gb) : (C26 gl).primF 183 = some p_Name := rfl
@[simp] theorem C26_p128 (gl : Gb) : (C26 gl).primF 128 = some p_isId := rfl
@[simp] theorem C26_p137 (gl : Gb) : (C26 gl).primF 137 = some p_build1 := rfl
@[simp] theorem C26_p138 (gl : Gb) : (C26 gl).primF 138 = some p_build2 := rfl
@[simp] theorem C26_p184 (gl : Gb) : (C26 gl).primF 184 = some p_IndexFunc := rfl
@[simp] theorem C26_p129 (gl : Gb) : (C26 gl).primF 129 = some p_ContainsFunc := rfl
@[simp] theorem C26_p80 (gl : Gb) : (C26 gl).primF 80 = some p_build := rfl
@[simp] theorem C26_p84 (gl : Gb) : (C26 gl).primF 84 = some p_open := rfl
@[simp] theorem C26_p19 (gl : Gb) : (C26 gl).primF 19 = some p_Check := rfl
@[simp] theorem C26_p85 (gl : Gb) : (C26 gl).primF 85 = some p_pose := rfl
@[simp] theorem C26_p86 (gl : Gb) : (C26 gl).primF 86 = some p_place := rfl
@[simp] theorem C26_p22 (gl : Gb) : (C26 gl).primF 22 = some p_Find := rfl
@[simp] theorem C26_p23 (gl : Gb) : (C26 gl).primF 23 = some p_PoseL := rfl
@[simp] theorem C26_p24 (gl : Gb) : (C26 gl).primF 24 = some p_PlaceL := rfl
@[simp] theorem C26_p16 (gl : Gb) : (C26 gl).primF 16 = some p_awake := rfl
@[simp] theorem C26_p15 (gl : Gb) : (C26 gl).primF 15 = some p_Few := rfl
@[simp] theorem C26_p37 (gl : Gb) : (C26 gl).primF 37 = some p_Volume := rfl
@[simp] theorem C26_p40 (gl : Gb) : (C26 gl).primF 40 = some p_Minus := rfl
@[simp] theorem C26_p179 (gl : Gb) : (C26 gl).primF 179 = some p_apply := rfl
theorem C26_ok {m : Int} (h : (C25 (Gl m)).Ok Tryz.prog) : (C26 (Gl m)).Ok Tryz.prog := h.lib (by
  intro f gf hf
  unfold prims_C26 at hf
  split at hf
  · simp only [Option.some.injEq] at hf; subst hf; exact prim_RApply m
  · cases hf)
def p_coordinate : List D → Option D := p2 fun (v : Vec) (i : Int) => some (I (co v i))
theorem does_coordinate : Does Tryz.prog (C26 gl) 176 p_coordinate := tot2 (fun _ _ => 10) fun v i ic => by
  refine W_body (c := _) Tryz.func176 rfl (by simp [Tryz.f176]) ?_
  simp [Tryz.f176, co]
  grind
def p_Is : List D → Option D := p1 fun (n : Int) => some (.bool (okTurn n))
theorem does_Is : Does Tryz.prog (C26 gl) 133 p_Is := tot1 (fun _ => 10) fun n ic => by
  refine W_body (c := _) Tryz.func133 rfl (by simp [Tryz.f133]) ?_
  simp [Tryz.f133, okTurn]
  grind
def p_Plus : List D → Option D := p2 fun (a b : Vec) => some (enc (add a b))
theorem does_Plus : Does Tryz.prog (C26 gl) 192 p_Plus := tot2 (fun _ _ => 1) fun v u ic => by
  refine W_body (c := _) Tryz.func192 rfl (by simp [Tryz.f192]) ?_
  simp [Tryz.f192, buildV, add]
theorem vec_eq {u v : Vec} : u = v ↔ u.X = v.X ∧ u.Y = v.Y ∧ u.Z = v.Z := by cases u; cases v; simp
theorem sameR_iff {t a b : Int} : sameR t a b = true ↔ ((apply t ⟨1, 0, 0⟩).X = (apply a (apply b ⟨1, 0, 0⟩)).X ∧ (apply t ⟨1, 0, 0⟩).Y = (apply a (apply b ⟨1, 0, 0⟩)).Y ∧ (apply t ⟨1, 0, 0⟩).Z = (apply a (apply b ⟨1, 0, 0⟩)).Z) ∧ ((apply t ⟨0, 1, 0⟩).X = (apply a (apply b ⟨0, 1, 0⟩)).X ∧ (apply t ⟨0, 1, 0⟩).Y = (apply a (apply b ⟨0, 1, 0⟩)).Y ∧ (apply t ⟨0, 1, 0⟩).Z = (apply a (apply b ⟨0, 1, 0⟩)).Z) ∧ ((apply t ⟨0, 0, 1⟩).X = (apply a (apply b ⟨0, 0, 1⟩)).X ∧ (apply t ⟨0, 0, 1⟩).Y = (apply a (apply b ⟨0, 0, 1⟩)).Y ∧ (apply t ⟨0, 0, 1⟩).Z = (apply a (apply b ⟨0, 0, 1⟩)).Z) := by simp only [sameR, Bool.and_eq_true, decide_eq_true_eq, vec_eq, ex, ey, ez]
def p_same : List D → Option D := p3 fun (t a b : Int) => if okTurn t = true ∧ okTurn a = true ∧ okTurn b = true then some (.bool (sameR t a b)) else none
theorem does_same : Does Tryz.prog (C26 gl) 191 p_same := con3 (fun _ _ _ => 10) fun t a b hc ic => by
  obtain ⟨h1, h2, h3⟩ := hc
  refine W_body (c := _) Tryz.func191 rfl (by simp [Tryz.f191]) ?_
  simp (config := {decide := true, implicitDefEqProofs := false}) [Tryz.f191]
  rw [W_loop_iter rfl]
  simp (config := {decide := true, implicitDefEqProofs := false}) [W_iter_succ, p_apply, h1, h2, h3, buildV]
  cases hb : sameR t a b with
  | true =>
    obtain ⟨⟨x1, x2, x3⟩, ⟨y1, y2, y3⟩, z1, z2, z3⟩ := sameR_iff.1 hb
    simp [x1, x2, x3, y1, y2, y3, z1, z2, z3]
  | false =>
    have hs : ¬ _ := fun h => absurd (sameR_iff.2 h) (by rw [hb]; decide)
    refine ⟨fun _ => rfl, fun a1 a2 a3 => ⟨fun _ => rfl, fun b1 b2 b3 => ⟨fun _ => rfl, fun c1 c2 c3 => absurd ⟨⟨a1, a2, a3⟩, ⟨b1, b2, b3⟩, c1, c2, c3⟩ hs⟩⟩⟩
noncomputable def prims_C27 (gl : Gb) (f : FuncId) : Option (List D → Option D) := match f with
  | 176 => some p_coordinate
  | 133 => some p_Is
  | 192 => some p_Plus
  | 191 => some p_same
  | _ => none
noncomputable def C27 (gl : Gb) : Cfg := (C26 gl).more (prims_C27 gl)
@[simp] theorem mutS_C27 (gl : Gb) (f s) : (C27 gl).mutS f s = mutTab f s := rfl
@[simp] theorem pureF_C27 (gl : Gb) (f) : (C27 gl).pureF f = true := rfl
@[simp] theorem glob_C27 (gl : Gb) : (C27 gl).glob = gl := rfl
@[simp] theorem C27_p92 (gl : Gb) : (C27 gl).primF 92 = some p_is := rfl
@[simp] theorem C27_p149 (gl : Gb) : (C27 gl).primF 149 = some p_array := rfl
@[simp] theorem C27_p196 (gl : Gb) : (C27 gl).primF 196 = some p_vec := rfl
@[simp] theorem C27_p98 (gl : Gb) : (C27 gl).primF 98 = some p_add := rfl
@[simp] theorem C27_p148 (gl : Gb) : (C27 gl).primF 148 = some p_neg := rfl
@[simp] theorem C27_p145 (gl : Gb) : (C27 gl).primF 145 = some p_lengths := rfl
@[simp] theorem C27_p140 (gl : Gb) : (C27 gl).primF 140 = some p_inside := rfl
@[simp] theorem C27_p99 (gl : Gb) : (C27 gl).primF 99 = some p_overlap := rfl
@[simp] theorem C27_p150 (gl : Gb) : (C27 gl).primF 150 = some p_apply := rfl
@[simp] theorem C27_p96 (gl : Gb) : (C27 gl).primF 96 = some p_near := rfl
@[simp] theorem C27_p194 (gl : Gb) : (C27 gl).primF 194 = some p_compose1 := rfl
@[simp] theorem C27_p97 (gl : Gb) : (C27 gl).primF 97 = some p_image := rfl
@[simp] theorem C27_p193 (gl : Gb) : (C27 gl).primF 193 = some p_find := rfl
@[simp] theorem C27_p147 (gl : Gb) : (C27 gl).primF 147 = some p_compose := rfl
@[simp] theorem C27_p93 (gl : Gb) : (C27 gl).primF 93 = some p_invert := rfl
@[simp] theorem C27_p190 (gl : Gb) : (C27 gl).primF 190 = some p_result := rfl
@[simp] theorem C27_p95 (gl : Gb) : (C27 gl).primF 95 = some p_turned := rfl
@[simp] theorem C27_p94 (gl : Gb) : (C27 gl).primF 94 = some p_sized := rfl
@[simp] theorem C27_p38 (gl : Gb) : (C27 gl).primF 38 = some p_Invert := rfl
@[simp] theorem C27_p39 (gl : Gb) : (C27 gl).primF 39 = some p_Size := rfl
@[simp] theorem C27_p41 (gl : Gb) : (C27 gl).primF 41 = some p_Box := rfl
@[simp] theorem C27_p142 (gl : Gb) : (C27 gl).primF 142 = some p_Join := rfl
@[simp] theorem C27_p187 (gl : Gb) : (C27 gl).primF 187 = some p_Place := rfl
@[simp] theorem C27_p125 (gl : Gb) : (C27 gl).primF 125 = some p_sizeOf := rfl
@[simp] theorem C27_p139 (gl : Gb) : (C27 gl).primF 139 = some p_right := rfl
@[simp] theorem C27_p182 (gl : Gb) : (C27 gl).primF 182 = some p_Split := rfl
@[simp] theorem C27_p114 (gl : Gb) : (C27 gl).primF 114 = some p_Itoa := rfl
@[simp] theorem C27_p131 (gl : Gb) : (C27 gl).primF 131 = some p_Atoi := rfl
@[simp] theorem C27_p316 (gl : Gb) : (C27 gl).primF 316 = some p_classes := rfl
@[simp] theorem C27_p252 (gl : Gb) : (C27 gl).primF 252 = some p_inner := rfl
@[simp] theorem C27_p251 (gl : Gb) : (C27 gl).primF 251 = some p_Name1 := rfl
@[simp] theorem C27_p250 (gl : Gb) : (C27 gl).primF 250 = some p_run := rfl
@[simp] theorem C27_p183 (gl : Gb) : (C27 gl).primF 183 = some p_Name := rfl
@[simp] theorem C27_p128 (gl : Gb) : (C27 gl).primF 128 = some p_isId := rfl
@[simp] theorem C27_p137 (gl : Gb) : (C27 gl).primF 137 = some p_build1 := rfl
@[simp] theorem C27_p138 (gl : Gb) : (C27 gl).primF 138 = some p_build2 := rfl
@[simp] theorem C27_p184 (gl : Gb) : (C27 gl).primF 184 = some p_IndexFunc := rfl
@[simp] theorem C27_p129 (gl : Gb) : (C27 gl).primF 129 = some p_ContainsFunc := rfl
@[simp] theorem C27_p80 (gl : Gb) : (C27 gl).primF 80 = some p_build := rfl
@[simp] theorem C27_p84 (gl : Gb) : (C27 gl).primF 84 = some p_open := rfl
@[simp] theorem C27_p19 (gl : Gb) : (C27 gl).primF 19 = some p_Check := rfl
@[simp] theorem C27_p85 (gl : Gb) : (C27 gl).primF 85 = some p_pose := rfl
@[simp] theorem C27_p86 (gl : Gb) : (C27 gl).primF 86 = some p_place := rfl
@[simp] theorem C27_p22 (gl : Gb) : (C27 gl).primF 22 = some p_Find := rfl
@[simp] theorem C27_p23 (gl : Gb) : (C27 gl).primF 23 = some p_PoseL := rfl
@[simp] theorem C27_p24 (gl : Gb) : (C27 gl).primF 24 = some p_PlaceL := rfl
@[simp] theorem C27_p16 (gl : Gb) : (C27 gl).primF 16 = some p_awake := rfl
@[simp] theorem C27_p15 (gl : Gb) : (C27 gl).primF 15 = some p_Few := rfl
@[simp] theorem C27_p37 (gl : Gb) : (C27 gl).primF 37 = some p_Volume := rfl
@[simp] theorem C27_p40 (gl : Gb) : (C27 gl).primF 40 = some p_Minus := rfl
@[simp] theorem C27_p179 (gl : Gb) : (C27 gl).primF 179 = some p_apply := rfl
@[simp] theorem C27_p176 (gl : Gb) : (C27 gl).primF 176 = some p_coordinate := rfl
@[simp] theorem C27_p133 (gl : Gb) : (C27 gl).primF 133 = some p_Is := rfl
@[simp] theorem C27_p192 (gl : Gb) : (C27 gl).primF 192 = some p_Plus := rfl
@[simp] theorem C27_p191 (gl : Gb) : (C27 gl).primF 191 = some p_same := rfl
theorem C27_ok {gl : Gb} (h : (C26 gl).Ok Tryz.prog) : (C27 gl).Ok Tryz.prog := h.more (by
  intro f gf hf
  unfold prims_C27 at hf
  split at hf
  · simp only [Option.some.injEq] at hf; subst hf; exact does_coordinate
  · simp only [Option.some.injEq] at hf; subst hf; exact does_Is
  · simp only [Option.some.injEq] at hf; subst hf; exact does_Plus
  · simp only [Option.some.injEq] at hf; subst hf; exact does_same
  · cases hf)
def p_Near : List D → Option D := p1 fun (v : Vec) => some (.bool (nearV v))
theorem does_Near : Does Tryz.prog (C27 gl) 120 p_Near := tot1 (fun _ => 10) fun v ic => by
  refine W_body (c := _) Tryz.func120 rfl (by simp [Tryz.f120]) ?_
  by_cases h : nearV v = true
  · have hh := nearV_iff.1 h
    unfold small at hh
    have e1 : ¬ v.X < -1000000 := by omega
    have e2 : ¬ 1000000 < v.X := by omega
    have e3 : ¬ v.Y < -1000000 := by omega
    have e4 : ¬ 1000000 < v.Y := by omega
    have e5 : ¬ v.Z < -1000000 := by omega
    have e6 : ¬ 1000000 < v.Z := by omega
    simp (config := {decide := true, implicitDefEqProofs := false}) [Tryz.f120]
    rw [W_loop_iter rfl]
    simp (config := {decide := true, implicitDefEqProofs := false}) [W_iter_succ, p_coordinate, co, e1, e2, e3, e4, e5, e6, h]
  · have hf : nearV v = false := by simpa using h
    simp (config := {decide := true, implicitDefEqProofs := false}) [Tryz.f120]
    rw [W_loop_iter rfl]
    simp (config := {decide := true, implicitDefEqProofs := false}) [W_iter_succ, p_coordinate, co, hf]
    intros
    apply Classical.byContradiction
    intro hc
    apply h
    rw [nearV_iff]
    unfold small
    omega
def p_RCompose : List D → Option D := p2 fun (a b : Int) => if okTurn a = true ∧ okTurn b = true then some (I (composeR a b)) else none
theorem does_RCompose : Does Tryz.prog (C27 gl) 143 p_RCompose := con2 (fun _ _ => 100) fun a b hc ic => by
  obtain ⟨h1, h2⟩ := hc
  refine W_body (c := _) Tryz.func143 rfl (by simp [Tryz.f143]) ?_
  simp [Tryz.f143]
  refine W_loop rfl (fun (i : Nat) e h => e 5 = .d (I i) ∧ e 0 = .d (I a) ∧ e 1 = .d (I b) ∧ i ≤ 24 ∧ ∀ j : Nat, j < i → sameR j a b = false) (fun i => 24 - i) 0 (by omega) (by simp) ?_
  rintro i e h ⟨g1, g2, g3, g4, g5⟩
  by_cases hlt : i < 24
  · have hw : IntKind.i64.wrap ((i : Int) + 1) = ((i + 1 : Nat) : Int) := by rw [wrap_i64] <;> omega
    have hlt' : (i : Int) < 24 := by omega
    cases hs : sameR i a b with
    | true =>
      have hf : composeR a b = i := findR_some hlt hs g5
      simp [g1, g2, g3, hlt', p_same, okTurn_nat hlt, hw, h1, h2, hs, hf]
    | false =>
      simp [g1, g2, g3, hlt', p_same, okTurn_nat hlt, hw, h1, h2, hs]
      refine ⟨i + 1, by omega, rfl, by omega, fun j hj => ?_⟩
      by_cases e : j = i
      · subst e; exact hs
      · exact g5 j (by omega)
  · obtain rfl : i = 24 := by omega
    have hf : composeR a b = 0 := findR_none g5
    simp [g1, hf]
noncomputable def prims_C28 (gl : Gb) (f : FuncId) : Option (List D → Option D) := match f with
  | 120 => some p_Near
  | 143 => some p_RCompose
  | _ => none
noncomputable def C28 (gl : Gb) : Cfg := (C27 gl).more (prims_C28 gl)
@[simp] theorem mutS_C28 (gl : Gb) (f s) : (C28 gl).mutS f s = mutTab f s := rfl
@[simp] theorem pureF_C28 (gl : Gb) (f) : (C28 gl).pureF f = true := rfl
@[simp] theorem glob_C28 (gl : Gb) : (C28 gl).glob = gl := rfl
@[simp] theorem C28_p92 (gl : Gb) : (C28 gl).primF 92 = some p_is := rfl
@[simp] theorem C28_p149 (gl : Gb) : (C28 gl).primF 149 = some p_array := rfl
@[simp] theorem C28_p196 (gl : Gb) : (C28 gl).primF 196 = some p_vec := rfl
@[simp] theorem C28_p98 (gl : Gb) : (C28 gl).primF 98 = some p_add := rfl
@[simp] theorem C28_p148 (gl : Gb) : (C28 gl).primF 148 = some p_neg := rfl
@[simp] theorem C28_p145 (gl : Gb) : (C28 gl).primF 145 = some p_lengths := rfl
@[simp] theorem C28_p140 (gl : Gb) : (C28 gl).primF 140 = some p_inside := rfl
@[simp] theorem C28_p99 (gl : Gb) : (C28 gl).primF 99 = some p_overlap := rfl
@[simp] theorem C28_p150 (gl : Gb) : (C28 gl).primF 150 = some p_apply := rfl
@[simp] theorem C28_p96 (gl : Gb) : (C28 gl).primF 96 = some p_near := rfl
@[simp] theorem C28_p194 (gl : Gb) : (C28 gl).primF 194 = some p_compose1 := rfl
@[simp] theorem C28_p97 (gl : Gb) : (C28 gl).primF 97 = some p_image := rfl
@[simp] theorem C28_p193 (gl : Gb) : (C28 gl).primF 193 = some p_find := rfl
@[simp] theorem C28_p147 (gl : Gb) : (C28 gl).primF 147 = some p_compose := rfl
@[simp] theorem C28_p93 (gl : Gb) : (C28 gl).primF 93 = some p_invert := rfl
@[simp] theorem C28_p190 (gl : Gb) : (C28 gl).primF 190 = some p_result := rfl
@[simp] theorem C28_p95 (gl : Gb) : (C28 gl).primF 95 = some p_turned := rfl
@[simp] theorem C28_p94 (gl : Gb) : (C28 gl).primF 94 = some p_sized := rfl
@[simp] theorem C28_p38 (gl : Gb) : (C28 gl).primF 38 = some p_Invert := rfl
@[simp] theorem C28_p39 (gl : Gb) : (C28 gl).primF 39 = some p_Size := rfl
@[simp] theorem C28_p41 (gl : Gb) : (C28 gl).primF 41 = some p_Box := rfl
@[simp] theorem C28_p142 (gl : Gb) : (C28 gl).primF 142 = some p_Join := rfl
@[simp] theorem C28_p187 (gl : Gb) : (C28 gl).primF 187 = some p_Place := rfl
@[simp] theorem C28_p125 (gl : Gb) : (C28 gl).primF 125 = some p_sizeOf := rfl
@[simp] theorem C28_p139 (gl : Gb) : (C28 gl).primF 139 = some p_right := rfl
@[simp] theorem C28_p182 (gl : Gb) : (C28 gl).primF 182 = some p_Split := rfl
@[simp] theorem C28_p114 (gl : Gb) : (C28 gl).primF 114 = some p_Itoa := rfl
@[simp] theorem C28_p131 (gl : Gb) : (C28 gl).primF 131 = some p_Atoi := rfl
@[simp] theorem C28_p316 (gl : Gb) : (C28 gl).primF 316 = some p_classes := rfl
@[simp] theorem C28_p252 (gl : Gb) : (C28 gl).primF 252 = some p_inner := rfl
@[simp] theorem C28_p251 (gl : Gb) : (C28 gl).primF 251 = some p_Name1 := rfl
@[simp] theorem C28_p250 (gl : Gb) : (C28 gl).primF 250 = some p_run := rfl
@[simp] theorem C28_p183 (gl : Gb) : (C28 gl).primF 183 = some p_Name := rfl
@[simp] theorem C28_p128 (gl : Gb) : (C28 gl).primF 128 = some p_isId := rfl
@[simp] theorem C28_p137 (gl : Gb) : (C28 gl).primF 137 = some p_build1 := rfl
@[simp] theorem C28_p138 (gl : Gb) : (C28 gl).primF 138 = some p_build2 := rfl
@[simp] theorem C28_p184 (gl : Gb) : (C28 gl).primF 184 = some p_IndexFunc := rfl
@[simp] theorem C28_p129 (gl : Gb) : (C28 gl).primF 129 = some p_ContainsFunc := rfl
@[simp] theorem C28_p80 (gl : Gb) : (C28 gl).primF 80 = some p_build := rfl
@[simp] theorem C28_p84 (gl : Gb) : (C28 gl).primF 84 = some p_open := rfl
@[simp] theorem C28_p19 (gl : Gb) : (C28 gl).primF 19 = some p_Check := rfl
@[simp] theorem C28_p85 (gl : Gb) : (C28 gl).primF 85 = some p_pose := rfl
@[simp] theorem C28_p86 (gl : Gb) : (C28 gl).primF 86 = some p_place := rfl
@[simp] theorem C28_p22 (gl : Gb) : (C28 gl).primF 22 = some p_Find := rfl
@[simp] theorem C28_p23 (gl : Gb) : (C28 gl).primF 23 = some p_PoseL := rfl
@[simp] theorem C28_p24 (gl : Gb) : (C28 gl).primF 24 = some p_PlaceL := rfl
@[simp] theorem C28_p16 (gl : Gb) : (C28 gl).primF 16 = some p_awake := rfl
@[simp] theorem C28_p15 (gl : Gb) : (C28 gl).primF 15 = some p_Few := rfl
@[simp] theorem C28_p37 (gl : Gb) : (C28 gl).primF 37 = some p_Volume := rfl
@[simp] theorem C28_p40 (gl : Gb) : (C28 gl).primF 40 = some p_Minus := rfl
@[simp] theorem C28_p179 (gl : Gb) : (C28 gl).primF 179 = some p_apply := rfl
@[simp] theorem C28_p176 (gl : Gb) : (C28 gl).primF 176 = some p_coordinate := rfl
@[simp] theorem C28_p133 (gl : Gb) : (C28 gl).primF 133 = some p_Is := rfl
@[simp] theorem C28_p192 (gl : Gb) : (C28 gl).primF 192 = some p_Plus := rfl
@[simp] theorem C28_p191 (gl : Gb) : (C28 gl).primF 191 = some p_same := rfl
@[simp] theorem C28_p120 (gl : Gb) : (C28 gl).primF 120 = some p_Near := rfl
@[simp] theorem C28_p143 (gl : Gb) : (C28 gl).primF 143 = some p_RCompose := rfl
theorem C28_ok {gl : Gb} (h : (C27 gl).Ok Tryz.prog) : (C28 gl).Ok Tryz.prog := h.more (by
  intro f gf hf
  unfold prims_C28 at hf
  split at hf
  · simp only [Option.some.injEq] at hf; subst hf; exact does_Near
  · simp only [Option.some.injEq] at hf; subst hf; exact does_RCompose
  · cases hf)
def p_RInvert : List D → Option D := p1 fun (a : Int) => if okTurn a = true then some (I (invertR a)) else none
theorem does_RInvert : Does Tryz.prog (C28 gl) 136 p_RInvert := con1 (fun _ => 100) fun a hc ic => by
  refine W_body (c := _) Tryz.func136 rfl (by simp [Tryz.f136]) ?_
  simp [Tryz.f136]
  refine W_loop rfl (fun (i : Nat) e h => e 3 = .d (I i) ∧ e 0 = .d (I a) ∧ i ≤ 24 ∧ ∀ j : Nat, j < i → composeR j a ≠ 0) (fun i => 24 - i) 0 (by omega) (by simp) ?_
  rintro i e h ⟨g1, g2, g4, g5⟩
  by_cases hlt : i < 24
  · have hw : IntKind.i64.wrap ((i : Int) + 1) = ((i + 1 : Nat) : Int) := by rw [wrap_i64] <;> omega
    have hlt' : (i : Int) < 24 := by omega
    by_cases hs : composeR i a = 0
    · have hf : invertR a = i := findR_some hlt (by simp [hs]) (fun j hj => by simp [g5 j hj])
      simp [g1, g2, hlt', p_RCompose, okTurn_nat hlt, hw, hc, hs, hf]
    · simp [g1, g2, hlt', p_RCompose, okTurn_nat hlt, hw, hc, hs]
      refine ⟨i + 1, by omega, rfl, by omega, fun j hj => ?_⟩
      by_cases e : j = i
      · subst e; exact hs
      · exact g5 j (by omega)
  · obtain rfl : i = 24 := by omega
    have hf : invertR a = 0 := findR_none (fun j hj => by simp [g5 j hj])
    simp [g1, hf]
def p_Point : List D → Option D := p2 fun (p : Pose) (v : Vec) => if okTurn p.Turn = true then some (enc (pointR p v)) else none
theorem does_Point : Does Tryz.prog (C28 gl) 144 p_Point := con2 (fun _ _ => 10) fun p v hc ic => by
  refine W_body (c := _) Tryz.func144 rfl (by simp [Tryz.f144]) ?_
  simp (config := {decide := true, implicitDefEqProofs := false}) [Tryz.f144, p_apply, p_Plus, pointR, hc]
def p_Valid : List D → Option D := p1 fun (b : Box) => some (.bool (validR b))
theorem does_Valid : Does Tryz.prog (C28 gl) 66 p_Valid := tot1 (fun _ => 10) fun b ic => by
  refine W_body (c := _) Tryz.func66 rfl (by simp [Tryz.f66]) ?_
  by_cases h1 : nearV b.Min = true <;> by_cases h2 : nearV b.Max = true
  all_goals
    simp (config := {decide := true, implicitDefEqProofs := false}) [Tryz.f66, p_Near, validR, h1, h2]
  all_goals grind
noncomputable def prims_C29 (gl : Gb) (f : FuncId) : Option (List D → Option D) := match f with
  | 136 => some p_RInvert
  | 144 => some p_Point
  | 66 => some p_Valid
  | _ => none
noncomputable def C29 (gl : Gb) : Cfg := (C28 gl).more (prims_C29 gl)
@[simp] theorem mutS_C29 (gl : Gb) (f s) : (C29 gl).mutS f s = mutTab f s := rfl
@[simp] theorem pureF_C29 (gl : Gb) (f) : (C29 gl).pureF f = true := rfl
@[simp] theorem glob_C29 (gl : Gb) : (C29 gl).glob = gl := rfl
@[simp] theorem C29_p92 (gl : Gb) : (C29 gl).primF 92 = some p_is := rfl
@[simp] theorem C29_p149 (gl : Gb) : (C29 gl).primF 149 = some p_array := rfl
@[simp] theorem C29_p196 (gl : Gb) : (C29 gl).primF 196 = some p_vec := rfl
@[simp] theorem C29_p98 (gl : Gb) : (C29 gl).primF 98 = some p_add := rfl
@[simp] theorem C29_p148 (gl : Gb) : (C29 gl).primF 148 = some p_neg := rfl
@[simp] theorem C29_p145 (gl : Gb) : (C29 gl).primF 145 = some p_lengths := rfl
@[simp] theorem C29_p140 (gl : Gb) : (C29 gl).primF 140 = some p_inside := rfl
@[simp] theorem C29_p99 (gl : Gb) : (C29 gl).primF 99 = some p_overlap := rfl
@[simp] theorem C29_p150 (gl : Gb) : (C29 gl).primF 150 = some p_apply := rfl
@[simp] theorem C29_p96 (gl : Gb) : (C29 gl).primF 96 = some p_near := rfl
@[simp] theorem C29_p194 (gl : Gb) : (C29 gl).primF 194 = some p_compose1 := rfl
@[simp] theorem C29_p97 (gl : Gb) : (C29 gl).primF 97 = some p_image := rfl
@[simp] theorem C29_p193 (gl : Gb) : (C29 gl).primF 193 = some p_find := rfl
@[simp] theorem C29_p147 (gl : Gb) : (C29 gl).primF 147 = some p_compose := rfl
@[simp] theorem C29_p93 (gl : Gb) : (C29 gl).primF 93 = some p_invert := rfl
@[simp] theorem C29_p190 (gl : Gb) : (C29 gl).primF 190 = some p_result := rfl
@[simp] theorem C29_p95 (gl : Gb) : (C29 gl).primF 95 = some p_turned := rfl
@[simp] theorem C29_p94 (gl : Gb) : (C29 gl).primF 94 = some p_sized := rfl
@[simp] theorem C29_p38 (gl : Gb) : (C29 gl).primF 38 = some p_Invert := rfl
@[simp] theorem C29_p39 (gl : Gb) : (C29 gl).primF 39 = some p_Size := rfl
@[simp] theorem C29_p41 (gl : Gb) : (C29 gl).primF 41 = some p_Box := rfl
@[simp] theorem C29_p142 (gl : Gb) : (C29 gl).primF 142 = some p_Join := rfl
@[simp] theorem C29_p187 (gl : Gb) : (C29 gl).primF 187 = some p_Place := rfl
@[simp] theorem C29_p125 (gl : Gb) : (C29 gl).primF 125 = some p_sizeOf := rfl
@[simp] theorem C29_p139 (gl : Gb) : (C29 gl).primF 139 = some p_right := rfl
@[simp] theorem C29_p182 (gl : Gb) : (C29 gl).primF 182 = some p_Split := rfl
@[simp] theorem C29_p114 (gl : Gb) : (C29 gl).primF 114 = some p_Itoa := rfl
@[simp] theorem C29_p131 (gl : Gb) : (C29 gl).primF 131 = some p_Atoi := rfl
@[simp] theorem C29_p316 (gl : Gb) : (C29 gl).primF 316 = some p_classes := rfl
@[simp] theorem C29_p252 (gl : Gb) : (C29 gl).primF 252 = some p_inner := rfl
@[simp] theorem C29_p251 (gl : Gb) : (C29 gl).primF 251 = some p_Name1 := rfl
@[simp] theorem C29_p250 (gl : Gb) : (C29 gl).primF 250 = some p_run := rfl
@[simp] theorem C29_p183 (gl : Gb) : (C29 gl).primF 183 = some p_Name := rfl
@[simp] theorem C29_p128 (gl : Gb) : (C29 gl).primF 128 = some p_isId := rfl
@[simp] theorem C29_p137 (gl : Gb) : (C29 gl).primF 137 = some p_build1 := rfl
@[simp] theorem C29_p138 (gl : Gb) : (C29 gl).primF 138 = some p_build2 := rfl
@[simp] theorem C29_p184 (gl : Gb) : (C29 gl).primF 184 = some p_IndexFunc := rfl
@[simp] theorem C29_p129 (gl : Gb) : (C29 gl).primF 129 = some p_ContainsFunc := rfl
@[simp] theorem C29_p80 (gl : Gb) : (C29 gl).primF 80 = some p_build := rfl
@[simp] theorem C29_p84 (gl : Gb) : (C29 gl).primF 84 = some p_open := rfl
@[simp] theorem C29_p19 (gl : Gb) : (C29 gl).primF 19 = some p_Check := rfl
@[simp] theorem C29_p85 (gl : Gb) : (C29 gl).primF 85 = some p_pose := rfl
@[simp] theorem C29_p86 (gl : Gb) : (C29 gl).primF 86 = some p_place := rfl
@[simp] theorem C29_p22 (gl : Gb) : (C29 gl).primF 22 = some p_Find := rfl
@[simp] theorem C29_p23 (gl : Gb) : (C29 gl).primF 23 = some p_PoseL := rfl
@[simp] theorem C29_p24 (gl : Gb) : (C29 gl).primF 24 = some p_PlaceL := rfl
@[simp] theorem C29_p16 (gl : Gb) : (C29 gl).primF 16 = some p_awake := rfl
@[simp] theorem C29_p15 (gl : Gb) : (C29 gl).primF 15 = some p_Few := rfl
@[simp] theorem C29_p37 (gl : Gb) : (C29 gl).primF 37 = some p_Volume := rfl
@[simp] theorem C29_p40 (gl : Gb) : (C29 gl).primF 40 = some p_Minus := rfl
@[simp] theorem C29_p179 (gl : Gb) : (C29 gl).primF 179 = some p_apply := rfl
@[simp] theorem C29_p176 (gl : Gb) : (C29 gl).primF 176 = some p_coordinate := rfl
@[simp] theorem C29_p133 (gl : Gb) : (C29 gl).primF 133 = some p_Is := rfl
@[simp] theorem C29_p192 (gl : Gb) : (C29 gl).primF 192 = some p_Plus := rfl
@[simp] theorem C29_p191 (gl : Gb) : (C29 gl).primF 191 = some p_same := rfl
@[simp] theorem C29_p120 (gl : Gb) : (C29 gl).primF 120 = some p_Near := rfl
@[simp] theorem C29_p143 (gl : Gb) : (C29 gl).primF 143 = some p_RCompose := rfl
@[simp] theorem C29_p136 (gl : Gb) : (C29 gl).primF 136 = some p_RInvert := rfl
@[simp] theorem C29_p144 (gl : Gb) : (C29 gl).primF 144 = some p_Point := rfl
@[simp] theorem C29_p66 (gl : Gb) : (C29 gl).primF 66 = some p_Valid := rfl
theorem C29_ok {gl : Gb} (h : (C28 gl).Ok Tryz.prog) : (C29 gl).Ok Tryz.prog := h.more (by
  intro f gf hf
  unfold prims_C29 at hf
  split at hf
  · simp only [Option.some.injEq] at hf; subst hf; exact does_RInvert
  · simp only [Option.some.injEq] at hf; subst hf; exact does_Point
  · simp only [Option.some.injEq] at hf; subst hf; exact does_Valid
  · cases hf)
def p_RBox : List D → Option D := p2 fun (p : Pose) (b : Box) => if okTurn p.Turn = true then some (enc (boxR p b)) else none
theorem does_RBox : Does Tryz.prog (C29 gl) 88 p_RBox := con2 (fun _ _ => 10) fun p b hc ic => by
  refine W_body (c := _) Tryz.func88 rfl (by simp [Tryz.f88]) ?_
  simp (config := {decide := true, implicitDefEqProofs := false}) [Tryz.f88, p_Point, boxR, hc, buildV]
def p_RJoin : List D → Option D := p2 fun (a b : Pose) => if okTurn a.Turn = true ∧ okTurn b.Turn = true then some (enc (joinR a b)) else none
theorem does_RJoin : Does Tryz.prog (C29 gl) 87 p_RJoin := con2 (fun _ _ => 10) fun a b hc ic => by
  refine W_body (c := _) Tryz.func87 rfl (by simp [Tryz.f87]) ?_
  simp (config := {decide := true, implicitDefEqProofs := false}) [Tryz.f87, p_Point, p_RCompose, joinR, hc, buildV]
noncomputable def prims_C30 (gl : Gb) (f : FuncId) : Option (List D → Option D) := match f with
  | 88 => some p_RBox
  | 87 => some p_RJoin
  | _ => none
noncomputable def C30 (gl : Gb) : Cfg := (C29 gl).more (prims_C30 gl)
@[simp] theorem mutS_C30 (gl : Gb) (f s) : (C30 gl).mutS f s = mutTab f s := rfl
@[simp] theorem pureF_C30 (gl : Gb) (f) : (C30 gl).pureF f = true := rfl
@[simp] theorem glob_C30 (gl : Gb) : (C30 gl).glob = gl := rfl
@[simp] theorem C30_p92 (gl : Gb) : (C30 gl).primF 92 = some p_is := rfl
@[simp] theorem C30_p149 (gl : Gb) : (C30 gl).primF 149 = some p_array := rfl
@[simp] theorem C30_p196 (gl : Gb) : (C30 gl).primF 196 = some p_vec := rfl
@[simp] theorem C30_p98 (gl : Gb) : (C30 gl).primF 98 = some p_add := rfl
@[simp] theorem C30_p148 (gl : Gb) : (C30 gl).primF 148 = some p_neg := rfl
@[simp] theorem C30_p145 (gl : Gb) : (C30 gl).primF 145 = some p_lengths := rfl
@[simp] theorem C30_p140 (gl : Gb) : (C30 gl).primF 140 = some p_inside := rfl
@[simp] theorem C30_p99 (gl : Gb) : (C30 gl).primF 99 = some p_overlap := rfl
@[simp] theorem C30_p150 (gl : Gb) : (C30 gl).primF 150 = some p_apply := rfl
@[simp] theorem C30_p96 (gl : Gb) : (C30 gl).primF 96 = some p_near := rfl
@[simp] theorem C30_p194 (gl : Gb) : (C30 gl).primF 194 = some p_compose1 := rfl
@[simp] theorem C30_p97 (gl : Gb) : (C30 gl).primF 97 = some p_image := rfl
@[simp] theorem C30_p193 (gl : Gb) : (C30 gl).primF 193 = some p_find := rfl
@[simp] theorem C30_p147 (gl : Gb) : (C30 gl).primF 147 = some p_compose := rfl
@[simp] theorem C30_p93 (gl : Gb) : (C30 gl).primF 93 = some p_invert := rfl
@[simp] theorem C30_p190 (gl : Gb) : (C30 gl).primF 190 = some p_result := rfl
@[simp] theorem C30_p95 (gl : Gb) : (C30 gl).primF 95 = some p_turned := rfl
@[simp] theorem C30_p94 (gl : Gb) : (C30 gl).primF 94 = some p_sized := rfl
@[simp] theorem C30_p38 (gl : Gb) : (C30 gl).primF 38 = some p_Invert := rfl
@[simp] theorem C30_p39 (gl : Gb) : (C30 gl).primF 39 = some p_Size := rfl
@[simp] theorem C30_p41 (gl : Gb) : (C30 gl).primF 41 = some p_Box := rfl
@[simp] theorem C30_p142 (gl : Gb) : (C30 gl).primF 142 = some p_Join := rfl
@[simp] theorem C30_p187 (gl : Gb) : (C30 gl).primF 187 = some p_Place := rfl
@[simp] theorem C30_p125 (gl : Gb) : (C30 gl).primF 125 = some p_sizeOf := rfl
@[simp] theorem C30_p139 (gl : Gb) : (C30 gl).primF 139 = some p_right := rfl
@[simp] theorem C30_p182 (gl : Gb) : (C30 gl).primF 182 = some p_Split := rfl
@[simp] theorem C30_p114 (gl : Gb) : (C30 gl).primF 114 = some p_Itoa := rfl
@[simp] theorem C30_p131 (gl : Gb) : (C30 gl).primF 131 = some p_Atoi := rfl
@[simp] theorem C30_p316 (gl : Gb) : (C30 gl).primF 316 = some p_classes := rfl
@[simp] theorem C30_p252 (gl : Gb) : (C30 gl).primF 252 = some p_inner := rfl
@[simp] theorem C30_p251 (gl : Gb) : (C30 gl).primF 251 = some p_Name1 := rfl
@[simp] theorem C30_p250 (gl : Gb) : (C30 gl).primF 250 = some p_run := rfl
@[simp] theorem C30_p183 (gl : Gb) : (C30 gl).primF 183 = some p_Name := rfl
@[simp] theorem C30_p128 (gl : Gb) : (C30 gl).primF 128 = some p_isId := rfl
@[simp] theorem C30_p137 (gl : Gb) : (C30 gl).primF 137 = some p_build1 := rfl
@[simp] theorem C30_p138 (gl : Gb) : (C30 gl).primF 138 = some p_build2 := rfl
@[simp] theorem C30_p184 (gl : Gb) : (C30 gl).primF 184 = some p_IndexFunc := rfl
@[simp] theorem C30_p129 (gl : Gb) : (C30 gl).primF 129 = some p_ContainsFunc := rfl
@[simp] theorem C30_p80 (gl : Gb) : (C30 gl).primF 80 = some p_build := rfl
@[simp] theorem C30_p84 (gl : Gb) : (C30 gl).primF 84 = some p_open := rfl
@[simp] theorem C30_p19 (gl : Gb) : (C30 gl).primF 19 = some p_Check := rfl
@[simp] theorem C30_p85 (gl : Gb) : (C30 gl).primF 85 = some p_pose := rfl
@[simp] theorem C30_p86 (gl : Gb) : (C30 gl).primF 86 = some p_place := rfl
@[simp] theorem C30_p22 (gl : Gb) : (C30 gl).primF 22 = some p_Find := rfl
@[simp] theorem C30_p23 (gl : Gb) : (C30 gl).primF 23 = some p_PoseL := rfl
@[simp] theorem C30_p24 (gl : Gb) : (C30 gl).primF 24 = some p_PlaceL := rfl
@[simp] theorem C30_p16 (gl : Gb) : (C30 gl).primF 16 = some p_awake := rfl
@[simp] theorem C30_p15 (gl : Gb) : (C30 gl).primF 15 = some p_Few := rfl
@[simp] theorem C30_p37 (gl : Gb) : (C30 gl).primF 37 = some p_Volume := rfl
@[simp] theorem C30_p40 (gl : Gb) : (C30 gl).primF 40 = some p_Minus := rfl
@[simp] theorem C30_p179 (gl : Gb) : (C30 gl).primF 179 = some p_apply := rfl
@[simp] theorem C30_p176 (gl : Gb) : (C30 gl).primF 176 = some p_coordinate := rfl
@[simp] theorem C30_p133 (gl : Gb) : (C30 gl).primF 133 = some p_Is := rfl
@[simp] theorem C30_p192 (gl : Gb) : (C30 gl).primF 192 = some p_Plus := rfl
@[simp] theorem C30_p191 (gl : Gb) : (C30 gl).primF 191 = some p_same := rfl
@[simp] theorem C30_p120 (gl : Gb) : (C30 gl).primF 120 = some p_Near := rfl
@[simp] theorem C30_p143 (gl : Gb) : (C30 gl).primF 143 = some p_RCompose := rfl
@[simp] theorem C30_p136 (gl : Gb) : (C30 gl).primF 136 = some p_RInvert := rfl
@[simp] theorem C30_p144 (gl : Gb) : (C30 gl).primF 144 = some p_Point := rfl
@[simp] theorem C30_p66 (gl : Gb) : (C30 gl).primF 66 = some p_Valid := rfl
@[simp] theorem C30_p88 (gl : Gb) : (C30 gl).primF 88 = some p_RBox := rfl
@[simp] theorem C30_p87 (gl : Gb) : (C30 gl).primF 87 = some p_RJoin := rfl
theorem C30_ok {gl : Gb} (h : (C29 gl).Ok Tryz.prog) : (C30 gl).Ok Tryz.prog := h.more (by
  intro f gf hf
  unfold prims_C30 at hf
  split at hf
  · simp only [Option.some.injEq] at hf; subst hf; exact does_RBox
  · simp only [Option.some.injEq] at hf; subst hf; exact does_RJoin
  · cases hf)
def p_RSize : List D → Option D := p2 fun (t : Int) (s : Vec) => if okTurn t = true then some (enc (sizeR t s)) else none
theorem does_RSize : Does Tryz.prog (C30 gl) 135 p_RSize := con2 (fun _ _ => 10) fun t s hc ic => by
  refine W_body (c := _) Tryz.func135 rfl (by simp [Tryz.f135]) ?_
  simp (config := {decide := true, implicitDefEqProofs := false}) [Tryz.f135, p_RBox, p_Minus, sizeR, zeroV, hc, buildV]
def p_RPlace : List D → Option D := p3 fun (t : Int) (s a : Vec) => if okTurn t = true then some (enc (placeR t s a)) else none
theorem does_RPlace : Does Tryz.prog (C30 gl) 134 p_RPlace := con3 (fun _ _ _ => 10) fun t s a hc ic => by
  refine W_body (c := _) Tryz.func134 rfl (by simp [Tryz.f134]) ?_
  simp (config := {decide := true, implicitDefEqProofs := false}) [Tryz.f134, p_RBox, p_Minus, placeR, zeroV, hc, buildV]
def p_sizeB : List D → Option D := p1 fun (b : Box) => some (enc (sub b.Max b.Min))
theorem does_sizeB : Does Tryz.prog (C30 gl) 132 p_sizeB := tot1 (fun _ => 10) fun b ic => by
  refine W_body (c := _) Tryz.func132 rfl (by simp [Tryz.f132]) ?_
  simp (config := {decide := true, implicitDefEqProofs := false}) [Tryz.f132, p_Minus]
noncomputable def prims_C31 (gl : Gb) (f : FuncId) : Option (List D → Option D) := match f with
  | 135 => some p_RSize
  | 134 => some p_RPlace
  | 132 => some p_sizeB
  | _ => none
noncomputable def C31 (gl : Gb) : Cfg := (C30 gl).more (prims_C31 gl)
@[simp] theorem mutS_C31 (gl : Gb) (f s) : (C31 gl).mutS f s = mutTab f s := rfl
@[simp] theorem pureF_C31 (gl : Gb) (f) : (C31 gl).pureF f = true := rfl
@[simp] theorem glob_C31 (gl : Gb) : (C31 gl).glob = gl := rfl
@[simp] theorem C31_p92 (gl : Gb) : (C31 gl).primF 92 = some p_is := rfl
@[simp] theorem C31_p149 (gl : Gb) : (C31 gl).primF 149 = some p_array := rfl
@[simp] theorem C31_p196 (gl : Gb) : (C31 gl).primF 196 = some p_vec := rfl
@[simp] theorem C31_p98 (gl : Gb) : (C31 gl).primF 98 = some p_add := rfl
@[simp] theorem C31_p148 (gl : Gb) : (C31 gl).primF 148 = some p_neg := rfl
@[simp] theorem C31_p145 (gl : Gb) : (C31 gl).primF 145 = some p_lengths := rfl
@[simp] theorem C31_p140 (gl : Gb) : (C31 gl).primF 140 = some p_inside := rfl
@[simp] theorem C31_p99 (gl : Gb) : (C31 gl).primF 99 = some p_overlap := rfl
@[simp] theorem C31_p150 (gl : Gb) : (C31 gl).primF 150 = some p_apply := rfl
@[simp] theorem C31_p96 (gl : Gb) : (C31 gl).primF 96 = some p_near := rfl
@[simp] theorem C31_p194 (gl : Gb) : (C31 gl).primF 194 = some p_compose1 := rfl
@[simp] theorem C31_p97 (gl : Gb) : (C31 gl).primF 97 = some p_image := rfl
@[simp] theorem C31_p193 (gl : Gb) : (C31 gl).primF 193 = some p_find := rfl
@[simp] theorem C31_p147 (gl : Gb) : (C31 gl).primF 147 = some p_compose := rfl
@[simp] theorem C31_p93 (gl : Gb) : (C31 gl).primF 93 = some p_invert := rfl
@[simp] theorem C31_p190 (gl : Gb) : (C31 gl).primF 190 = some p_result := rfl
@[simp] theorem C31_p95 (gl : Gb) : (C31 gl).primF 95 = some p_turned := rfl
@[simp] theorem C31_p94 (gl : Gb) : (C31 gl).primF 94 = some p_sized := rfl
@[simp] theorem C31_p38 (gl : Gb) : (C31 gl).primF 38 = some p_Invert := rfl
@[simp] theorem C31_p39 (gl : Gb) : (C31 gl).primF 39 = some p_Size := rfl
@[simp] theorem C31_p41 (gl : Gb) : (C31 gl).primF 41 = some p_Box := rfl
@[simp] theorem C31_p142 (gl : Gb) : (C31 gl).primF 142 = some p_Join := rfl
@[simp] theorem C31_p187 (gl : Gb) : (C31 gl).primF 187 = some p_Place := rfl
@[simp] theorem C31_p125 (gl : Gb) : (C31 gl).primF 125 = some p_sizeOf := rfl
@[simp] theorem C31_p139 (gl : Gb) : (C31 gl).primF 139 = some p_right := rfl
@[simp] theorem C31_p182 (gl : Gb) : (C31 gl).primF 182 = some p_Split := rfl
@[simp] theorem C31_p114 (gl : Gb) : (C31 gl).primF 114 = some p_Itoa := rfl
@[simp] theorem C31_p131 (gl : Gb) : (C31 gl).primF 131 = some p_Atoi := rfl
@[simp] theorem C31_p316 (gl : Gb) : (C31 gl).primF 316 = some p_classes := rfl
@[simp] theorem C31_p252 (gl : Gb) : (C31 gl).primF 252 = some p_inner := rfl
@[simp] theorem C31_p251 (gl : Gb) : (C31 gl).primF 251 = some p_Name1 := rfl
@[simp] theorem C31_p250 (gl : Gb) : (C31 gl).primF 250 = some p_run := rfl
@[simp] theorem C31_p183 (gl : Gb) : (C31 gl).primF 183 = some p_Name := rfl
@[simp] theorem C31_p128 (gl : Gb) : (C31 gl).primF 128 = some p_isId := rfl
@[simp] theorem C31_p137 (gl : Gb) : (C31 gl).primF 137 = some p_build1 := rfl
@[simp] theorem C31_p138 (gl : Gb) : (C31 gl).primF 138 = some p_build2 := rfl
@[simp] theorem C31_p184 (gl : Gb) : (C31 gl).primF 184 = some p_IndexFunc := rfl
@[simp] theorem C31_p129 (gl : Gb) : (C31 gl).primF 129 = some p_ContainsFunc := rfl
@[simp] theorem C31_p80 (gl : Gb) : (C31 gl).primF 80 = some p_build := rfl
@[simp] theorem C31_p84 (gl : Gb) : (C31 gl).primF 84 = some p_open := rfl
@[simp] theorem C31_p19 (gl : Gb) : (C31 gl).primF 19 = some p_Check := rfl
@[simp] theorem C31_p85 (gl : Gb) : (C31 gl).primF 85 = some p_pose := rfl
@[simp] theorem C31_p86 (gl : Gb) : (C31 gl).primF 86 = some p_place := rfl
@[simp] theorem C31_p22 (gl : Gb) : (C31 gl).primF 22 = some p_Find := rfl
@[simp] theorem C31_p23 (gl : Gb) : (C31 gl).primF 23 = some p_PoseL := rfl
@[simp] theorem C31_p24 (gl : Gb) : (C31 gl).primF 24 = some p_PlaceL := rfl
@[simp] theorem C31_p16 (gl : Gb) : (C31 gl).primF 16 = some p_awake := rfl
@[simp] theorem C31_p15 (gl : Gb) : (C31 gl).primF 15 = some p_Few := rfl
@[simp] theorem C31_p37 (gl : Gb) : (C31 gl).primF 37 = some p_Volume := rfl
@[simp] theorem C31_p40 (gl : Gb) : (C31 gl).primF 40 = some p_Minus := rfl
@[simp] theorem C31_p179 (gl : Gb) : (C31 gl).primF 179 = some p_apply := rfl
@[simp] theorem C31_p176 (gl : Gb) : (C31 gl).primF 176 = some p_coordinate := rfl
@[simp] theorem C31_p133 (gl : Gb) : (C31 gl).primF 133 = some p_Is := rfl
@[simp] theorem C31_p192 (gl : Gb) : (C31 gl).primF 192 = some p_Plus := rfl
@[simp] theorem C31_p191 (gl : Gb) : (C31 gl).primF 191 = some p_same := rfl
@[simp] theorem C31_p120 (gl : Gb) : (C31 gl).primF 120 = some p_Near := rfl
@[simp] theorem C31_p143 (gl : Gb) : (C31 gl).primF 143 = some p_RCompose := rfl
@[simp] theorem C31_p136 (gl : Gb) : (C31 gl).primF 136 = some p_RInvert := rfl
@[simp] theorem C31_p144 (gl : Gb) : (C31 gl).primF 144 = some p_Point := rfl
@[simp] theorem C31_p66 (gl : Gb) : (C31 gl).primF 66 = some p_Valid := rfl
@[simp] theorem C31_p88 (gl : Gb) : (C31 gl).primF 88 = some p_RBox := rfl
@[simp] theorem C31_p87 (gl : Gb) : (C31 gl).primF 87 = some p_RJoin := rfl
@[simp] theorem C31_p135 (gl : Gb) : (C31 gl).primF 135 = some p_RSize := rfl
@[simp] theorem C31_p134 (gl : Gb) : (C31 gl).primF 134 = some p_RPlace := rfl
@[simp] theorem C31_p132 (gl : Gb) : (C31 gl).primF 132 = some p_sizeB := rfl
theorem C31_ok {gl : Gb} (h : (C30 gl).Ok Tryz.prog) : (C31 gl).Ok Tryz.prog := h.more (by
  intro f gf hf
  unfold prims_C31 at hf
  split at hf
  · simp only [Option.some.injEq] at hf; subst hf; exact does_RSize
  · simp only [Option.some.injEq] at hf; subst hf; exact does_RPlace
  · simp only [Option.some.injEq] at hf; subst hf; exact does_sizeB
  · cases hf)
def p_SizeR : List D → Option D := p1 fun (p : Piece) => if okTurn p.Pose.Turn = true then some (enc (sizeOfR p)) else none
theorem does_SizeR : Does Tryz.prog (C31 gl) 79 p_SizeR := con1 (fun _ => 10) fun p hc ic => by
  have hi : okTurn (invertR p.Pose.Turn) = true := by rw [invertR_eq hc]; exact (invert_ok hc).1
  refine W_body (c := _) Tryz.func79 rfl (by simp [Tryz.f79]) ?_
  simp (config := {decide := true, implicitDefEqProofs := false}) [Tryz.f79, p_RInvert, p_RSize, p_sizeB, sizeOfR, hc, hi]
def p_WithinR : List D → Option D := p2 fun (b : Box) (s : Vec) => some (.bool (inside b ⟨zeroV, s⟩))
theorem does_WithinR : Does Tryz.prog (C31 gl) 78 p_WithinR := tot2 (fun _ _ => 10) fun b s ic => by
  refine W_body (c := _) Tryz.func78 rfl (by simp [Tryz.f78]) ?_
  simp [Tryz.f78, inside, zeroV]
  grind
def p_MeetR : List D → Option D := p2 fun (a b : Box) => some (.bool (overlap a b))
theorem does_MeetR : Does Tryz.prog (C31 gl) 43 p_MeetR := tot2 (fun _ _ => 10) fun a b ic => by
  refine W_body (c := _) Tryz.func43 rfl (by simp [Tryz.f43]) ?_
  simp [Tryz.f43, overlap]
  grind
noncomputable def prims_C32 (gl : Gb) (f : FuncId) : Option (List D → Option D) := match f with
  | 79 => some p_SizeR
  | 78 => some p_WithinR
  | 43 => some p_MeetR
  | _ => none
noncomputable def C32 (gl : Gb) : Cfg := (C31 gl).more (prims_C32 gl)
@[simp] theorem mutS_C32 (gl : Gb) (f s) : (C32 gl).mutS f s = mutTab f s := rfl
@[simp] theorem pureF_C32 (gl : Gb) (f) : (C32 gl).pureF f = true := rfl
@[simp] theorem glob_C32 (gl : Gb) : (C32 gl).glob = gl := rfl
@[simp] theorem C32_p92 (gl : Gb) : (C32 gl).primF 92 = some p_is := rfl
@[simp] theorem C32_p149 (gl : Gb) : (C32 gl).primF 149 = some p_array := rfl
@[simp] theorem C32_p196 (gl : Gb) : (C32 gl).primF 196 = some p_vec := rfl
@[simp] theorem C32_p98 (gl : Gb) : (C32 gl).primF 98 = some p_add := rfl
@[simp] theorem C32_p148 (gl : Gb) : (C32 gl).primF 148 = some p_neg := rfl
@[simp] theorem C32_p145 (gl : Gb) : (C32 gl).primF 145 = some p_lengths := rfl
@[simp] theorem C32_p140 (gl : Gb) : (C32 gl).primF 140 = some p_inside := rfl
@[simp] theorem C32_p99 (gl : Gb) : (C32 gl).primF 99 = some p_overlap := rfl
@[simp] theorem C32_p150 (gl : Gb) : (C32 gl).primF 150 = some p_apply := rfl
@[simp] theorem C32_p96 (gl : Gb) : (C32 gl).primF 96 = some p_near := rfl
@[simp] theorem C32_p194 (gl : Gb) : (C32 gl).primF 194 = some p_compose1 := rfl
@[simp] theorem C32_p97 (gl : Gb) : (C32 gl).primF 97 = some p_image := rfl
@[simp] theorem C32_p193 (gl : Gb) : (C32 gl).primF 193 = some p_find := rfl
@[simp] theorem C32_p147 (gl : Gb) : (C32 gl).primF 147 = some p_compose := rfl
@[simp] theorem C32_p93 (gl : Gb) : (C32 gl).primF 93 = some p_invert := rfl
@[simp] theorem C32_p190 (gl : Gb) : (C32 gl).primF 190 = some p_result := rfl
@[simp] theorem C32_p95 (gl : Gb) : (C32 gl).primF 95 = some p_turned := rfl
@[simp] theorem C32_p94 (gl : Gb) : (C32 gl).primF 94 = some p_sized := rfl
@[simp] theorem C32_p38 (gl : Gb) : (C32 gl).primF 38 = some p_Invert := rfl
@[simp] theorem C32_p39 (gl : Gb) : (C32 gl).primF 39 = some p_Size := rfl
@[simp] theorem C32_p41 (gl : Gb) : (C32 gl).primF 41 = some p_Box := rfl
@[simp] theorem C32_p142 (gl : Gb) : (C32 gl).primF 142 = some p_Join := rfl
@[simp] theorem C32_p187 (gl : Gb) : (C32 gl).primF 187 = some p_Place := rfl
@[simp] theorem C32_p125 (gl : Gb) : (C32 gl).primF 125 = some p_sizeOf := rfl
@[simp] theorem C32_p139 (gl : Gb) : (C32 gl).primF 139 = some p_right := rfl
@[simp] theorem C32_p182 (gl : Gb) : (C32 gl).primF 182 = some p_Split := rfl
@[simp] theorem C32_p114 (gl : Gb) : (C32 gl).primF 114 = some p_Itoa := rfl
@[simp] theorem C32_p131 (gl : Gb) : (C32 gl).primF 131 = some p_Atoi := rfl
@[simp] theorem C32_p316 (gl : Gb) : (C32 gl).primF 316 = some p_classes := rfl
@[simp] theorem C32_p252 (gl : Gb) : (C32 gl).primF 252 = some p_inner := rfl
@[simp] theorem C32_p251 (gl : Gb) : (C32 gl).primF 251 = some p_Name1 := rfl
@[simp] theorem C32_p250 (gl : Gb) : (C32 gl).primF 250 = some p_run := rfl
@[simp] theorem C32_p183 (gl : Gb) : (C32 gl).primF 183 = some p_Name := rfl
@[simp] theorem C32_p128 (gl : Gb) : (C32 gl).primF 128 = some p_isId := rfl
@[simp] theorem C32_p137 (gl : Gb) : (C32 gl).primF 137 = some p_build1 := rfl
@[simp] theorem C32_p138 (gl : Gb) : (C32 gl).primF 138 = some p_build2 := rfl
@[simp] theorem C32_p184 (gl : Gb) : (C32 gl).primF 184 = some p_IndexFunc := rfl
@[simp] theorem C32_p129 (gl : Gb) : (C32 gl).primF 129 = some p_ContainsFunc := rfl
@[simp] theorem C32_p80 (gl : Gb) : (C32 gl).primF 80 = some p_build := rfl
@[simp] theorem C32_p84 (gl : Gb) : (C32 gl).primF 84 = some p_open := rfl
@[simp] theorem C32_p19 (gl : Gb) : (C32 gl).primF 19 = some p_Check := rfl
@[simp] theorem C32_p85 (gl : Gb) : (C32 gl).primF 85 = some p_pose := rfl
@[simp] theorem C32_p86 (gl : Gb) : (C32 gl).primF 86 = some p_place := rfl
@[simp] theorem C32_p22 (gl : Gb) : (C32 gl).primF 22 = some p_Find := rfl
@[simp] theorem C32_p23 (gl : Gb) : (C32 gl).primF 23 = some p_PoseL := rfl
@[simp] theorem C32_p24 (gl : Gb) : (C32 gl).primF 24 = some p_PlaceL := rfl
@[simp] theorem C32_p16 (gl : Gb) : (C32 gl).primF 16 = some p_awake := rfl
@[simp] theorem C32_p15 (gl : Gb) : (C32 gl).primF 15 = some p_Few := rfl
@[simp] theorem C32_p37 (gl : Gb) : (C32 gl).primF 37 = some p_Volume := rfl
@[simp] theorem C32_p40 (gl : Gb) : (C32 gl).primF 40 = some p_Minus := rfl
@[simp] theorem C32_p179 (gl : Gb) : (C32 gl).primF 179 = some p_apply := rfl
@[simp] theorem C32_p176 (gl : Gb) : (C32 gl).primF 176 = some p_coordinate := rfl
@[simp] theorem C32_p133 (gl : Gb) : (C32 gl).primF 133 = some p_Is := rfl
@[simp] theorem C32_p192 (gl : Gb) : (C32 gl).primF 192 = some p_Plus := rfl
@[simp] theorem C32_p191 (gl : Gb) : (C32 gl).primF 191 = some p_same := rfl
@[simp] theorem C32_p120 (gl : Gb) : (C32 gl).primF 120 = some p_Near := rfl
@[simp] theorem C32_p143 (gl : Gb) : (C32 gl).primF 143 = some p_RCompose := rfl
@[simp] theorem C32_p136 (gl : Gb) : (C32 gl).primF 136 = some p_RInvert := rfl
@[simp] theorem C32_p144 (gl : Gb) : (C32 gl).primF 144 = some p_Point := rfl
@[simp] theorem C32_p66 (gl : Gb) : (C32 gl).primF 66 = some p_Valid := rfl
@[simp] theorem C32_p88 (gl : Gb) : (C32 gl).primF 88 = some p_RBox := rfl
@[simp] theorem C32_p87 (gl : Gb) : (C32 gl).primF 87 = some p_RJoin := rfl
@[simp] theorem C32_p135 (gl : Gb) : (C32 gl).primF 135 = some p_RSize := rfl
@[simp] theorem C32_p134 (gl : Gb) : (C32 gl).primF 134 = some p_RPlace := rfl
@[simp] theorem C32_p132 (gl : Gb) : (C32 gl).primF 132 = some p_sizeB := rfl
@[simp] theorem C32_p79 (gl : Gb) : (C32 gl).primF 79 = some p_SizeR := rfl
@[simp] theorem C32_p78 (gl : Gb) : (C32 gl).primF 78 = some p_WithinR := rfl
@[simp] theorem C32_p43 (gl : Gb) : (C32 gl).primF 43 = some p_MeetR := rfl
theorem C32_ok {gl : Gb} (h : (C31 gl).Ok Tryz.prog) : (C32 gl).Ok Tryz.prog := h.more (by
  intro f gf hf
  unfold prims_C32 at hf
  split at hf
  · simp only [Option.some.injEq] at hf; subst hf; exact does_SizeR
  · simp only [Option.some.injEq] at hf; subst hf; exact does_WithinR
  · simp only [Option.some.injEq] at hf; subst hf; exact does_MeetR
  · cases hf)
def p_RRight : List D → Option D := p1 fun (p : Piece) => some (.bool (right p))
theorem does_RRight : Does Tryz.prog (C32 gl) 77 p_RRight := tot1 (fun _ => 10) fun p ic => by
  rw [← rightR_eq]
  refine W_body (c := _) Tryz.func77 rfl (by simp [Tryz.f77]) ?_
  by_cases h1 : validR p.Box = true
  · by_cases h2 : nearV (sub p.Box.Max p.Box.Min) = true
    · by_cases h3 : okTurn p.Pose.Turn = true
      · simp (config := {decide := true, implicitDefEqProofs := false}) [Tryz.f77, p_Valid, p_Near, p_sizeB, p_Is, p_SizeR, p_RPlace, rightR, h1, h2, h3]
        rw [Bool.eq_iff_iff]
        simp
        constructor
        · rintro ⟨⟨⟨a, b⟩, c⟩, d⟩; exact pose_ext a b c d
        · intro e; rw [← e]; simp
      · simp (config := {decide := true, implicitDefEqProofs := false}) [Tryz.f77, p_Valid, p_Near, p_sizeB, p_Is, p_SizeR, p_RPlace, rightR, h1, h2, h3]
    · simp (config := {decide := true, implicitDefEqProofs := false}) [Tryz.f77, p_Valid, p_Near, p_sizeB, p_Is, p_SizeR, p_RPlace, rightR, h1, h2]
  · simp (config := {decide := true, implicitDefEqProofs := false}) [Tryz.f77, p_Valid, p_Near, p_sizeB, p_Is, p_SizeR, p_RPlace, rightR, h1]
end Go.Proofs.YtmfgnajlkoafkaaGreatDoor
