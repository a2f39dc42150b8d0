/- The examples of the chapter: they answer true. -/
import Derived.Test.YtmfgnajlkoafkaaGreatDoorZTp
import Derived.Test.YtmfgnajlkoafkaaGreatDoorMh
set_option linter.all false
set_option maxHeartbeats 2000000
namespace Go.Proofs.YtmfgnajlkoafkaaGreatDoor
open Go Go.AM Go.RowKit Go.AM.Lineage
open Go.AM.Enc (enc dec)
open Go.AM.Row (row ofRow)
set_option maxRecDepth 100000
set_option linter.unusedVariables false
theorem PrimOk.of_does {P : Program} {C : Cfg} (hO : C.Ok P) {f : FuncId} {gf : List D → Option D} (h : Does P C f gf) : PrimOk P C.glob f gf := by
  intro args d vals w M hd hr hi hm hg
  obtain ⟨k, hk⟩ := h args d hd
  unfold pcall at hk
  split at hk
  · rename_i v h' hic
    exact pure_sim hO (icall_sim hO k) hic hk hi hm hg hr
  · cases hk
/-- what Clone and Cut return may be appended to -/
noncomputable def Cb (gl : Gb) : Cfg := { Ca gl with pureF := fun f => if f = 127 ∨ f = 73 then false else (Ca gl).pureF f }
theorem Cb_ok (m : Int) : (Cb (Gl m)).Ok Tryz.prog where
  mix := (Ca_ok m).mix
  fns := (Ca_ok m).fns
  glob := (Ca_ok m).glob
  prim := (Ca_ok m).prim
  primV := (Ca_ok m).primV
theorem awake_run (gl : Gb) : pcall Tryz.prog (Cb gl) 300 16 [] = some (.bool true) := by kernel_rfl
def p_awake : List D → Option D
  | [] => some (.bool true)
  | _ => none
theorem prim_awake (m : Int) : PrimOk Tryz.prog (Gl m) 16 p_awake := PrimOk.of_does (Cb_ok m) fun args d hd => by
  unfold p_awake at hd
  split at hd
  · cases hd; exact ⟨300, awake_run _⟩
  · cases hd
noncomputable def prims_C24 (gl : Gb) (f : FuncId) : Option (List D → Option D) := match f with
  | 16 => some p_awake
  | _ => none
noncomputable def C24 (gl : Gb) : Cfg := (C23 gl).more (prims_C24 gl)
@[simp] theorem mutS_C24 (gl : Gb) (f s) : (C24 gl).mutS f s = mutTab f s := rfl
@[simp] theorem pureF_C24 (gl : Gb) (f) : (C24 gl).pureF f = true := rfl
@[simp] theorem glob_C24 (gl : Gb) : (C24 gl).glob = gl := rfl
@[simp] theorem C24_p92 (gl : Gb) : (C24 gl).primF 92 = some p_is := rfl
@[simp] theorem C24_p149 (gl : Gb) : (C24 gl).primF 149 = some p_array := rfl
@[simp] theorem C24_p196 (gl : Gb) : (C24 gl).primF 196 = some p_vec := rfl
@[simp] theorem C24_p98 (gl : Gb) : (C24 gl).primF 98 = some p_add := rfl
@[simp] theorem C24_p148 (gl : Gb) : (C24 gl).primF 148 = some p_neg := rfl
@[simp] theorem C24_p145 (gl : Gb) : (C24 gl).primF 145 = some p_lengths := rfl
@[simp] theorem C24_p140 (gl : Gb) : (C24 gl).primF 140 = some p_inside := rfl
@[simp] theorem C24_p99 (gl : Gb) : (C24 gl).primF 99 = some p_overlap := rfl
@[simp] theorem C24_p150 (gl : Gb) : (C24 gl).primF 150 = some p_apply := rfl
@[simp] theorem C24_p96 (gl : Gb) : (C24 gl).primF 96 = some p_near := rfl
@[simp] theorem C24_p194 (gl : Gb) : (C24 gl).primF 194 = some p_compose1 := rfl
@[simp] theorem C24_p97 (gl : Gb) : (C24 gl).primF 97 = some p_image := rfl
@[simp] theorem C24_p193 (gl : Gb) : (C24 gl).primF 193 = some p_find := rfl
@[simp] theorem C24_p147 (gl : Gb) : (C24 gl).primF 147 = some p_compose := rfl
@[simp] theorem C24_p93 (gl : Gb) : (C24 gl).primF 93 = some p_invert := rfl
@[simp] theorem C24_p190 (gl : Gb) : (C24 gl).primF 190 = some p_result := rfl
@[simp] theorem C24_p95 (gl : Gb) : (C24 gl).primF 95 = some p_turned := rfl
@[simp] theorem C24_p94 (gl : Gb) : (C24 gl).primF 94 = some p_sized := rfl
@[simp] theorem C24_p38 (gl : Gb) : (C24 gl).primF 38 = some p_Invert := rfl
@[simp] theorem C24_p39 (gl : Gb) : (C24 gl).primF 39 = some p_Size := rfl
@[simp] theorem C24_p41 (gl : Gb) : (C24 gl).primF 41 = some p_Box := rfl
@[simp] theorem C24_p142 (gl : Gb) : (C24 gl).primF 142 = some p_Join := rfl
@[simp] theorem C24_p187 (gl : Gb) : (C24 gl).primF 187 = some p_Place := rfl
@[simp] theorem C24_p125 (gl : Gb) : (C24 gl).primF 125 = some p_sizeOf := rfl
@[simp] theorem C24_p139 (gl : Gb) : (C24 gl).primF 139 = some p_right := rfl
@[simp] theorem C24_p182 (gl : Gb) : (C24 gl).primF 182 = some p_Split := rfl
@[simp] theorem C24_p114 (gl : Gb) : (C24 gl).primF 114 = some p_Itoa := rfl
@[simp] theorem C24_p131 (gl : Gb) : (C24 gl).primF 131 = some p_Atoi := rfl
@[simp] theorem C24_p316 (gl : Gb) : (C24 gl).primF 316 = some p_classes := rfl
@[simp] theorem C24_p252 (gl : Gb) : (C24 gl).primF 252 = some p_inner := rfl
@[simp] theorem C24_p251 (gl : Gb) : (C24 gl).primF 251 = some p_Name1 := rfl
@[simp] theorem C24_p250 (gl : Gb) : (C24 gl).primF 250 = some p_run := rfl
@[simp] theorem C24_p183 (gl : Gb) : (C24 gl).primF 183 = some p_Name := rfl
@[simp] theorem C24_p128 (gl : Gb) : (C24 gl).primF 128 = some p_isId := rfl
@[simp] theorem C24_p137 (gl : Gb) : (C24 gl).primF 137 = some p_build1 := rfl
@[simp] theorem C24_p138 (gl : Gb) : (C24 gl).primF 138 = some p_build2 := rfl
@[simp] theorem C24_p184 (gl : Gb) : (C24 gl).primF 184 = some p_IndexFunc := rfl
@[simp] theorem C24_p129 (gl : Gb) : (C24 gl).primF 129 = some p_ContainsFunc := rfl
@[simp] theorem C24_p80 (gl : Gb) : (C24 gl).primF 80 = some p_build := rfl
@[simp] theorem C24_p84 (gl : Gb) : (C24 gl).primF 84 = some p_open := rfl
@[simp] theorem C24_p19 (gl : Gb) : (C24 gl).primF 19 = some p_Check := rfl
@[simp] theorem C24_p85 (gl : Gb) : (C24 gl).primF 85 = some p_pose := rfl
@[simp] theorem C24_p86 (gl : Gb) : (C24 gl).primF 86 = some p_place := rfl
@[simp] theorem C24_p22 (gl : Gb) : (C24 gl).primF 22 = some p_Find := rfl
@[simp] theorem C24_p23 (gl : Gb) : (C24 gl).primF 23 = some p_PoseL := rfl
@[simp] theorem C24_p24 (gl : Gb) : (C24 gl).primF 24 = some p_PlaceL := rfl
@[simp] theorem C24_p16 (gl : Gb) : (C24 gl).primF 16 = some p_awake := rfl
theorem C24_ok {m : Int} (h : (C23 (Gl m)).Ok Tryz.prog) : (C24 (Gl m)).Ok Tryz.prog := h.lib (by
  intro f gf hf
  unfold prims_C24 at hf
  split at hf
  · simp only [Option.some.injEq] at hf; subst hf; exact prim_awake m
  · cases hf)
end Go.Proofs.YtmfgnajlkoafkaaGreatDoor
