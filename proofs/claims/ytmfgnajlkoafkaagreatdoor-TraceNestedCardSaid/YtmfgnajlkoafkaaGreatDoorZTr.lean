/- The reference's small functions that the law LineageInside calls. -/
import Derived.Test.YtmfgnajlkoafkaaGreatDoorZTq
set_option linter.all false
set_option maxHeartbeats 2000000
namespace Go.Proofs.YtmfgnajlkoafkaaGreatDoor
open Go Go.AM Go.AM.Orient Go.AM.Lineage
open Go.AM.Enc (enc dec)
open Go.AM.Row (row ofRow)
set_option maxRecDepth 100000
set_option linter.unusedVariables false
set_option linter.unusedSimpArgs false
variable {gl : Gb}
def shortP (p : Piece) : Bool := decide (p.Id.size ≤ 100) && decide (p.Parent.size ≤ 100)
def fewB (l : List Piece) : Bool := decide (l.length ≤ 60) && l.all shortP
def p_Few : List D → Option D := p1 fun (l : List Piece) => some (.bool (fewB l))
theorem does_Few : Does Tryz.prog (C24 gl) 15 p_Few := tot1 (fun _ => 1000) fun l ic => by
  refine W_body (c := _) Tryz.func15 rfl (by simp [Tryz.f15]) ?_
  by_cases hn : l.length ≤ 60
  · have e0 : ¬ (60 < (l.length : Int)) := by omega
    simp (config := {decide := true}) [Tryz.f15, e0]
    refine W_loop rfl (fun (i : Nat) e h => e 3 = .d (I i) ∧ e 0 = .d (.list (l.map row)) ∧ i ≤ l.length ∧ (l.take i).all shortP = true) (fun i => l.length - i) 0 (by omega) (by simp) ?_
    rintro i e h ⟨h1, h2, h3, h4⟩
    by_cases hlt : i < l.length
    · by_cases ha : l[i].Id.size ≤ 100
      · have ha' : ¬ (100 < (l[i].Id.size : Int)) := by omega
        by_cases hb : l[i].Parent.size ≤ 100
        · have hb' : ¬ (100 < (l[i].Parent.size : Int)) := by omega
          have hw : IntKind.i64.wrap ((i : Int) + 1) = ((i + 1 : Nat) : Int) := by rw [wrap_i64 (by omega) (by omega)]; simp
          simp (config := {decide := true}) [h1, h2, hlt, ha', hb', hw]
          exact ⟨i + 1, by omega, rfl, by omega, List.all_eq_true.1 (take_all hlt h4 (by simp [shortP, ha, hb]))⟩
        · have hb' : (100 < (l[i].Parent.size : Int)) := by omega
          have hf : fewB l = false := by
            unfold fewB
            rw [all_false hlt (p := shortP) (by simp [shortP]; omega)]; simp
          simp (config := {decide := true}) [h1, h2, hlt, ha', hb', hf]
      · have ha' : (100 < (l[i].Id.size : Int)) := by omega
        have hf : fewB l = false := by
          unfold fewB
          rw [all_false hlt (p := shortP) (by simp [shortP]; omega)]; simp
        simp (config := {decide := true}) [h1, h2, hlt, ha', hf]
    · obtain rfl : i = l.length := by omega
      have hf : fewB l = true := by unfold fewB; rw [List.take_length] at h4; simp [h4, hn]
      simp (config := {decide := true}) [h1, h2, hf]
  · have e0 : (60 < (l.length : Int)) := by omega
    have hf : fewB l = false := by unfold fewB; simp [hn]
    simp (config := {decide := true}) [Tryz.f15, e0, hf]
/-- a box's volume, as the machine counts it -/
def volB (b : Box) : Int := w64 (w64 ((lengths b).X * (lengths b).Y) * (lengths b).Z)
def p_Volume : List D → Option D := p1 fun (b : Box) => some (I (volB b))
theorem does_Volume : Does Tryz.prog (C24 gl) 37 p_Volume := tot1 (fun _ => 1) fun b ic => by
  refine W_body (c := _) Tryz.func37 rfl (by simp [Tryz.f37]) ?_
  simp [Tryz.f37, buildV, volB, lengths]
def p_Minus : List D → Option D := p2 fun (a b : Vec) => some (enc (sub a b))
theorem does_Minus : Does Tryz.prog (C24 gl) 40 p_Minus := tot2 (fun _ _ => 1) fun v u ic => by
  refine W_body (c := _) Tryz.func40 rfl (by simp [Tryz.f40]) ?_
  simp [Tryz.f40, buildV, sub]
noncomputable def prims_C25 (gl : Gb) (f : FuncId) : Option (List D → Option D) := match f with
  | 15 => some p_Few
  | 37 => some p_Volume
  | 40 => some p_Minus
  | _ => none
noncomputable def C25 (gl : Gb) : Cfg := (C24 gl).more (prims_C25 gl)
@[simp] theorem mutS_C25 (gl : Gb) (f s) : (C25 gl).mutS f s = mutTab f s := rfl
@[simp] theorem pureF_C25 (gl : Gb) (f) : (C25 gl).pureF f = true := rfl
@[simp] theorem glob_C25 (gl : Gb) : (C25 gl).glob = gl := rfl
@[simp] theorem C25_p92 (gl : Gb) : (C25 gl).primF 92 = some p_is := rfl
@[simp] theorem C25_p149 (gl : Gb) : (C25 gl).primF 149 = some p_array := rfl
@[simp] theorem C25_p196 (gl : Gb) : (C25 gl).primF 196 = some p_vec := rfl
@[simp] theorem C25_p98 (gl : Gb) : (C25 gl).primF 98 = some p_add := rfl
@[simp] theorem C25_p148 (gl : Gb) : (C25 gl).primF 148 = some p_neg := rfl
@[simp] theorem C25_p145 (gl : Gb) : (C25 gl).primF 145 = some p_lengths := rfl
@[simp] theorem C25_p140 (gl : Gb) : (C25 gl).primF 140 = some p_inside := rfl
@[simp] theorem C25_p99 (gl : Gb) : (C25 gl).primF 99 = some p_overlap := rfl
@[simp] theorem C25_p150 (gl : Gb) : (C25 gl).primF 150 = some p_apply := rfl
@[simp] theorem C25_p96 (gl : Gb) : (C25 gl).primF 96 = some p_near := rfl
@[simp] theorem C25_p194 (gl : Gb) : (C25 gl).primF 194 = some p_compose1 := rfl
@[simp] theorem C25_p97 (gl : Gb) : (C25 gl).primF 97 = some p_image := rfl
@[simp] theorem C25_p193 (gl : Gb) : (C25 gl).primF 193 = some p_find := rfl
@[simp] theorem C25_p147 (gl : Gb) : (C25 gl).primF 147 = some p_compose := rfl
@[simp] theorem C25_p93 (gl : Gb) : (C25 gl).primF 93 = some p_invert := rfl
@[simp] theorem C25_p190 (gl : Gb) : (C25 gl).primF 190 = some p_result := rfl
@[simp] theorem C25_p95 (gl : Gb) : (C25 gl).primF 95 = some p_turned := rfl
@[simp] theorem C25_p94 (gl : Gb) : (C25 gl).primF 94 = some p_sized := rfl
@[simp] theorem C25_p38 (gl : Gb) : (C25 gl).primF 38 = some p_Invert := rfl
@[simp] theorem C25_p39 (gl : Gb) : (C25 gl).primF 39 = some p_Size := rfl
@[simp] theorem C25_p41 (gl : Gb) : (C25 gl).primF 41 = some p_Box := rfl
@[simp] theorem C25_p142 (gl : Gb) : (C25 gl).primF 142 = some p_Join := rfl
@[simp] theorem C25_p187 (gl : Gb) : (C25 gl).primF 187 = some p_Place := rfl
@[simp] theorem C25_p125 (gl : Gb) : (C25 gl).primF 125 = some p_sizeOf := rfl
@[simp] theorem C25_p139 (gl : Gb) : (C25 gl).primF 139 = some p_right := rfl
@[simp] theorem C25_p182 (gl : Gb) : (C25 gl).primF 182 = some p_Split := rfl
@[simp] theorem C25_p114 (gl : Gb) : (C25 gl).primF 114 = some p_Itoa := rfl
@[simp] theorem C25_p131 (gl : Gb) : (C25 gl).primF 131 = some p_Atoi := rfl
@[simp] theorem C25_p316 (gl : Gb) : (C25 gl).primF 316 = some p_classes := rfl
@[simp] theorem C25_p252 (gl : Gb) : (C25 gl).primF 252 = some p_inner := rfl
@[simp] theorem C25_p251 (gl : Gb) : (C25 gl).primF 251 = some p_Name1 := rfl
@[simp] theorem C25_p250 (gl : Gb) : (C25 gl).primF 250 = some p_run := rfl
@[simp] theorem C25_p183 (gl : Gb) : (C25 gl).primF 183 = some p_Name := rfl
@[simp] theorem C25_p128 (gl : Gb) : (C25 gl).primF 128 = some p_isId := rfl
@[simp] theorem C25_p137 (gl : Gb) : (C25 gl).primF 137 = some p_build1 := rfl
@[simp] theorem C25_p138 (gl : Gb) : (C25 gl).primF 138 = some p_build2 := rfl
@[simp] theorem C25_p184 (gl : Gb) : (C25 gl).primF 184 = some p_IndexFunc := rfl
@[simp] theorem C25_p129 (gl : Gb) : (C25 gl).primF 129 = some p_ContainsFunc := rfl
@[simp] theorem C25_p80 (gl : Gb) : (C25 gl).primF 80 = some p_build := rfl
@[simp] theorem C25_p84 (gl : Gb) : (C25 gl).primF 84 = some p_open := rfl
@[simp] theorem C25_p19 (gl : Gb) : (C25 gl).primF 19 = some p_Check := rfl
@[simp] theorem C25_p85 (gl : Gb) : (C25 gl).primF 85 = some p_pose := rfl
@[simp] theorem C25_p86 (gl : Gb) : (C25 gl).primF 86 = some p_place := rfl
@[simp] theorem C25_p22 (gl : Gb) : (C25 gl).primF 22 = some p_Find := rfl
@[simp] theorem C25_p23 (gl : Gb) : (C25 gl).primF 23 = some p_PoseL := rfl
@[simp] theorem C25_p24 (gl : Gb) : (C25 gl).primF 24 = some p_PlaceL := rfl
@[simp] theorem C25_p16 (gl : Gb) : (C25 gl).primF 16 = some p_awake := rfl
@[simp] theorem C25_p15 (gl : Gb) : (C25 gl).primF 15 = some p_Few := rfl
@[simp] theorem C25_p37 (gl : Gb) : (C25 gl).primF 37 = some p_Volume := rfl
@[simp] theorem C25_p40 (gl : Gb) : (C25 gl).primF 40 = some p_Minus := rfl
theorem C25_ok {gl : Gb} (h : (C24 gl).Ok Tryz.prog) : (C25 gl).Ok Tryz.prog := h.more (by
  intro f gf hf
  unfold prims_C25 at hf
  split at hf
  · simp only [Option.some.injEq] at hf; subst hf; exact does_Few
  · simp only [Option.some.injEq] at hf; subst hf; exact does_Volume
  · simp only [Option.some.injEq] at hf; subst hf; exact does_Minus
  · cases hf)
def p_law1 (T : Type) [Enc T] : List D → Option D := p1 fun (_ : T) => some (.bool true)
def p_law (T : Type) [Enc T] (U : Type) [Enc U] : List D → Option D := p2 fun (_ : T) (_ : U) => some (.bool true)
def p_law3 (T : Type) [Enc T] (U : Type) [Enc U] (V : Type) [Enc V] : List D → Option D := p3 fun (_ : T) (_ : U) (_ : V) => some (.bool true)
def p_law4 (T : Type) [Enc T] (U : Type) [Enc U] (V : Type) [Enc V] (W : Type) [Enc W] : List D → Option D := p4 fun (_ : T) (_ : U) (_ : V) (_ : W) => some (.bool true)
end Go.Proofs.YtmfgnajlkoafkaaGreatDoor
