/- orient: its small functions. orient: turns. orient: what others call. lineage: pieces. -/
import Derived.Test.YtmfgnajlkoafkaaGreatDoorZTd
import Derived.Test.YtmfgnajlkoafkaaGreatDoorMe
set_option linter.all false
set_option maxHeartbeats 2000000
section
namespace Go.Proofs.YtmfgnajlkoafkaaGreatDoor
open Go Go.AM Go.AM.Orient
open Go.AM.Enc (enc dec)
open Go.AM.Row (row ofRow)
set_option maxRecDepth 100000
set_option linter.unusedVariables false
set_option linter.unusedSimpArgs false
attribute [simp] mutTab
@[simp] theorem mutS_Cz (gl) (f s) : (Cz gl).mutS f s = mutTab f s := rfl
@[simp] theorem pureF_Cz (gl) (f) : (Cz gl).pureF f = true := rfl
@[simp] theorem glob_Cz (gl) : (Cz gl).glob = gl := rfl
variable {gl : Gb}
theorem mem_getElem {α : Type} {l : List α} {i : Nat} (h : i < l.length) : l[i] ∈ l := List.getElem_mem h

def p_is : List D → Option D := p1 fun (l : List Int) => if l.length < 1000000 then some (.bool (okTurns l)) else none
theorem take_all {α : Type} {p : α → Bool} {l : List α} {i : Nat} (h : i < l.length) (ht : (l.take i).all p = true) (hp : p l[i] = true) : (l.take (i + 1)).all p = true := by
  rw [List.take_add_one, List.getElem?_eq_getElem h, List.all_append, ht]; simp [hp]
theorem all_false {α : Type} {p : α → Bool} {l : List α} {i : Nat} (h : i < l.length) (hp : p l[i] = false) : l.all p = false := by
  rw [List.all_eq_false]; exact ⟨_, mem_getElem h, by simp [hp]⟩
theorem does_is : Does Tryz.prog (Cz gl) 92 p_is := con1 (fun _ => 1000001) fun l hl ic => by
  refine W_body (c := _) Tryz.func92 rfl (by simp [Tryz.f92]) ?_
  simp [Tryz.f92]
  refine W_loop rfl (fun (i : Nat) e h => e 7 = .d (I i) ∧ e 6 = .d (I l.length) ∧ e 5 = .d (.list (l.map row)) ∧ i ≤ l.length ∧ okTurns (l.take i) = true) (fun i => l.length - i) 0 (by omega) (by simp [okTurns]) ?_
  rintro i e h ⟨h1, h2, h3, h4, h5⟩
  by_cases hlt : i < l.length
  · simp [h1, h2, h3, hlt]
    refine ⟨fun a => ⟨fun b => all_false hlt (by simp [okTurn]; omega), fun b => ⟨i + 1, by omega, ?_, by omega, take_all hlt h5 (by simp [okTurn]; omega)⟩⟩, fun b => all_false hlt (by simp [okTurn]; omega)⟩
    rw [wrap_i64] <;> omega
  · obtain rfl : i = l.length := by omega
    simp [h1, h2, h3]
    simpa using h5

def p_array : List D → Option D := p1 fun (v : Vec) => some (enc v)
theorem does_array : Does Tryz.prog (Cz gl) 149 p_array := tot1 (fun _ => 1) fun v ic => by
  refine W_body (c := _) Tryz.func149 rfl (by simp [Tryz.f149]) ?_
  simp [Tryz.f149, buildV]
def p_vec : List D → Option D := p1 fun (v : Vec) => some (enc v)
theorem does_vec : Does Tryz.prog (Cz gl) 196 p_vec := tot1 (fun _ => 1) fun v ic => by
  refine W_body (c := _) Tryz.func196 rfl (by simp [Tryz.f196]) ?_
  simp [Tryz.f196, buildV]
def p_add : List D → Option D := p2 fun (a b : Vec) => some (enc (add a b))
theorem does_add : Does Tryz.prog (Cz gl) 98 p_add := tot2 (fun _ _ => 1) fun v u ic => by
  refine W_body (c := _) Tryz.func98 rfl (by simp [Tryz.f98]) ?_
  simp [Tryz.f98, buildV, add]
def p_neg : List D → Option D := p1 fun (a : Vec) => some (enc (neg a))
theorem does_neg : Does Tryz.prog (Cz gl) 148 p_neg := tot1 (fun _ => 1) fun v ic => by
  refine W_body (c := _) Tryz.func148 rfl (by simp [Tryz.f148]) ?_
  simp [Tryz.f148, buildV, neg]
def p_lengths : List D → Option D := p1 fun (a : Box) => some (enc (lengths a))
theorem does_lengths : Does Tryz.prog (Cz gl) 145 p_lengths := tot1 (fun _ => 1) fun v ic => by
  refine W_body (c := _) Tryz.func145 rfl (by simp [Tryz.f145]) ?_
  simp [Tryz.f145, buildV, lengths]
def p_inside : List D → Option D := p2 fun (a b : Box) => some (.bool (inside a b))
theorem does_inside : Does Tryz.prog (Cz gl) 140 p_inside := tot2 (fun _ _ => 1) fun v u ic => by
  refine W_body (c := _) Tryz.func140 rfl (by simp [Tryz.f140]) ?_
  simp [Tryz.f140, inside]
  grind
def p_overlap : List D → Option D := p2 fun (a b : Box) => some (.bool (overlap a b))
theorem does_overlap : Does Tryz.prog (Cz gl) 99 p_overlap := tot2 (fun _ _ => 1) fun v u ic => by
  refine W_body (c := _) Tryz.func99 rfl (by simp [Tryz.f99]) ?_
  simp [Tryz.f99, overlap]
  grind
theorem app_0 (gl : Gb) (x y z : Int) : pcall Tryz.prog (Cz gl) 100 150 [I 0, .agg [I x, I y, I z]] = some (enc (apply 0 ⟨x, y, z⟩)) := by kernel_rfl
theorem app_1 (gl : Gb) (x y z : Int) : pcall Tryz.prog (Cz gl) 100 150 [I 1, .agg [I x, I y, I z]] = some (enc (apply 1 ⟨x, y, z⟩)) := by kernel_rfl
theorem app_2 (gl : Gb) (x y z : Int) : pcall Tryz.prog (Cz gl) 100 150 [I 2, .agg [I x, I y, I z]] = some (enc (apply 2 ⟨x, y, z⟩)) := by kernel_rfl
theorem app_3 (gl : Gb) (x y z : Int) : pcall Tryz.prog (Cz gl) 100 150 [I 3, .agg [I x, I y, I z]] = some (enc (apply 3 ⟨x, y, z⟩)) := by kernel_rfl
theorem app_4 (gl : Gb) (x y z : Int) : pcall Tryz.prog (Cz gl) 100 150 [I 4, .agg [I x, I y, I z]] = some (enc (apply 4 ⟨x, y, z⟩)) := by kernel_rfl
theorem app_5 (gl : Gb) (x y z : Int) : pcall Tryz.prog (Cz gl) 100 150 [I 5, .agg [I x, I y, I z]] = some (enc (apply 5 ⟨x, y, z⟩)) := by kernel_rfl
theorem app_6 (gl : Gb) (x y z : Int) : pcall Tryz.prog (Cz gl) 100 150 [I 6, .agg [I x, I y, I z]] = some (enc (apply 6 ⟨x, y, z⟩)) := by kernel_rfl
theorem app_7 (gl : Gb) (x y z : Int) : pcall Tryz.prog (Cz gl) 100 150 [I 7, .agg [I x, I y, I z]] = some (enc (apply 7 ⟨x, y, z⟩)) := by kernel_rfl
theorem app_8 (gl : Gb) (x y z : Int) : pcall Tryz.prog (Cz gl) 100 150 [I 8, .agg [I x, I y, I z]] = some (enc (apply 8 ⟨x, y, z⟩)) := by kernel_rfl
theorem app_9 (gl : Gb) (x y z : Int) : pcall Tryz.prog (Cz gl) 100 150 [I 9, .agg [I x, I y, I z]] = some (enc (apply 9 ⟨x, y, z⟩)) := by kernel_rfl
theorem app_10 (gl : Gb) (x y z : Int) : pcall Tryz.prog (Cz gl) 100 150 [I 10, .agg [I x, I y, I z]] = some (enc (apply 10 ⟨x, y, z⟩)) := by kernel_rfl
theorem app_11 (gl : Gb) (x y z : Int) : pcall Tryz.prog (Cz gl) 100 150 [I 11, .agg [I x, I y, I z]] = some (enc (apply 11 ⟨x, y, z⟩)) := by kernel_rfl
theorem app_12 (gl : Gb) (x y z : Int) : pcall Tryz.prog (Cz gl) 100 150 [I 12, .agg [I x, I y, I z]] = some (enc (apply 12 ⟨x, y, z⟩)) := by kernel_rfl
theorem app_13 (gl : Gb) (x y z : Int) : pcall Tryz.prog (Cz gl) 100 150 [I 13, .agg [I x, I y, I z]] = some (enc (apply 13 ⟨x, y, z⟩)) := by kernel_rfl
theorem app_14 (gl : Gb) (x y z : Int) : pcall Tryz.prog (Cz gl) 100 150 [I 14, .agg [I x, I y, I z]] = some (enc (apply 14 ⟨x, y, z⟩)) := by kernel_rfl
theorem app_15 (gl : Gb) (x y z : Int) : pcall Tryz.prog (Cz gl) 100 150 [I 15, .agg [I x, I y, I z]] = some (enc (apply 15 ⟨x, y, z⟩)) := by kernel_rfl
theorem app_16 (gl : Gb) (x y z : Int) : pcall Tryz.prog (Cz gl) 100 150 [I 16, .agg [I x, I y, I z]] = some (enc (apply 16 ⟨x, y, z⟩)) := by kernel_rfl
theorem app_17 (gl : Gb) (x y z : Int) : pcall Tryz.prog (Cz gl) 100 150 [I 17, .agg [I x, I y, I z]] = some (enc (apply 17 ⟨x, y, z⟩)) := by kernel_rfl
theorem app_18 (gl : Gb) (x y z : Int) : pcall Tryz.prog (Cz gl) 100 150 [I 18, .agg [I x, I y, I z]] = some (enc (apply 18 ⟨x, y, z⟩)) := by kernel_rfl
theorem app_19 (gl : Gb) (x y z : Int) : pcall Tryz.prog (Cz gl) 100 150 [I 19, .agg [I x, I y, I z]] = some (enc (apply 19 ⟨x, y, z⟩)) := by kernel_rfl
theorem app_20 (gl : Gb) (x y z : Int) : pcall Tryz.prog (Cz gl) 100 150 [I 20, .agg [I x, I y, I z]] = some (enc (apply 20 ⟨x, y, z⟩)) := by kernel_rfl
theorem app_21 (gl : Gb) (x y z : Int) : pcall Tryz.prog (Cz gl) 100 150 [I 21, .agg [I x, I y, I z]] = some (enc (apply 21 ⟨x, y, z⟩)) := by kernel_rfl
theorem app_22 (gl : Gb) (x y z : Int) : pcall Tryz.prog (Cz gl) 100 150 [I 22, .agg [I x, I y, I z]] = some (enc (apply 22 ⟨x, y, z⟩)) := by kernel_rfl
theorem app_23 (gl : Gb) (x y z : Int) : pcall Tryz.prog (Cz gl) 100 150 [I 23, .agg [I x, I y, I z]] = some (enc (apply 23 ⟨x, y, z⟩)) := by kernel_rfl
def p_apply : List D → Option D := p2 fun (n : Int) (v : Vec) => if okTurn n = true then some (enc (apply n v)) else none
theorem does_apply : Does Tryz.prog (Cz gl) 150 p_apply := Does.p2 fun n v d hd => by
  split at hd
  · rename_i h
    cases hd
    simp only [okTurn, Bool.and_eq_true, decide_eq_true_eq] at h
    have hn : n = 0 ∨ n = 1 ∨ n = 2 ∨ n = 3 ∨ n = 4 ∨ n = 5 ∨ n = 6 ∨ n = 7 ∨ n = 8 ∨ n = 9 ∨ n = 10 ∨ n = 11 ∨ n = 12 ∨ n = 13 ∨ n = 14 ∨ n = 15 ∨ n = 16 ∨ n = 17 ∨ n = 18 ∨ n = 19 ∨ n = 20 ∨ n = 21 ∨ n = 22 ∨ n = 23 := by omega
    rcases hn with rfl | rfl | rfl | rfl | rfl | rfl | rfl | rfl | rfl | rfl | rfl | rfl | rfl | rfl | rfl | rfl | rfl | rfl | rfl | rfl | rfl | rfl | rfl | rfl
    · exact ⟨100, app_0 gl v.X v.Y v.Z⟩
    · exact ⟨100, app_1 gl v.X v.Y v.Z⟩
    · exact ⟨100, app_2 gl v.X v.Y v.Z⟩
    · exact ⟨100, app_3 gl v.X v.Y v.Z⟩
    · exact ⟨100, app_4 gl v.X v.Y v.Z⟩
    · exact ⟨100, app_5 gl v.X v.Y v.Z⟩
    · exact ⟨100, app_6 gl v.X v.Y v.Z⟩
    · exact ⟨100, app_7 gl v.X v.Y v.Z⟩
    · exact ⟨100, app_8 gl v.X v.Y v.Z⟩
    · exact ⟨100, app_9 gl v.X v.Y v.Z⟩
    · exact ⟨100, app_10 gl v.X v.Y v.Z⟩
    · exact ⟨100, app_11 gl v.X v.Y v.Z⟩
    · exact ⟨100, app_12 gl v.X v.Y v.Z⟩
    · exact ⟨100, app_13 gl v.X v.Y v.Z⟩
    · exact ⟨100, app_14 gl v.X v.Y v.Z⟩
    · exact ⟨100, app_15 gl v.X v.Y v.Z⟩
    · exact ⟨100, app_16 gl v.X v.Y v.Z⟩
    · exact ⟨100, app_17 gl v.X v.Y v.Z⟩
    · exact ⟨100, app_18 gl v.X v.Y v.Z⟩
    · exact ⟨100, app_19 gl v.X v.Y v.Z⟩
    · exact ⟨100, app_20 gl v.X v.Y v.Z⟩
    · exact ⟨100, app_21 gl v.X v.Y v.Z⟩
    · exact ⟨100, app_22 gl v.X v.Y v.Z⟩
    · exact ⟨100, app_23 gl v.X v.Y v.Z⟩
  · cases hd
end Go.Proofs.YtmfgnajlkoafkaaGreatDoor
end
section
namespace Go.Proofs.YtmfgnajlkoafkaaGreatDoor
open Go Go.AM Go.AM.Orient
open Go.AM.Enc (enc dec)
open Go.AM.Row (row ofRow)
set_option maxRecDepth 100000
set_option linter.unusedVariables false
set_option linter.unusedSimpArgs false
noncomputable def prims_C1 (gl : Gb) (f : FuncId) : Option (List D → Option D) := match f with
  | 92 => some p_is
  | 149 => some p_array
  | 196 => some p_vec
  | 98 => some p_add
  | 148 => some p_neg
  | 145 => some p_lengths
  | 140 => some p_inside
  | 99 => some p_overlap
  | 150 => some p_apply
  | _ => none
noncomputable def C1 (gl : Gb) : Cfg := (Cz gl).more (prims_C1 gl)
@[simp] theorem mutS_C1 (gl : Gb) (f s) : (C1 gl).mutS f s = mutTab f s := rfl
@[simp] theorem pureF_C1 (gl : Gb) (f) : (C1 gl).pureF f = true := rfl
@[simp] theorem glob_C1 (gl : Gb) : (C1 gl).glob = gl := rfl
@[simp] theorem C1_p92 (gl : Gb) : (C1 gl).primF 92 = some p_is := rfl
@[simp] theorem C1_p149 (gl : Gb) : (C1 gl).primF 149 = some p_array := rfl
@[simp] theorem C1_p196 (gl : Gb) : (C1 gl).primF 196 = some p_vec := rfl
@[simp] theorem C1_p98 (gl : Gb) : (C1 gl).primF 98 = some p_add := rfl
@[simp] theorem C1_p148 (gl : Gb) : (C1 gl).primF 148 = some p_neg := rfl
@[simp] theorem C1_p145 (gl : Gb) : (C1 gl).primF 145 = some p_lengths := rfl
@[simp] theorem C1_p140 (gl : Gb) : (C1 gl).primF 140 = some p_inside := rfl
@[simp] theorem C1_p99 (gl : Gb) : (C1 gl).primF 99 = some p_overlap := rfl
@[simp] theorem C1_p150 (gl : Gb) : (C1 gl).primF 150 = some p_apply := rfl
theorem C1_ok {gl : Gb} (h : (Cz gl).Ok Tryz.prog) : (C1 gl).Ok Tryz.prog := h.more (by
  intro f gf hf
  unfold prims_C1 at hf
  split at hf
  · simp only [Option.some.injEq] at hf; subst hf; exact does_is
  · simp only [Option.some.injEq] at hf; subst hf; exact does_array
  · simp only [Option.some.injEq] at hf; subst hf; exact does_vec
  · simp only [Option.some.injEq] at hf; subst hf; exact does_add
  · simp only [Option.some.injEq] at hf; subst hf; exact does_neg
  · simp only [Option.some.injEq] at hf; subst hf; exact does_lengths
  · simp only [Option.some.injEq] at hf; subst hf; exact does_inside
  · simp only [Option.some.injEq] at hf; subst hf; exact does_overlap
  · simp only [Option.some.injEq] at hf; subst hf; exact does_apply
  · cases hf)
variable {gl : Gb}
def p_near : List D → Option D := p1 fun (l : List Vec) => if l.length < 1000000 then some (.bool (nears l)) else none
theorem does_near : Does Tryz.prog (C1 gl) 96 p_near := con1 (fun _ => 1000001) fun l hl ic => by
  refine W_body (c := _) Tryz.func96 rfl (by simp [Tryz.f96]) ?_
  simp [Tryz.f96]
  refine W_loop rfl (fun (i : Nat) e h => e 9 = .d (I i) ∧ e 8 = .d (I l.length) ∧ e 7 = .d (.list (l.map row)) ∧ i ≤ l.length ∧ nears (l.take i) = true) (fun i => l.length - i) 0 (by omega) (by simp [nears]) ?_
  rintro i e h ⟨h1, h2, h3, h4, h5⟩
  by_cases hlt : i < l.length
  · simp [h1, h2, h3, hlt, p_array]
    rw [W_loop_iter rfl]
    have hw : IntKind.i64.wrap ((i : Int) + 1) = ((i + 1 : Nat) : Int) := by rw [wrap_i64] <;> omega
    simp [h1, h2, h3, W_iter_succ, hw]
    have hf : nearV l[i] = false → nears l = false := fun h => all_false hlt h
    have ht : nearV l[i] = true → nears (l.take (i + 1)) = true := fun h => take_all hlt h5 h
    simp only [nearV, nearI] at hf ht
    grind
  · obtain rfl : i = l.length := by omega
    simp [h1, h2, h3]
    simpa using h5
def p_result : List D → Option D := p1 fun (v : Vec) => some (enc2 (result v))
def p_compose1 : List D → Option D := p3 fun (v : Vec) (a b : Bx Int) => if okTurn a.v = true ∧ okTurn b.v = true then some (enc (apply a.v (apply b.v v))) else none
theorem does_compose1 : Does Tryz.prog (C1 gl) 194 p_compose1 := con3 (fun _ _ _ => 10) fun v a b hc ic => by
  refine W_body (c := _) Tryz.func194 rfl (by simp [Tryz.f194]) ?_
  simp (config := {decide := true}) [Tryz.f194, p_apply, hc]
theorem findT_some {p : Int → Bool} {i : Nat} (h : i < 24) (hp : p i = true) (hn : ∀ j : Nat, j < i → p j = false) : findT p = i := by
  unfold findT
  have : (List.range 24).find? (fun (k : Nat) => p (k : Int)) = some i := by
    rw [List.find?_range_eq_some]
    exact ⟨hp, by simpa using h, fun j hj => by simp [hn j hj]⟩
  rw [this]
theorem findT_none {p : Int → Bool} (hn : ∀ j : Nat, j < 24 → p j = false) : findT p = -1 := by
  unfold findT
  have : (List.range 24).find? (fun (k : Nat) => p (k : Int)) = none := by
    rw [List.find?_eq_none]; intro x hx; simp at hx; simp [hn x hx]
  rw [this]

def p_image : List D → Option D := p2 fun (n : Int) (b : Box) => if okTurn n = true then some (enc (image n b)) else none
theorem does_image : Does Tryz.prog (C1 gl) 97 p_image := con2 (fun _ _ => 10) fun n b hc ic => by
  refine W_body (c := _) Tryz.func97 rfl (by simp [Tryz.f97]) ?_
  simp (config := {decide := true}) [Tryz.f97, p_apply, hc, image]
noncomputable def prims_C2 (gl : Gb) (f : FuncId) : Option (List D → Option D) := match f with
  | 96 => some p_near
  | 194 => some p_compose1
  | 97 => some p_image
  | _ => none
noncomputable def C2 (gl : Gb) : Cfg := (C1 gl).more (prims_C2 gl)
@[simp] theorem mutS_C2 (gl : Gb) (f s) : (C2 gl).mutS f s = mutTab f s := rfl
@[simp] theorem pureF_C2 (gl : Gb) (f) : (C2 gl).pureF f = true := rfl
@[simp] theorem glob_C2 (gl : Gb) : (C2 gl).glob = gl := rfl
@[simp] theorem C2_p92 (gl : Gb) : (C2 gl).primF 92 = some p_is := rfl
@[simp] theorem C2_p149 (gl : Gb) : (C2 gl).primF 149 = some p_array := rfl
@[simp] theorem C2_p196 (gl : Gb) : (C2 gl).primF 196 = some p_vec := rfl
@[simp] theorem C2_p98 (gl : Gb) : (C2 gl).primF 98 = some p_add := rfl
@[simp] theorem C2_p148 (gl : Gb) : (C2 gl).primF 148 = some p_neg := rfl
@[simp] theorem C2_p145 (gl : Gb) : (C2 gl).primF 145 = some p_lengths := rfl
@[simp] theorem C2_p140 (gl : Gb) : (C2 gl).primF 140 = some p_inside := rfl
@[simp] theorem C2_p99 (gl : Gb) : (C2 gl).primF 99 = some p_overlap := rfl
@[simp] theorem C2_p150 (gl : Gb) : (C2 gl).primF 150 = some p_apply := rfl
@[simp] theorem C2_p96 (gl : Gb) : (C2 gl).primF 96 = some p_near := rfl
@[simp] theorem C2_p194 (gl : Gb) : (C2 gl).primF 194 = some p_compose1 := rfl
@[simp] theorem C2_p97 (gl : Gb) : (C2 gl).primF 97 = some p_image := rfl
theorem C2_ok {gl : Gb} (h : (C1 gl).Ok Tryz.prog) : (C2 gl).Ok Tryz.prog := h.more (by
  intro f gf hf
  unfold prims_C2 at hf
  split at hf
  · simp only [Option.some.injEq] at hf; subst hf; exact does_near
  · simp only [Option.some.injEq] at hf; subst hf; exact does_compose1
  · simp only [Option.some.injEq] at hf; subst hf; exact does_image
  · cases hf)
/-- find, called by compose -/
def p_find : List D → Option D
  | [.fn 194 [] [.ptr [.int .i64 a] 0, .ptr [.int .i64 b] 0]] => if okTurn a = true ∧ okTurn b = true then some (I (compose a b)) else none
  | _ => none
theorem okTurn_nat {i : Nat} (h : i < 24) : okTurn i = true := by simp [okTurn]; omega
theorem does_find : Does Tryz.prog (C2 gl) 193 p_find := by
  intro ds d hd
  unfold p_find at hd
  split at hd
  · rename_i a b
    split at hd
    · rename_i hc
      cases hd
      refine ⟨101, pcall_of ?_⟩
      refine W_body (c := _) Tryz.func193 rfl (by simp [Tryz.f193]) ?_
      simp [Tryz.f193, p_compose1, hc]
      refine W_loop rfl (fun (i : Nat) e h => e 10 = .d (I i) ∧ e 3 = .ref 2 0 ∧ e 4 = .ref 7 0 ∧ h.blk 2 = .cells [.d (I 1), .d (I 2), .d (I 3)] ∧
        h.blk 7 = .cells [.d (I (apply a (apply b probe)).X), .d (I (apply a (apply b probe)).Y), .d (I (apply a (apply b probe)).Z)] ∧ i ≤ 24 ∧ ∀ j : Nat, j < i → apply j probe ≠ apply a (apply b probe)) (fun i => 24 - i) 0 (by omega) (by simp [probe]) ?_
      rintro i e h ⟨h1, h2, h3, h4, h5, h6, h7⟩
      by_cases hlt : i < 24
      · have hw : IntKind.i64.wrap ((i : Int) + 1) = ((i + 1 : Nat) : Int) := by rw [wrap_i64] <;> omega
        have hlt' : (i : Int) < 24 := by omega
        simp (config := {decide := true}) [h1, h2, h3, h4, h5, hlt', p_apply, okTurn_nat hlt, hw]
        refine ⟨fun hx hy hz => ?_, fun hn => ⟨i + 1, by omega, rfl, by omega, fun j hj => ?_⟩⟩
        · have he : apply i probe = apply a (apply b probe) := by
            cases hq : apply i probe; cases hr : apply a (apply b probe)
            simp_all [probe]
          exact (findT_some (p := fun n => decide (apply n probe = apply a (apply b probe))) hlt (by simp [he]) (fun j hj => by simp [h7 j hj])).symm
        · by_cases e : j = i
          · subst e; intro he; simp only [probe] at he hn; rw [he] at hn; exact hn rfl rfl rfl
          · exact h7 j (by omega)
      · obtain rfl : i = 24 := by omega
        simp [h1, h2, h3]
        exact (findT_none (p := fun n => decide (apply n probe = apply a (apply b probe))) (fun j hj => by simp [h7 j hj])).symm
    · cases hd
  · cases hd
noncomputable def prims_C3 (gl : Gb) (f : FuncId) : Option (List D → Option D) := match f with
  | 193 => some p_find
  | _ => none
noncomputable def C3 (gl : Gb) : Cfg := (C2 gl).more (prims_C3 gl)
@[simp] theorem mutS_C3 (gl : Gb) (f s) : (C3 gl).mutS f s = mutTab f s := rfl
@[simp] theorem pureF_C3 (gl : Gb) (f) : (C3 gl).pureF f = true := rfl
@[simp] theorem glob_C3 (gl : Gb) : (C3 gl).glob = gl := rfl
@[simp] theorem C3_p92 (gl : Gb) : (C3 gl).primF 92 = some p_is := rfl
@[simp] theorem C3_p149 (gl : Gb) : (C3 gl).primF 149 = some p_array := rfl
@[simp] theorem C3_p196 (gl : Gb) : (C3 gl).primF 196 = some p_vec := rfl
@[simp] theorem C3_p98 (gl : Gb) : (C3 gl).primF 98 = some p_add := rfl
@[simp] theorem C3_p148 (gl : Gb) : (C3 gl).primF 148 = some p_neg := rfl
@[simp] theorem C3_p145 (gl : Gb) : (C3 gl).primF 145 = some p_lengths := rfl
@[simp] theorem C3_p140 (gl : Gb) : (C3 gl).primF 140 = some p_inside := rfl
@[simp] theorem C3_p99 (gl : Gb) : (C3 gl).primF 99 = some p_overlap := rfl
@[simp] theorem C3_p150 (gl : Gb) : (C3 gl).primF 150 = some p_apply := rfl
@[simp] theorem C3_p96 (gl : Gb) : (C3 gl).primF 96 = some p_near := rfl
@[simp] theorem C3_p194 (gl : Gb) : (C3 gl).primF 194 = some p_compose1 := rfl
@[simp] theorem C3_p97 (gl : Gb) : (C3 gl).primF 97 = some p_image := rfl
@[simp] theorem C3_p193 (gl : Gb) : (C3 gl).primF 193 = some p_find := rfl
theorem C3_ok {gl : Gb} (h : (C2 gl).Ok Tryz.prog) : (C3 gl).Ok Tryz.prog := h.more (by
  intro f gf hf
  unfold prims_C3 at hf
  split at hf
  · simp only [Option.some.injEq] at hf; subst hf; exact does_find
  · cases hf)
def p_compose : List D → Option D := p2 fun (a b : Int) => if okTurn a = true ∧ okTurn b = true then some (I (compose a b)) else none
theorem does_compose : Does Tryz.prog (C3 gl) 147 p_compose := con2 (fun _ _ => 10) fun a b hc ic => by
  refine W_body (c := _) Tryz.func147 rfl (by simp [Tryz.f147]) ?_
  simp [Tryz.f147, p_find, hc]
noncomputable def prims_C4 (gl : Gb) (f : FuncId) : Option (List D → Option D) := match f with
  | 147 => some p_compose
  | _ => none
noncomputable def C4 (gl : Gb) : Cfg := (C3 gl).more (prims_C4 gl)
@[simp] theorem mutS_C4 (gl : Gb) (f s) : (C4 gl).mutS f s = mutTab f s := rfl
@[simp] theorem pureF_C4 (gl : Gb) (f) : (C4 gl).pureF f = true := rfl
@[simp] theorem glob_C4 (gl : Gb) : (C4 gl).glob = gl := rfl
@[simp] theorem C4_p92 (gl : Gb) : (C4 gl).primF 92 = some p_is := rfl
@[simp] theorem C4_p149 (gl : Gb) : (C4 gl).primF 149 = some p_array := rfl
@[simp] theorem C4_p196 (gl : Gb) : (C4 gl).primF 196 = some p_vec := rfl
@[simp] theorem C4_p98 (gl : Gb) : (C4 gl).primF 98 = some p_add := rfl
@[simp] theorem C4_p148 (gl : Gb) : (C4 gl).primF 148 = some p_neg := rfl
@[simp] theorem C4_p145 (gl : Gb) : (C4 gl).primF 145 = some p_lengths := rfl
@[simp] theorem C4_p140 (gl : Gb) : (C4 gl).primF 140 = some p_inside := rfl
@[simp] theorem C4_p99 (gl : Gb) : (C4 gl).primF 99 = some p_overlap := rfl
@[simp] theorem C4_p150 (gl : Gb) : (C4 gl).primF 150 = some p_apply := rfl
@[simp] theorem C4_p96 (gl : Gb) : (C4 gl).primF 96 = some p_near := rfl
@[simp] theorem C4_p194 (gl : Gb) : (C4 gl).primF 194 = some p_compose1 := rfl
@[simp] theorem C4_p97 (gl : Gb) : (C4 gl).primF 97 = some p_image := rfl
@[simp] theorem C4_p193 (gl : Gb) : (C4 gl).primF 193 = some p_find := rfl
@[simp] theorem C4_p147 (gl : Gb) : (C4 gl).primF 147 = some p_compose := rfl
theorem C4_ok {gl : Gb} (h : (C3 gl).Ok Tryz.prog) : (C4 gl).Ok Tryz.prog := h.more (by
  intro f gf hf
  unfold prims_C4 at hf
  split at hf
  · simp only [Option.some.injEq] at hf; subst hf; exact does_compose
  · cases hf)
def p_invert : List D → Option D := p1 fun (a : Int) => if okTurn a = true then some (I (invert a)) else none
theorem does_invert : Does Tryz.prog (C4 gl) 93 p_invert := con1 (fun _ => 100) fun a hc ic => by
  refine W_body (c := _) Tryz.func93 rfl (by simp [Tryz.f93]) ?_
  simp [Tryz.f93]
  refine W_loop rfl (fun (i : Nat) e h => e 4 = .d (I i) ∧ e 0 = .d (I a) ∧ i ≤ 24 ∧ ∀ j : Nat, j < i → compose j a ≠ 0) (fun i => 24 - i) 0 (by omega) (by simp) ?_
  rintro i e h ⟨h1, h2, h3, h4⟩
  by_cases hlt : i < 24
  · have hw : IntKind.i64.wrap ((i : Int) + 1) = ((i + 1 : Nat) : Int) := by rw [wrap_i64] <;> omega
    have hlt' : (i : Int) < 24 := by omega
    simp [h1, h2, hlt', p_compose, okTurn_nat hlt, hw, hc]
    refine ⟨fun he => (findT_some (p := fun k => decide (compose k a = 0)) hlt (by simp [he]) (fun j hj => by simp [h4 j hj])).symm, fun hn => ⟨i + 1, by omega, rfl, by omega, fun j hj => ?_⟩⟩
    by_cases e : j = i
    · subst e; exact hn
    · exact h4 j (by omega)
  · obtain rfl : i = 24 := by omega
    simp [h1, h2]
    exact (findT_none (p := fun k => decide (compose k a = 0)) (fun j hj => by simp [h4 j hj])).symm
theorem does_result : Does Tryz.prog (C4 gl) 190 p_result := tot1 (fun _ => 10) fun v ic => by
  refine W_body (c := _) Tryz.func190 rfl (by simp [Tryz.f190]) ?_
  by_cases h : nearV v = true
  · simp [Tryz.f190, p_near, result, nears, zeroV, h]
  · simp [Tryz.f190, p_near, result, nears, zeroV, h]
def p_turned : List D → Option D := p2 fun (n : Int) (s : Vec) => if okTurn n = true then some (enc (turned n s)) else none
theorem does_turned : Does Tryz.prog (C4 gl) 95 p_turned := con2 (fun _ _ => 10) fun n s hc ic => by
  refine W_body (c := _) Tryz.func95 rfl (by simp [Tryz.f95]) ?_
  simp (config := {decide := true}) [Tryz.f95, p_image, p_neg, p_add, turned, hc, zeroV]
def p_sized : List D → Option D := p1 fun (l : List Vec) => if l.length < 1000000 then some (.bool (sized l)) else none
theorem does_sized : Does Tryz.prog (C4 gl) 94 p_sized := con1 (fun _ => 1000001) fun l hl ic => by
  refine W_body (c := _) Tryz.func94 rfl (by simp [Tryz.f94]) ?_
  simp [Tryz.f94]
  refine W_loop rfl (fun (i : Nat) e h => e 7 = .d (I i) ∧ e 6 = .d (I l.length) ∧ e 5 = .d (.list (l.map row)) ∧ i ≤ l.length ∧ sized (l.take i) = true) (fun i => l.length - i) 0 (by omega) (by simp [sized]) ?_
  rintro i e h ⟨h1, h2, h3, h4, h5⟩
  by_cases hlt : i < l.length
  · have hw : IntKind.i64.wrap ((i : Int) + 1) = ((i + 1 : Nat) : Int) := by rw [wrap_i64] <;> omega
    have hf : sizedV l[i] = false → sized l = false := fun h => all_false hlt h
    have ht : sizedV l[i] = true → sized (l.take (i + 1)) = true := fun h => take_all hlt h5 h
    simp [h1, h2, h3, hlt, p_near, nears, hw]
    simp only [sizedV] at hf ht
    grind
  · obtain rfl : i = l.length := by omega
    simp [h1, h2, h3]
    simpa using h5
noncomputable def prims_C5 (gl : Gb) (f : FuncId) : Option (List D → Option D) := match f with
  | 93 => some p_invert
  | 190 => some p_result
  | 95 => some p_turned
  | 94 => some p_sized
  | _ => none
noncomputable def C5 (gl : Gb) : Cfg := (C4 gl).more (prims_C5 gl)
@[simp] theorem mutS_C5 (gl : Gb) (f s) : (C5 gl).mutS f s = mutTab f s := rfl
@[simp] theorem pureF_C5 (gl : Gb) (f) : (C5 gl).pureF f = true := rfl
@[simp] theorem glob_C5 (gl : Gb) : (C5 gl).glob = gl := rfl
@[simp] theorem C5_p92 (gl : Gb) : (C5 gl).primF 92 = some p_is := rfl
@[simp] theorem C5_p149 (gl : Gb) : (C5 gl).primF 149 = some p_array := rfl
@[simp] theorem C5_p196 (gl : Gb) : (C5 gl).primF 196 = some p_vec := rfl
@[simp] theorem C5_p98 (gl : Gb) : (C5 gl).primF 98 = some p_add := rfl
@[simp] theorem C5_p148 (gl : Gb) : (C5 gl).primF 148 = some p_neg := rfl
@[simp] theorem C5_p145 (gl : Gb) : (C5 gl).primF 145 = some p_lengths := rfl
@[simp] theorem C5_p140 (gl : Gb) : (C5 gl).primF 140 = some p_inside := rfl
@[simp] theorem C5_p99 (gl : Gb) : (C5 gl).primF 99 = some p_overlap := rfl
@[simp] theorem C5_p150 (gl : Gb) : (C5 gl).primF 150 = some p_apply := rfl
@[simp] theorem C5_p96 (gl : Gb) : (C5 gl).primF 96 = some p_near := rfl
@[simp] theorem C5_p194 (gl : Gb) : (C5 gl).primF 194 = some p_compose1 := rfl
@[simp] theorem C5_p97 (gl : Gb) : (C5 gl).primF 97 = some p_image := rfl
@[simp] theorem C5_p193 (gl : Gb) : (C5 gl).primF 193 = some p_find := rfl
@[simp] theorem C5_p147 (gl : Gb) : (C5 gl).primF 147 = some p_compose := rfl
@[simp] theorem C5_p93 (gl : Gb) : (C5 gl).primF 93 = some p_invert := rfl
@[simp] theorem C5_p190 (gl : Gb) : (C5 gl).primF 190 = some p_result := rfl
@[simp] theorem C5_p95 (gl : Gb) : (C5 gl).primF 95 = some p_turned := rfl
@[simp] theorem C5_p94 (gl : Gb) : (C5 gl).primF 94 = some p_sized := rfl
theorem C5_ok {gl : Gb} (h : (C4 gl).Ok Tryz.prog) : (C5 gl).Ok Tryz.prog := h.more (by
  intro f gf hf
  unfold prims_C5 at hf
  split at hf
  · simp only [Option.some.injEq] at hf; subst hf; exact does_invert
  · simp only [Option.some.injEq] at hf; subst hf; exact does_result
  · simp only [Option.some.injEq] at hf; subst hf; exact does_turned
  · simp only [Option.some.injEq] at hf; subst hf; exact does_sized
  · cases hf)
end Go.Proofs.YtmfgnajlkoafkaaGreatDoor
end
section
namespace Go.Proofs.YtmfgnajlkoafkaaGreatDoor
open Go Go.AM Go.AM.Orient
open Go.AM.Enc (enc dec)
open Go.AM.Row (row ofRow)
set_option maxRecDepth 100000
set_option linter.unusedVariables false
set_option linter.unusedSimpArgs false
variable {gl : Gb}
def p_Invert : List D → Option D := p1 fun (n : Int) => some (enc2 (invertE n))
theorem does_Invert : Does Tryz.prog (C5 gl) 38 p_Invert := tot1 (fun _ => 10) fun n ic => by
  refine W_body (c := _) Tryz.func38 rfl (by simp [Tryz.f38]) ?_
  by_cases h : okTurn n = true
  · simp [Tryz.f38, p_is, p_invert, okTurns, invertE, h]
  · simp [Tryz.f38, p_is, p_invert, okTurns, invertE, h]
def p_Size : List D → Option D := p2 fun (n : Int) (s : Vec) => some (enc2 (size n s))
theorem does_Size : Does Tryz.prog (C5 gl) 39 p_Size := tot2 (fun _ _ => 10) fun n s ic => by
  refine W_body (c := _) Tryz.func39 rfl (by simp [Tryz.f39]) ?_
  by_cases h : okTurn n = true <;> by_cases h2 : sizedV s = true
  all_goals
    simp [Tryz.f39, p_is, p_sized, p_turned, okTurns, sized, size, h, h2, zeroV]
def p_Box : List D → Option D := p2 fun (p : Pose) (b : Box) => some (enc2 (boxOf p b))
theorem does_Box : Does Tryz.prog (C5 gl) 41 p_Box := tot2 (fun _ _ => 10) fun p b ic => by
  refine W_body (c := _) Tryz.func41 rfl (by simp [Tryz.f41]) ?_
  by_cases h : okTurn p.Turn = true
  · by_cases h2 : (nearV b.Min && nearV b.Max) = true
    · by_cases h4 : bad b = true
      · have h5 : boxOf p b = (zeroB, 1) := by simp [boxOf, h4]
        simp [bad] at h4
        simp at h2
        simp (config := {decide := true}) [Tryz.f41, p_is, p_near, p_image, p_add, okTurns, nears, h, h2, h5, zeroB, zeroV]
        omega
      · have h4' := h4
        simp [bad] at h4'
        simp at h2
        by_cases h5 : nearV p.Shift = true
        · by_cases h6 : (nearV (add (image p.Turn b).Min p.Shift) && nearV (add (image p.Turn b).Max p.Shift)) = true
          · have h7 : boxOf p b = (shift (image p.Turn b) p.Shift, 0) := by simp [boxOf, h4, h, h2, h5, shift]; simpa using h6
            simp at h6
            have e1 : ¬ b.Max.X ≤ b.Min.X := by omega
            have e2 : ¬ b.Max.Y ≤ b.Min.Y := by omega
            have e3 : ¬ b.Max.Z ≤ b.Min.Z := by omega
            simp (config := {decide := true}) [Tryz.f41, p_is, p_near, p_image, p_add, okTurns, nears, h, h2, h5, h6, h7, zeroB, zeroV, shift, e1, e2, e3]
          · have h7 : boxOf p b = (zeroB, 6) := by simp [boxOf, h4, h, h2, h5, shift]; simpa using h6
            have h6' := h6
            simp at h6'
            have e1 : ¬ b.Max.X ≤ b.Min.X := by omega
            have e2 : ¬ b.Max.Y ≤ b.Min.Y := by omega
            have e3 : ¬ b.Max.Z ≤ b.Min.Z := by omega
            simp (config := {decide := true}) [Tryz.f41, p_is, p_near, p_image, p_add, okTurns, nears, h, h2, h5, h7, zeroB, zeroV, shift, e1, e2, e3]
            intro a; exact h6' a
        · have h7 : boxOf p b = (zeroB, 6) := by simp [boxOf, h4, h, h2, h5]
          have e1 : ¬ b.Max.X ≤ b.Min.X := by omega
          have e2 : ¬ b.Max.Y ≤ b.Min.Y := by omega
          have e3 : ¬ b.Max.Z ≤ b.Min.Z := by omega
          simp (config := {decide := true}) [Tryz.f41, p_is, p_near, p_image, p_add, okTurns, nears, h, h2, h5, h7, zeroB, zeroV, shift, e1, e2, e3]
    · have h5 : boxOf p b = (zeroB, 1) := by simp [boxOf]; intro _ a b; simp [a, b] at h2
      have h2' : nearV b.Min = true → nearV b.Max = false := by simpa using h2
      simp (config := {decide := true}) [Tryz.f41, p_is, p_near, p_image, p_add, okTurns, nears, h, h5, zeroB, zeroV]
      exact ⟨fun _ a b => absurd b (by simp [h2' a]), fun a b => absurd b (by simp [h2' a])⟩
  · have h5 : boxOf p b = (zeroB, 1) := by simp [boxOf, h]
    simp (config := {decide := true}) [Tryz.f41, p_is, p_near, p_image, p_add, okTurns, nears, h, h5, zeroB, zeroV]
def p_Join : List D → Option D := p2 fun (a b : Pose) => some (enc2 (join a b))
theorem does_Join : Does Tryz.prog (C5 gl) 142 p_Join := tot2 (fun _ _ => 10) fun a b ic => by
  refine W_body (c := _) Tryz.func142 rfl (by simp [Tryz.f142]) ?_
  by_cases h1 : okTurn a.Turn = true <;> by_cases h2 : okTurn b.Turn = true <;> by_cases h3 : nearV a.Shift = true <;> by_cases h4 : nearV b.Shift = true
  case pos =>
    by_cases h5 : nearV (add (apply a.Turn b.Shift) a.Shift) = true
    all_goals simp (config := {decide := true}) [Tryz.f142, p_is, p_near, p_apply, p_add, p_compose, p_result, result, join, okTurns, nears, h1, h2, h3, h4, h5, zeroP, zeroV]
  all_goals simp (config := {decide := true}) [Tryz.f142, p_is, p_near, p_apply, p_add, p_compose, p_result, join, okTurns, nears, h1, h2, h3, h4, zeroP, zeroV]
def p_Place : List D → Option D := p3 fun (n : Int) (s a : Vec) => some (enc2 (place n s a))
theorem does_Place : Does Tryz.prog (C5 gl) 187 p_Place := tot3 (fun _ _ _ => 10) fun n s a ic => by
  refine W_body (c := _) Tryz.func187 rfl (by simp [Tryz.f187]) ?_
  by_cases h1 : okTurn n = true <;> by_cases h2 : sizedV s = true <;> by_cases h3 : nearV a = true
  case pos =>
    by_cases h5 : nearV (add a (neg (image n ⟨zeroV, s⟩).Min)) = true <;> by_cases h6 : nearV (add a (turned n s)) = true
    all_goals
      simp only [zeroV] at h5
      simp (config := {decide := true}) [Tryz.f187, p_is, p_near, p_image, p_add, p_neg, p_turned, p_sized, place, okTurns, sized, nears, h1, h2, h3, h5, h6, zeroP, zeroV]
  all_goals simp (config := {decide := true}) [Tryz.f187, p_is, p_near, p_image, p_add, p_neg, p_turned, p_sized, place, okTurns, sized, nears, h1, h2, h3, zeroP, zeroV]
noncomputable def prims_C6 (gl : Gb) (f : FuncId) : Option (List D → Option D) := match f with
  | 38 => some p_Invert
  | 39 => some p_Size
  | 41 => some p_Box
  | 142 => some p_Join
  | 187 => some p_Place
  | _ => none
noncomputable def C6 (gl : Gb) : Cfg := (C5 gl).more (prims_C6 gl)
@[simp] theorem mutS_C6 (gl : Gb) (f s) : (C6 gl).mutS f s = mutTab f s := rfl
@[simp] theorem pureF_C6 (gl : Gb) (f) : (C6 gl).pureF f = true := rfl
@[simp] theorem glob_C6 (gl : Gb) : (C6 gl).glob = gl := rfl
@[simp] theorem C6_p92 (gl : Gb) : (C6 gl).primF 92 = some p_is := rfl
@[simp] theorem C6_p149 (gl : Gb) : (C6 gl).primF 149 = some p_array := rfl
@[simp] theorem C6_p196 (gl : Gb) : (C6 gl).primF 196 = some p_vec := rfl
@[simp] theorem C6_p98 (gl : Gb) : (C6 gl).primF 98 = some p_add := rfl
@[simp] theorem C6_p148 (gl : Gb) : (C6 gl).primF 148 = some p_neg := rfl
@[simp] theorem C6_p145 (gl : Gb) : (C6 gl).primF 145 = some p_lengths := rfl
@[simp] theorem C6_p140 (gl : Gb) : (C6 gl).primF 140 = some p_inside := rfl
@[simp] theorem C6_p99 (gl : Gb) : (C6 gl).primF 99 = some p_overlap := rfl
@[simp] theorem C6_p150 (gl : Gb) : (C6 gl).primF 150 = some p_apply := rfl
@[simp] theorem C6_p96 (gl : Gb) : (C6 gl).primF 96 = some p_near := rfl
@[simp] theorem C6_p194 (gl : Gb) : (C6 gl).primF 194 = some p_compose1 := rfl
@[simp] theorem C6_p97 (gl : Gb) : (C6 gl).primF 97 = some p_image := rfl
@[simp] theorem C6_p193 (gl : Gb) : (C6 gl).primF 193 = some p_find := rfl
@[simp] theorem C6_p147 (gl : Gb) : (C6 gl).primF 147 = some p_compose := rfl
@[simp] theorem C6_p93 (gl : Gb) : (C6 gl).primF 93 = some p_invert := rfl
@[simp] theorem C6_p190 (gl : Gb) : (C6 gl).primF 190 = some p_result := rfl
@[simp] theorem C6_p95 (gl : Gb) : (C6 gl).primF 95 = some p_turned := rfl
@[simp] theorem C6_p94 (gl : Gb) : (C6 gl).primF 94 = some p_sized := rfl
@[simp] theorem C6_p38 (gl : Gb) : (C6 gl).primF 38 = some p_Invert := rfl
@[simp] theorem C6_p39 (gl : Gb) : (C6 gl).primF 39 = some p_Size := rfl
@[simp] theorem C6_p41 (gl : Gb) : (C6 gl).primF 41 = some p_Box := rfl
@[simp] theorem C6_p142 (gl : Gb) : (C6 gl).primF 142 = some p_Join := rfl
@[simp] theorem C6_p187 (gl : Gb) : (C6 gl).primF 187 = some p_Place := rfl
theorem C6_ok {gl : Gb} (h : (C5 gl).Ok Tryz.prog) : (C6 gl).Ok Tryz.prog := h.more (by
  intro f gf hf
  unfold prims_C6 at hf
  split at hf
  · simp only [Option.some.injEq] at hf; subst hf; exact does_Invert
  · simp only [Option.some.injEq] at hf; subst hf; exact does_Size
  · simp only [Option.some.injEq] at hf; subst hf; exact does_Box
  · simp only [Option.some.injEq] at hf; subst hf; exact does_Join
  · simp only [Option.some.injEq] at hf; subst hf; exact does_Place
  · cases hf)
end Go.Proofs.YtmfgnajlkoafkaaGreatDoor
end
section
namespace Go.Proofs.YtmfgnajlkoafkaaGreatDoor
open Go Go.AM Go.AM.Orient
open Go.AM.Enc (enc dec)
open Go.AM.Row (row ofRow)
set_option maxRecDepth 100000
set_option linter.unusedVariables false
set_option linter.unusedSimpArgs false
variable {gl : Gb}
def p_sizeOf : List D → Option D := p1 fun (p : Piece) => some (enc2 (Lineage.sizeOf p))
theorem does_sizeOf : Does Tryz.prog (C6 gl) 125 p_sizeOf := tot1 (fun _ => 10) fun p ic => by
  refine W_body (c := _) Tryz.func125 rfl (by simp [Tryz.f125]) ?_
  by_cases h : okTurn p.Pose.Turn = true
  · simp (config := {decide := true}) [Tryz.f125, p_Invert, p_Size, p_lengths, invertE, Lineage.sizeOf, h]
  · simp (config := {decide := true}) [Tryz.f125, p_Invert, p_Size, p_lengths, invertE, Lineage.sizeOf, h, zeroV]
noncomputable def prims_C7 (gl : Gb) (f : FuncId) : Option (List D → Option D) := match f with
  | 125 => some p_sizeOf
  | _ => none
noncomputable def C7 (gl : Gb) : Cfg := (C6 gl).more (prims_C7 gl)
@[simp] theorem mutS_C7 (gl : Gb) (f s) : (C7 gl).mutS f s = mutTab f s := rfl
@[simp] theorem pureF_C7 (gl : Gb) (f) : (C7 gl).pureF f = true := rfl
@[simp] theorem glob_C7 (gl : Gb) : (C7 gl).glob = gl := rfl
@[simp] theorem C7_p92 (gl : Gb) : (C7 gl).primF 92 = some p_is := rfl
@[simp] theorem C7_p149 (gl : Gb) : (C7 gl).primF 149 = some p_array := rfl
@[simp] theorem C7_p196 (gl : Gb) : (C7 gl).primF 196 = some p_vec := rfl
@[simp] theorem C7_p98 (gl : Gb) : (C7 gl).primF 98 = some p_add := rfl
@[simp] theorem C7_p148 (gl : Gb) : (C7 gl).primF 148 = some p_neg := rfl
@[simp] theorem C7_p145 (gl : Gb) : (C7 gl).primF 145 = some p_lengths := rfl
@[simp] theorem C7_p140 (gl : Gb) : (C7 gl).primF 140 = some p_inside := rfl
@[simp] theorem C7_p99 (gl : Gb) : (C7 gl).primF 99 = some p_overlap := rfl
@[simp] theorem C7_p150 (gl : Gb) : (C7 gl).primF 150 = some p_apply := rfl
@[simp] theorem C7_p96 (gl : Gb) : (C7 gl).primF 96 = some p_near := rfl
@[simp] theorem C7_p194 (gl : Gb) : (C7 gl).primF 194 = some p_compose1 := rfl
@[simp] theorem C7_p97 (gl : Gb) : (C7 gl).primF 97 = some p_image := rfl
@[simp] theorem C7_p193 (gl : Gb) : (C7 gl).primF 193 = some p_find := rfl
@[simp] theorem C7_p147 (gl : Gb) : (C7 gl).primF 147 = some p_compose := rfl
@[simp] theorem C7_p93 (gl : Gb) : (C7 gl).primF 93 = some p_invert := rfl
@[simp] theorem C7_p190 (gl : Gb) : (C7 gl).primF 190 = some p_result := rfl
@[simp] theorem C7_p95 (gl : Gb) : (C7 gl).primF 95 = some p_turned := rfl
@[simp] theorem C7_p94 (gl : Gb) : (C7 gl).primF 94 = some p_sized := rfl
@[simp] theorem C7_p38 (gl : Gb) : (C7 gl).primF 38 = some p_Invert := rfl
@[simp] theorem C7_p39 (gl : Gb) : (C7 gl).primF 39 = some p_Size := rfl
@[simp] theorem C7_p41 (gl : Gb) : (C7 gl).primF 41 = some p_Box := rfl
@[simp] theorem C7_p142 (gl : Gb) : (C7 gl).primF 142 = some p_Join := rfl
@[simp] theorem C7_p187 (gl : Gb) : (C7 gl).primF 187 = some p_Place := rfl
@[simp] theorem C7_p125 (gl : Gb) : (C7 gl).primF 125 = some p_sizeOf := rfl
theorem C7_ok {gl : Gb} (h : (C6 gl).Ok Tryz.prog) : (C7 gl).Ok Tryz.prog := h.more (by
  intro f gf hf
  unfold prims_C7 at hf
  split at hf
  · simp only [Option.some.injEq] at hf; subst hf; exact does_sizeOf
  · cases hf)
theorem pose_ext {a b : Pose} (h1 : a.Turn = b.Turn) (h2 : a.Shift.X = b.Shift.X) (h3 : a.Shift.Y = b.Shift.Y) (h4 : a.Shift.Z = b.Shift.Z) : a = b := by
  cases a; rename_i t s; cases s; cases b; rename_i t s; cases s; simp_all
def p_right : List D → Option D := p1 fun (p : Piece) => some (.bool (Lineage.right p))
theorem does_right : Does Tryz.prog (C7 gl) 139 p_right := tot1 (fun _ => 10) fun p ic => by
  refine W_body (c := _) Tryz.func139 rfl (by simp [Tryz.f139]) ?_
  by_cases h1 : (boxOf zeroP p.Box).2 = 0
  · have h1' := h1
    simp only [zeroP, zeroV] at h1'
    by_cases h2 : (Lineage.sizeOf p).2 = true
    · simp (config := {decide := true}) [Tryz.f139, p_Box, p_sizeOf, p_Place, Lineage.right, h1, h1', h2]
      by_cases h3 : (place p.Pose.Turn (Lineage.sizeOf p).1 p.Box.Min).2 = 0
      · simp [h3]
        rw [Bool.eq_iff_iff]
        simp
        constructor
        · skip
          rintro ⟨⟨⟨a, b⟩, c⟩, d⟩; exact pose_ext a b c d
        · intro e; rw [e]; simp
      · simp [h3]
    · simp (config := {decide := true}) [Tryz.f139, p_Box, p_sizeOf, p_Place, Lineage.right, h1, h1', h2]
  · have h1' := h1
    simp only [zeroP, zeroV] at h1'
    simp (config := {decide := true}) [Tryz.f139, p_Box, p_sizeOf, p_Place, Lineage.right, h1, h1']
end Go.Proofs.YtmfgnajlkoafkaaGreatDoor
end
