/- The reference's ids and names, a lineage's order and error, places. The reference's ids, its first error of a lineage, its poses and places. -/
import Derived.Test.YtmfgnajlkoafkaaGreatDoorZTt
import Derived.Test.YtmfgnajlkoafkaaGreatDoorMe
set_option linter.all false
set_option maxHeartbeats 2000000
section
namespace Go.Proofs.YtmfgnajlkoafkaaGreatDoor
open Go Go.AM Go.AM.Orient Go.AM.Lineage
open Go.AM.Enc (enc dec)
open Go.AM.Row (row ofRow)
set_option maxRecDepth 100000
set_option linter.unusedVariables false
set_option linter.unusedSimpArgs false
variable {gl : Gb}
def p_digit : List D → Option D := p1 fun (c : U8) => some (.bool (digitI c.v))
def letterI (c : Int) : Bool := lowerI c || upperI c
def p_letter : List D → Option D := p1 fun (c : U8) => some (.bool (letterI c.v))
theorem does_digit : Does Tryz.prog (C32 gl) 242 p_digit := tot1 (fun _ => 10) fun c ic => by
  refine W_body (c := _) Tryz.func242 rfl (by simp [Tryz.f242]) ?_
  simp (config := {decide := true, implicitDefEqProofs := false}) [Tryz.f242, digitI]
  grind
theorem does_letter : Does Tryz.prog (C32 gl) 173 p_letter := tot1 (fun _ => 10) fun c ic => by
  refine W_body (c := _) Tryz.func173 rfl (by simp [Tryz.f173]) ?_
  simp (config := {decide := true, implicitDefEqProofs := false}) [Tryz.f173, letterI, lowerI, upperI]
  grind
def indexR (l : List Piece) (n : Nat) (id : Str) : Int := match idxK id (idsTo l n) with
  | some k => (k : Int)
  | none => -1
theorem mem_idsTo {l : List Piece} {n : Nat} {id : Str} : id ∈ idsTo l n ↔ ∃ j, ∃ h : j < l.length, j < n ∧ l[j].Id = id := by
  unfold idsTo
  constructor
  · intro h
    obtain ⟨p, hp, rfl⟩ := List.mem_map.1 h
    obtain ⟨j, hj, rfl⟩ := List.getElem_of_mem hp
    simp at hj
    exact ⟨j, by omega, by omega, by simp⟩
  · rintro ⟨j, hj, hn, rfl⟩
    refine List.mem_map.2 ⟨l[j], ?_, rfl⟩
    rw [List.mem_iff_getElem]
    exact ⟨j, by simp; omega, by simp⟩
theorem idx_first {l : List Piece} {i n : Nat} {id : Str} (hi : i < n) (hn : n ≤ l.length) (h : (l[i]'(by omega)).Id = id) (hb : ∀ j (hj : j < i), (l[j]'(by omega)).Id ≠ id) : idxK id (idsTo l n) = some i := by
  unfold idxK
  rw [List.findIdx?_eq_some_iff_getElem]
  refine ⟨by rw [idsTo_length hn]; exact hi, by simp [idsTo, h], fun j hj => ?_⟩
  have := hb j hj
  simp [idsTo]
  exact fun e => this e.symm
def p_index : List D → Option D := p3 fun (l : List Piece) (n : Int) (id : Str) => if 0 ≤ n ∧ n ≤ l.length ∧ l.length < 1000000 then some (I (indexR l n.toNat id)) else none
theorem does_index : Does Tryz.prog (C32 gl) 76 p_index := con3 (fun _ _ _ => 1000001) fun l n id hc ic => by
  obtain ⟨h1, h2, h3⟩ := hc
  obtain ⟨n, rfl⟩ := Int.eq_ofNat_of_zero_le h1
  have hnl : n ≤ l.length := by omega
  refine W_body (c := _) Tryz.func76 rfl (by simp [Tryz.f76]) ?_
  simp (config := {decide := true, implicitDefEqProofs := false}) [Tryz.f76]
  refine W_loop rfl (fun (i : Nat) e h => e 7 = .d (I i) ∧ e 0 = .d (.list (l.map row)) ∧ e 1 = .d (I n) ∧ e 2 = .d (.str id) ∧ i ≤ n ∧ ∀ j (hj : j < i) (hl : j < l.length), l[j].Id ≠ id) (fun i => n - i) 0 (by omega) (by simp) ?_
  rintro i e h ⟨g1, g2, g3, g4, g5, g6⟩
  by_cases hlt : i < n
  · have hw : IntKind.i64.wrap ((i : Int) + 1) = ((i + 1 : Nat) : Int) := by rw [wrap_i64] <;> omega
    have hil : i < l.length := by omega
    by_cases he : l[i].Id = id
    · have hr : indexR l n id = i := by
        unfold indexR; rw [idx_first hlt hnl he (fun j hj => g6 j hj (by omega))]
      have he2 : id = l[i].Id := he.symm
      subst he2
      simp (config := {decide := true, implicitDefEqProofs := false}) [g1, g2, g3, g4, hlt, hil, hw, hr]
    · simp (config := {decide := true, implicitDefEqProofs := false}) [g1, g2, g3, g4, hlt, hil, hw, he]
      refine ⟨i + 1, by omega, rfl, by omega, fun j hj hl => ?_⟩
      by_cases e : j = i
      · subst e; exact he
      · exact g6 j (by omega) hl
  · obtain rfl : i = n := by omega
    have hr : indexR l i id = -1 := by
      unfold indexR
      have : idxK id (idsTo l i) = none := by
        rw [idxK_none, mem_idsTo]
        rintro ⟨j, hj, hn, e⟩
        exact g6 j hn hj e
      rw [this]
    simp (config := {decide := true, implicitDefEqProofs := false}) [g1, g2, g3, g4, hr]
noncomputable def prims_C33 (gl : Gb) (f : FuncId) : Option (List D → Option D) := match f with
  | 77 => some p_RRight
  | 242 => some p_digit
  | 173 => some p_letter
  | 76 => some p_index
  | _ => none
noncomputable def C33 (gl : Gb) : Cfg := (C32 gl).more (prims_C33 gl)
@[simp] theorem mutS_C33 (gl : Gb) (f s) : (C33 gl).mutS f s = mutTab f s := rfl
@[simp] theorem pureF_C33 (gl : Gb) (f) : (C33 gl).pureF f = true := rfl
@[simp] theorem glob_C33 (gl : Gb) : (C33 gl).glob = gl := rfl
@[simp] theorem C33_p92 (gl : Gb) : (C33 gl).primF 92 = some p_is := rfl
@[simp] theorem C33_p149 (gl : Gb) : (C33 gl).primF 149 = some p_array := rfl
@[simp] theorem C33_p196 (gl : Gb) : (C33 gl).primF 196 = some p_vec := rfl
@[simp] theorem C33_p98 (gl : Gb) : (C33 gl).primF 98 = some p_add := rfl
@[simp] theorem C33_p148 (gl : Gb) : (C33 gl).primF 148 = some p_neg := rfl
@[simp] theorem C33_p145 (gl : Gb) : (C33 gl).primF 145 = some p_lengths := rfl
@[simp] theorem C33_p140 (gl : Gb) : (C33 gl).primF 140 = some p_inside := rfl
@[simp] theorem C33_p99 (gl : Gb) : (C33 gl).primF 99 = some p_overlap := rfl
@[simp] theorem C33_p150 (gl : Gb) : (C33 gl).primF 150 = some p_apply := rfl
@[simp] theorem C33_p96 (gl : Gb) : (C33 gl).primF 96 = some p_near := rfl
@[simp] theorem C33_p194 (gl : Gb) : (C33 gl).primF 194 = some p_compose1 := rfl
@[simp] theorem C33_p97 (gl : Gb) : (C33 gl).primF 97 = some p_image := rfl
@[simp] theorem C33_p193 (gl : Gb) : (C33 gl).primF 193 = some p_find := rfl
@[simp] theorem C33_p147 (gl : Gb) : (C33 gl).primF 147 = some p_compose := rfl
@[simp] theorem C33_p93 (gl : Gb) : (C33 gl).primF 93 = some p_invert := rfl
@[simp] theorem C33_p190 (gl : Gb) : (C33 gl).primF 190 = some p_result := rfl
@[simp] theorem C33_p95 (gl : Gb) : (C33 gl).primF 95 = some p_turned := rfl
@[simp] theorem C33_p94 (gl : Gb) : (C33 gl).primF 94 = some p_sized := rfl
@[simp] theorem C33_p38 (gl : Gb) : (C33 gl).primF 38 = some p_Invert := rfl
@[simp] theorem C33_p39 (gl : Gb) : (C33 gl).primF 39 = some p_Size := rfl
@[simp] theorem C33_p41 (gl : Gb) : (C33 gl).primF 41 = some p_Box := rfl
@[simp] theorem C33_p142 (gl : Gb) : (C33 gl).primF 142 = some p_Join := rfl
@[simp] theorem C33_p187 (gl : Gb) : (C33 gl).primF 187 = some p_Place := rfl
@[simp] theorem C33_p125 (gl : Gb) : (C33 gl).primF 125 = some p_sizeOf := rfl
@[simp] theorem C33_p139 (gl : Gb) : (C33 gl).primF 139 = some p_right := rfl
@[simp] theorem C33_p182 (gl : Gb) : (C33 gl).primF 182 = some p_Split := rfl
@[simp] theorem C33_p114 (gl : Gb) : (C33 gl).primF 114 = some p_Itoa := rfl
@[simp] theorem C33_p131 (gl : Gb) : (C33 gl).primF 131 = some p_Atoi := rfl
@[simp] theorem C33_p316 (gl : Gb) : (C33 gl).primF 316 = some p_classes := rfl
@[simp] theorem C33_p252 (gl : Gb) : (C33 gl).primF 252 = some p_inner := rfl
@[simp] theorem C33_p251 (gl : Gb) : (C33 gl).primF 251 = some p_Name1 := rfl
@[simp] theorem C33_p250 (gl : Gb) : (C33 gl).primF 250 = some p_run := rfl
@[simp] theorem C33_p183 (gl : Gb) : (C33 gl).primF 183 = some p_Name := rfl
@[simp] theorem C33_p128 (gl : Gb) : (C33 gl).primF 128 = some p_isId := rfl
@[simp] theorem C33_p137 (gl : Gb) : (C33 gl).primF 137 = some p_build1 := rfl
@[simp] theorem C33_p138 (gl : Gb) : (C33 gl).primF 138 = some p_build2 := rfl
@[simp] theorem C33_p184 (gl : Gb) : (C33 gl).primF 184 = some p_IndexFunc := rfl
@[simp] theorem C33_p129 (gl : Gb) : (C33 gl).primF 129 = some p_ContainsFunc := rfl
@[simp] theorem C33_p80 (gl : Gb) : (C33 gl).primF 80 = some p_build := rfl
@[simp] theorem C33_p84 (gl : Gb) : (C33 gl).primF 84 = some p_open := rfl
@[simp] theorem C33_p19 (gl : Gb) : (C33 gl).primF 19 = some p_Check := rfl
@[simp] theorem C33_p85 (gl : Gb) : (C33 gl).primF 85 = some p_pose := rfl
@[simp] theorem C33_p86 (gl : Gb) : (C33 gl).primF 86 = some p_place := rfl
@[simp] theorem C33_p22 (gl : Gb) : (C33 gl).primF 22 = some p_Find := rfl
@[simp] theorem C33_p23 (gl : Gb) : (C33 gl).primF 23 = some p_PoseL := rfl
@[simp] theorem C33_p24 (gl : Gb) : (C33 gl).primF 24 = some p_PlaceL := rfl
@[simp] theorem C33_p16 (gl : Gb) : (C33 gl).primF 16 = some p_awake := rfl
@[simp] theorem C33_p15 (gl : Gb) : (C33 gl).primF 15 = some p_Few := rfl
@[simp] theorem C33_p37 (gl : Gb) : (C33 gl).primF 37 = some p_Volume := rfl
@[simp] theorem C33_p40 (gl : Gb) : (C33 gl).primF 40 = some p_Minus := rfl
@[simp] theorem C33_p179 (gl : Gb) : (C33 gl).primF 179 = some p_apply := rfl
@[simp] theorem C33_p176 (gl : Gb) : (C33 gl).primF 176 = some p_coordinate := rfl
@[simp] theorem C33_p133 (gl : Gb) : (C33 gl).primF 133 = some p_Is := rfl
@[simp] theorem C33_p192 (gl : Gb) : (C33 gl).primF 192 = some p_Plus := rfl
@[simp] theorem C33_p191 (gl : Gb) : (C33 gl).primF 191 = some p_same := rfl
@[simp] theorem C33_p120 (gl : Gb) : (C33 gl).primF 120 = some p_Near := rfl
@[simp] theorem C33_p143 (gl : Gb) : (C33 gl).primF 143 = some p_RCompose := rfl
@[simp] theorem C33_p136 (gl : Gb) : (C33 gl).primF 136 = some p_RInvert := rfl
@[simp] theorem C33_p144 (gl : Gb) : (C33 gl).primF 144 = some p_Point := rfl
@[simp] theorem C33_p66 (gl : Gb) : (C33 gl).primF 66 = some p_Valid := rfl
@[simp] theorem C33_p88 (gl : Gb) : (C33 gl).primF 88 = some p_RBox := rfl
@[simp] theorem C33_p87 (gl : Gb) : (C33 gl).primF 87 = some p_RJoin := rfl
@[simp] theorem C33_p135 (gl : Gb) : (C33 gl).primF 135 = some p_RSize := rfl
@[simp] theorem C33_p134 (gl : Gb) : (C33 gl).primF 134 = some p_RPlace := rfl
@[simp] theorem C33_p132 (gl : Gb) : (C33 gl).primF 132 = some p_sizeB := rfl
@[simp] theorem C33_p79 (gl : Gb) : (C33 gl).primF 79 = some p_SizeR := rfl
@[simp] theorem C33_p78 (gl : Gb) : (C33 gl).primF 78 = some p_WithinR := rfl
@[simp] theorem C33_p43 (gl : Gb) : (C33 gl).primF 43 = some p_MeetR := rfl
@[simp] theorem C33_p77 (gl : Gb) : (C33 gl).primF 77 = some p_RRight := rfl
@[simp] theorem C33_p242 (gl : Gb) : (C33 gl).primF 242 = some p_digit := rfl
@[simp] theorem C33_p173 (gl : Gb) : (C33 gl).primF 173 = some p_letter := rfl
@[simp] theorem C33_p76 (gl : Gb) : (C33 gl).primF 76 = some p_index := rfl
theorem C33_ok {gl : Gb} (h : (C32 gl).Ok Tryz.prog) : (C33 gl).Ok Tryz.prog := h.more (by
  intro f gf hf
  unfold prims_C33 at hf
  split at hf
  · simp only [Option.some.injEq] at hf; subst hf; exact does_RRight
  · simp only [Option.some.injEq] at hf; subst hf; exact does_digit
  · simp only [Option.some.injEq] at hf; subst hf; exact does_letter
  · simp only [Option.some.injEq] at hf; subst hf; exact does_index
  · cases hf)
def p_part : List D → Option D := p1 fun (c : U8) => some (.bool (innerI c.v))
theorem does_part : Does Tryz.prog (C33 gl) 172 p_part := tot1 (fun _ => 10) fun c ic => by
  refine W_body (c := _) Tryz.func172 rfl (by simp [Tryz.f172]) ?_
  simp (config := {decide := true, implicitDefEqProofs := false}) [Tryz.f172, p_digit, p_letter, letterI, innerI]
  grind
def p_FindR : List D → Option D := p2 fun (l : List Piece) (id : Str) => if l.length < 1000000 then some (I (indexR l l.length id)) else none
theorem does_FindR : Does Tryz.prog (C33 gl) 26 p_FindR := con2 (fun _ _ => 10) fun l id hc ic => by
  refine W_body (c := _) Tryz.func26 rfl (by simp [Tryz.f26]) ?_
  simp (config := {decide := true, implicitDefEqProofs := false}) [Tryz.f26, p_index, hc]
noncomputable def prims_C34 (gl : Gb) (f : FuncId) : Option (List D → Option D) := match f with
  | 172 => some p_part
  | 26 => some p_FindR
  | _ => none
noncomputable def C34 (gl : Gb) : Cfg := (C33 gl).more (prims_C34 gl)
@[simp] theorem mutS_C34 (gl : Gb) (f s) : (C34 gl).mutS f s = mutTab f s := rfl
@[simp] theorem pureF_C34 (gl : Gb) (f) : (C34 gl).pureF f = true := rfl
@[simp] theorem glob_C34 (gl : Gb) : (C34 gl).glob = gl := rfl
@[simp] theorem C34_p92 (gl : Gb) : (C34 gl).primF 92 = some p_is := rfl
@[simp] theorem C34_p149 (gl : Gb) : (C34 gl).primF 149 = some p_array := rfl
@[simp] theorem C34_p196 (gl : Gb) : (C34 gl).primF 196 = some p_vec := rfl
@[simp] theorem C34_p98 (gl : Gb) : (C34 gl).primF 98 = some p_add := rfl
@[simp] theorem C34_p148 (gl : Gb) : (C34 gl).primF 148 = some p_neg := rfl
@[simp] theorem C34_p145 (gl : Gb) : (C34 gl).primF 145 = some p_lengths := rfl
@[simp] theorem C34_p140 (gl : Gb) : (C34 gl).primF 140 = some p_inside := rfl
@[simp] theorem C34_p99 (gl : Gb) : (C34 gl).primF 99 = some p_overlap := rfl
@[simp] theorem C34_p150 (gl : Gb) : (C34 gl).primF 150 = some p_apply := rfl
@[simp] theorem C34_p96 (gl : Gb) : (C34 gl).primF 96 = some p_near := rfl
@[simp] theorem C34_p194 (gl : Gb) : (C34 gl).primF 194 = some p_compose1 := rfl
@[simp] theorem C34_p97 (gl : Gb) : (C34 gl).primF 97 = some p_image := rfl
@[simp] theorem C34_p193 (gl : Gb) : (C34 gl).primF 193 = some p_find := rfl
@[simp] theorem C34_p147 (gl : Gb) : (C34 gl).primF 147 = some p_compose := rfl
@[simp] theorem C34_p93 (gl : Gb) : (C34 gl).primF 93 = some p_invert := rfl
@[simp] theorem C34_p190 (gl : Gb) : (C34 gl).primF 190 = some p_result := rfl
@[simp] theorem C34_p95 (gl : Gb) : (C34 gl).primF 95 = some p_turned := rfl
@[simp] theorem C34_p94 (gl : Gb) : (C34 gl).primF 94 = some p_sized := rfl
@[simp] theorem C34_p38 (gl : Gb) : (C34 gl).primF 38 = some p_Invert := rfl
@[simp] theorem C34_p39 (gl : Gb) : (C34 gl).primF 39 = some p_Size := rfl
@[simp] theorem C34_p41 (gl : Gb) : (C34 gl).primF 41 = some p_Box := rfl
@[simp] theorem C34_p142 (gl : Gb) : (C34 gl).primF 142 = some p_Join := rfl
@[simp] theorem C34_p187 (gl : Gb) : (C34 gl).primF 187 = some p_Place := rfl
@[simp] theorem C34_p125 (gl : Gb) : (C34 gl).primF 125 = some p_sizeOf := rfl
@[simp] theorem C34_p139 (gl : Gb) : (C34 gl).primF 139 = some p_right := rfl
@[simp] theorem C34_p182 (gl : Gb) : (C34 gl).primF 182 = some p_Split := rfl
@[simp] theorem C34_p114 (gl : Gb) : (C34 gl).primF 114 = some p_Itoa := rfl
@[simp] theorem C34_p131 (gl : Gb) : (C34 gl).primF 131 = some p_Atoi := rfl
@[simp] theorem C34_p316 (gl : Gb) : (C34 gl).primF 316 = some p_classes := rfl
@[simp] theorem C34_p252 (gl : Gb) : (C34 gl).primF 252 = some p_inner := rfl
@[simp] theorem C34_p251 (gl : Gb) : (C34 gl).primF 251 = some p_Name1 := rfl
@[simp] theorem C34_p250 (gl : Gb) : (C34 gl).primF 250 = some p_run := rfl
@[simp] theorem C34_p183 (gl : Gb) : (C34 gl).primF 183 = some p_Name := rfl
@[simp] theorem C34_p128 (gl : Gb) : (C34 gl).primF 128 = some p_isId := rfl
@[simp] theorem C34_p137 (gl : Gb) : (C34 gl).primF 137 = some p_build1 := rfl
@[simp] theorem C34_p138 (gl : Gb) : (C34 gl).primF 138 = some p_build2 := rfl
@[simp] theorem C34_p184 (gl : Gb) : (C34 gl).primF 184 = some p_IndexFunc := rfl
@[simp] theorem C34_p129 (gl : Gb) : (C34 gl).primF 129 = some p_ContainsFunc := rfl
@[simp] theorem C34_p80 (gl : Gb) : (C34 gl).primF 80 = some p_build := rfl
@[simp] theorem C34_p84 (gl : Gb) : (C34 gl).primF 84 = some p_open := rfl
@[simp] theorem C34_p19 (gl : Gb) : (C34 gl).primF 19 = some p_Check := rfl
@[simp] theorem C34_p85 (gl : Gb) : (C34 gl).primF 85 = some p_pose := rfl
@[simp] theorem C34_p86 (gl : Gb) : (C34 gl).primF 86 = some p_place := rfl
@[simp] theorem C34_p22 (gl : Gb) : (C34 gl).primF 22 = some p_Find := rfl
@[simp] theorem C34_p23 (gl : Gb) : (C34 gl).primF 23 = some p_PoseL := rfl
@[simp] theorem C34_p24 (gl : Gb) : (C34 gl).primF 24 = some p_PlaceL := rfl
@[simp] theorem C34_p16 (gl : Gb) : (C34 gl).primF 16 = some p_awake := rfl
@[simp] theorem C34_p15 (gl : Gb) : (C34 gl).primF 15 = some p_Few := rfl
@[simp] theorem C34_p37 (gl : Gb) : (C34 gl).primF 37 = some p_Volume := rfl
@[simp] theorem C34_p40 (gl : Gb) : (C34 gl).primF 40 = some p_Minus := rfl
@[simp] theorem C34_p179 (gl : Gb) : (C34 gl).primF 179 = some p_apply := rfl
@[simp] theorem C34_p176 (gl : Gb) : (C34 gl).primF 176 = some p_coordinate := rfl
@[simp] theorem C34_p133 (gl : Gb) : (C34 gl).primF 133 = some p_Is := rfl
@[simp] theorem C34_p192 (gl : Gb) : (C34 gl).primF 192 = some p_Plus := rfl
@[simp] theorem C34_p191 (gl : Gb) : (C34 gl).primF 191 = some p_same := rfl
@[simp] theorem C34_p120 (gl : Gb) : (C34 gl).primF 120 = some p_Near := rfl
@[simp] theorem C34_p143 (gl : Gb) : (C34 gl).primF 143 = some p_RCompose := rfl
@[simp] theorem C34_p136 (gl : Gb) : (C34 gl).primF 136 = some p_RInvert := rfl
@[simp] theorem C34_p144 (gl : Gb) : (C34 gl).primF 144 = some p_Point := rfl
@[simp] theorem C34_p66 (gl : Gb) : (C34 gl).primF 66 = some p_Valid := rfl
@[simp] theorem C34_p88 (gl : Gb) : (C34 gl).primF 88 = some p_RBox := rfl
@[simp] theorem C34_p87 (gl : Gb) : (C34 gl).primF 87 = some p_RJoin := rfl
@[simp] theorem C34_p135 (gl : Gb) : (C34 gl).primF 135 = some p_RSize := rfl
@[simp] theorem C34_p134 (gl : Gb) : (C34 gl).primF 134 = some p_RPlace := rfl
@[simp] theorem C34_p132 (gl : Gb) : (C34 gl).primF 132 = some p_sizeB := rfl
@[simp] theorem C34_p79 (gl : Gb) : (C34 gl).primF 79 = some p_SizeR := rfl
@[simp] theorem C34_p78 (gl : Gb) : (C34 gl).primF 78 = some p_WithinR := rfl
@[simp] theorem C34_p43 (gl : Gb) : (C34 gl).primF 43 = some p_MeetR := rfl
@[simp] theorem C34_p77 (gl : Gb) : (C34 gl).primF 77 = some p_RRight := rfl
@[simp] theorem C34_p242 (gl : Gb) : (C34 gl).primF 242 = some p_digit := rfl
@[simp] theorem C34_p173 (gl : Gb) : (C34 gl).primF 173 = some p_letter := rfl
@[simp] theorem C34_p76 (gl : Gb) : (C34 gl).primF 76 = some p_index := rfl
@[simp] theorem C34_p172 (gl : Gb) : (C34 gl).primF 172 = some p_part := rfl
@[simp] theorem C34_p26 (gl : Gb) : (C34 gl).primF 26 = some p_FindR := rfl
theorem C34_ok {gl : Gb} (h : (C33 gl).Ok Tryz.prog) : (C34 gl).Ok Tryz.prog := h.more (by
  intro f gf hf
  unfold prims_C34 at hf
  split at hf
  · simp only [Option.some.injEq] at hf; subst hf; exact does_part
  · simp only [Option.some.injEq] at hf; subst hf; exact does_FindR
  · cases hf)
def p_RName : List D → Option D := p1 fun (s : Str) => if s.size < 1000000 then some (.bool (nameOk s)) else none
theorem nameOk_iff {s : Str} : nameOk s = true ↔ 1 ≤ s.size ∧ s.size ≤ 24 ∧ s.data.toList.all nameB = true ∧ ∀ c, s.data.toList[0]? = some c → lowerI c.toNat = true := by
  have hl : s.data.toList.length = s.size := by simp
  unfold nameOk
  cases h : s.data.toList with
  | nil => rw [h] at hl; simp at hl; simp; omega
  | cons c r =>
    rw [h] at hl
    simp only [List.length_cons] at hl
    simp only [Bool.and_eq_true, decide_eq_true_eq, List.getElem?_cons_zero, Option.some.injEq, forall_eq']
    constructor
    · rintro ⟨⟨a, b⟩, c⟩; exact ⟨by omega, by omega, c, b⟩
    · rintro ⟨a, b, c, d⟩; exact ⟨⟨by omega, d⟩, c⟩
theorem does_RName : Does Tryz.prog (C34 gl) 117 p_RName := con1 (fun _ => 1000001) fun s hs ic => by
  have hl : s.data.toList.length = s.size := by simp
  refine W_body (c := _) Tryz.func117 rfl (by simp [Tryz.f117]) ?_
  simp (config := {decide := true, implicitDefEqProofs := false}) [Tryz.f117]
  refine W_loop rfl (fun (i : Nat) e h => e 3 = .d (I i) ∧ e 0 = .d (.str s) ∧ i ≤ s.size ∧ (s.data.toList.take i).all nameB = true ∧ (0 < i → ∀ c, s.data.toList[0]? = some c → lowerI c.toNat = true)) (fun i => s.size - i) 0 (by omega) (by simp) ?_
  rintro i e h ⟨g1, g2, g3, g4, g5⟩
  by_cases hlt : i < s.size
  · have hw : IntKind.i64.wrap ((i : Int) + 1) = ((i + 1 : Nat) : Int) := by rw [wrap_i64] <;> omega
    have hi' : i < s.data.toList.length := by omega
    have hc : s.data.toList[i] = s[i] := rfl
    have hg : s[i]? = some s[i] := by rw [str_get, List.getElem?_eq_getElem hi', hc]
    have hf : nameB s[i] = false → nameOk s = false := fun hn => by
      cases hok : nameOk s with
      | false => rfl
      | true => exact absurd (nameOk_iff.1 hok).2.2.1 (by rw [all_false hi' hn]; decide)
    have ht : nameB s[i] = true → (s.data.toList.take (i + 1)).all nameB = true := fun hn => take_all (p := nameB) hi' g4 hn
    by_cases h1 : innerI (s[i].toNat : Int) = true
    · by_cases h2 : upperI (s[i].toNat : Int) = true
      · have hn : nameOk s = false := hf (by simp only [nameB, nameI, innerI, lowerI, upperI, digitI] at *; grind)
        have h2a : (65 : Int) ≤ s[i].toNat := by simp [upperI] at h2; omega
        have h2b : (s[i].toNat : Int) ≤ 90 := by simp [upperI] at h2; omega
        simp (config := {decide := true, implicitDefEqProofs := false}) [g1, g2, hlt, hg, p_part, h1, h2a, h2b, hn]
      · have hnb : nameB s[i] = true := by simp only [nameB, nameI, innerI, lowerI, upperI, digitI] at *; grind
        have h2' : (65 : Int) ≤ s[i].toNat → ¬ (s[i].toNat : Int) ≤ 90 := fun a b => h2 (by simp [upperI]; omega)
        by_cases h0 : i = 0
        · subst h0
          by_cases h3 : letterI (s[0].toNat : Int) = true
          · have hlow : lowerI (s[0].toNat : Int) = true := by simp only [letterI] at h3; simp at h2; simpa [h2] using h3
            by_cases h2a : (65 : Int) ≤ s[0].toNat
            · have h2b := h2' h2a
              simp (config := {decide := true, implicitDefEqProofs := false}) [g1, g2, hlt, hg, p_part, p_letter, h1, h2a, h2b, h3, hw]
              exact ⟨1, by omega, rfl, by omega, List.all_eq_true.1 (ht hnb), fun _ => hlow⟩
            · simp (config := {decide := true, implicitDefEqProofs := false}) [g1, g2, hlt, hg, p_part, p_letter, h1, h2a, h3, hw]
              exact ⟨1, by omega, rfl, by omega, List.all_eq_true.1 (ht hnb), fun _ => hlow⟩
          · have hn : nameOk s = false := by
              cases hok : nameOk s with
              | false => rfl
              | true =>
                have := (nameOk_iff.1 hok).2.2.2 s[0] (by rw [List.getElem?_eq_getElem hi', hc])
                simp [letterI, this] at h3
            by_cases h2a : (65 : Int) ≤ s[0].toNat
            · have h2b := h2' h2a
              simp (config := {decide := true, implicitDefEqProofs := false}) [g1, g2, hlt, hg, p_part, p_letter, h1, h2a, h2b, h3, hn]
            · simp (config := {decide := true, implicitDefEqProofs := false}) [g1, g2, hlt, hg, p_part, p_letter, h1, h2a, h3, hn]
        · have h0' : ¬ (i : Int) = 0 := by omega
          by_cases h2a : (65 : Int) ≤ s[i].toNat
          · have h2b := h2' h2a
            simp (config := {decide := true, implicitDefEqProofs := false}) [g1, g2, hlt, hg, p_part, p_letter, h1, h2a, h2b, h0', h0, hw]
            exact ⟨i + 1, by omega, rfl, by omega, List.all_eq_true.1 (ht hnb), fun _ => by simpa using g5 (by omega)⟩
          · simp (config := {decide := true, implicitDefEqProofs := false}) [g1, g2, hlt, hg, p_part, p_letter, h1, h2a, h0', h0, hw]
            exact ⟨i + 1, by omega, rfl, by omega, List.all_eq_true.1 (ht hnb), fun _ => by simpa using g5 (by omega)⟩
    · have hn : nameOk s = false := hf (by simp only [nameB, nameI, innerI, lowerI, upperI, digitI] at *; grind)
      simp (config := {decide := true, implicitDefEqProofs := false}) [g1, g2, hlt, hg, p_part, h1, hn]
  · obtain rfl : i = s.size := by omega
    have hall : s.data.toList.all nameB = true := by rw [← hl, List.take_length] at g4; exact g4
    by_cases h1 : 1 ≤ s.size
    · have h1' : (1 : Int) ≤ s.size := by omega
      have hok : nameOk s = decide (s.size ≤ 24) := by
        rw [Bool.eq_iff_iff, nameOk_iff, decide_eq_true_eq]
        exact ⟨fun h => h.2.1, fun h => ⟨h1, h, hall, g5 (by omega)⟩⟩
      simp (config := {decide := true, implicitDefEqProofs := false}) [g1, g2, h1', hok]
      omega
    · have h1' : ¬ (1 : Int) ≤ s.size := by omega
      have hok : nameOk s = false := by
        cases hok : nameOk s with
        | false => rfl
        | true => exact absurd (nameOk_iff.1 hok).1 h1
      simp (config := {decide := true, implicitDefEqProofs := false}) [g1, g2, h1', hok]
noncomputable def prims_C35 (gl : Gb) (f : FuncId) : Option (List D → Option D) := match f with
  | 117 => some p_RName
  | _ => none
noncomputable def C35 (gl : Gb) : Cfg := (C34 gl).more (prims_C35 gl)
@[simp] theorem mutS_C35 (gl : Gb) (f s) : (C35 gl).mutS f s = mutTab f s := rfl
@[simp] theorem pureF_C35 (gl : Gb) (f) : (C35 gl).pureF f = true := rfl
@[simp] theorem glob_C35 (gl : Gb) : (C35 gl).glob = gl := rfl
@[simp] theorem C35_p92 (gl : Gb) : (C35 gl).primF 92 = some p_is := rfl
@[simp] theorem C35_p149 (gl : Gb) : (C35 gl).primF 149 = some p_array := rfl
@[simp] theorem C35_p196 (gl : Gb) : (C35 gl).primF 196 = some p_vec := rfl
@[simp] theorem C35_p98 (gl : Gb) : (C35 gl).primF 98 = some p_add := rfl
@[simp] theorem C35_p148 (gl : Gb) : (C35 gl).primF 148 = some p_neg := rfl
@[simp] theorem C35_p145 (gl : Gb) : (C35 gl).primF 145 = some p_lengths := rfl
@[simp] theorem C35_p140 (gl : Gb) : (C35 gl).primF 140 = some p_inside := rfl
@[simp] theorem C35_p99 (gl : Gb) : (C35 gl).primF 99 = some p_overlap := rfl
@[simp] theorem C35_p150 (gl : Gb) : (C35 gl).primF 150 = some p_apply := rfl
@[simp] theorem C35_p96 (gl : Gb) : (C35 gl).primF 96 = some p_near := rfl
@[simp] theorem C35_p194 (gl : Gb) : (C35 gl).primF 194 = some p_compose1 := rfl
@[simp] theorem C35_p97 (gl : Gb) : (C35 gl).primF 97 = some p_image := rfl
@[simp] theorem C35_p193 (gl : Gb) : (C35 gl).primF 193 = some p_find := rfl
@[simp] theorem C35_p147 (gl : Gb) : (C35 gl).primF 147 = some p_compose := rfl
@[simp] theorem C35_p93 (gl : Gb) : (C35 gl).primF 93 = some p_invert := rfl
@[simp] theorem C35_p190 (gl : Gb) : (C35 gl).primF 190 = some p_result := rfl
@[simp] theorem C35_p95 (gl : Gb) : (C35 gl).primF 95 = some p_turned := rfl
@[simp] theorem C35_p94 (gl : Gb) : (C35 gl).primF 94 = some p_sized := rfl
@[simp] theorem C35_p38 (gl : Gb) : (C35 gl).primF 38 = some p_Invert := rfl
@[simp] theorem C35_p39 (gl : Gb) : (C35 gl).primF 39 = some p_Size := rfl
@[simp] theorem C35_p41 (gl : Gb) : (C35 gl).primF 41 = some p_Box := rfl
@[simp] theorem C35_p142 (gl : Gb) : (C35 gl).primF 142 = some p_Join := rfl
@[simp] theorem C35_p187 (gl : Gb) : (C35 gl).primF 187 = some p_Place := rfl
@[simp] theorem C35_p125 (gl : Gb) : (C35 gl).primF 125 = some p_sizeOf := rfl
@[simp] theorem C35_p139 (gl : Gb) : (C35 gl).primF 139 = some p_right := rfl
@[simp] theorem C35_p182 (gl : Gb) : (C35 gl).primF 182 = some p_Split := rfl
@[simp] theorem C35_p114 (gl : Gb) : (C35 gl).primF 114 = some p_Itoa := rfl
@[simp] theorem C35_p131 (gl : Gb) : (C35 gl).primF 131 = some p_Atoi := rfl
@[simp] theorem C35_p316 (gl : Gb) : (C35 gl).primF 316 = some p_classes := rfl
@[simp] theorem C35_p252 (gl : Gb) : (C35 gl).primF 252 = some p_inner := rfl
@[simp] theorem C35_p251 (gl : Gb) : (C35 gl).primF 251 = some p_Name1 := rfl
@[simp] theorem C35_p250 (gl : Gb) : (C35 gl).primF 250 = some p_run := rfl
@[simp] theorem C35_p183 (gl : Gb) : (C35 gl).primF 183 = some p_Name := rfl
@[simp] theorem C35_p128 (gl : Gb) : (C35 gl).primF 128 = some p_isId := rfl
@[simp] theorem C35_p137 (gl : Gb) : (C35 gl).primF 137 = some p_build1 := rfl
@[simp] theorem C35_p138 (gl : Gb) : (C35 gl).primF 138 = some p_build2 := rfl
@[simp] theorem C35_p184 (gl : Gb) : (C35 gl).primF 184 = some p_IndexFunc := rfl
@[simp] theorem C35_p129 (gl : Gb) : (C35 gl).primF 129 = some p_ContainsFunc := rfl
@[simp] theorem C35_p80 (gl : Gb) : (C35 gl).primF 80 = some p_build := rfl
@[simp] theorem C35_p84 (gl : Gb) : (C35 gl).primF 84 = some p_open := rfl
@[simp] theorem C35_p19 (gl : Gb) : (C35 gl).primF 19 = some p_Check := rfl
@[simp] theorem C35_p85 (gl : Gb) : (C35 gl).primF 85 = some p_pose := rfl
@[simp] theorem C35_p86 (gl : Gb) : (C35 gl).primF 86 = some p_place := rfl
@[simp] theorem C35_p22 (gl : Gb) : (C35 gl).primF 22 = some p_Find := rfl
@[simp] theorem C35_p23 (gl : Gb) : (C35 gl).primF 23 = some p_PoseL := rfl
@[simp] theorem C35_p24 (gl : Gb) : (C35 gl).primF 24 = some p_PlaceL := rfl
@[simp] theorem C35_p16 (gl : Gb) : (C35 gl).primF 16 = some p_awake := rfl
@[simp] theorem C35_p15 (gl : Gb) : (C35 gl).primF 15 = some p_Few := rfl
@[simp] theorem C35_p37 (gl : Gb) : (C35 gl).primF 37 = some p_Volume := rfl
@[simp] theorem C35_p40 (gl : Gb) : (C35 gl).primF 40 = some p_Minus := rfl
@[simp] theorem C35_p179 (gl : Gb) : (C35 gl).primF 179 = some p_apply := rfl
@[simp] theorem C35_p176 (gl : Gb) : (C35 gl).primF 176 = some p_coordinate := rfl
@[simp] theorem C35_p133 (gl : Gb) : (C35 gl).primF 133 = some p_Is := rfl
@[simp] theorem C35_p192 (gl : Gb) : (C35 gl).primF 192 = some p_Plus := rfl
@[simp] theorem C35_p191 (gl : Gb) : (C35 gl).primF 191 = some p_same := rfl
@[simp] theorem C35_p120 (gl : Gb) : (C35 gl).primF 120 = some p_Near := rfl
@[simp] theorem C35_p143 (gl : Gb) : (C35 gl).primF 143 = some p_RCompose := rfl
@[simp] theorem C35_p136 (gl : Gb) : (C35 gl).primF 136 = some p_RInvert := rfl
@[simp] theorem C35_p144 (gl : Gb) : (C35 gl).primF 144 = some p_Point := rfl
@[simp] theorem C35_p66 (gl : Gb) : (C35 gl).primF 66 = some p_Valid := rfl
@[simp] theorem C35_p88 (gl : Gb) : (C35 gl).primF 88 = some p_RBox := rfl
@[simp] theorem C35_p87 (gl : Gb) : (C35 gl).primF 87 = some p_RJoin := rfl
@[simp] theorem C35_p135 (gl : Gb) : (C35 gl).primF 135 = some p_RSize := rfl
@[simp] theorem C35_p134 (gl : Gb) : (C35 gl).primF 134 = some p_RPlace := rfl
@[simp] theorem C35_p132 (gl : Gb) : (C35 gl).primF 132 = some p_sizeB := rfl
@[simp] theorem C35_p79 (gl : Gb) : (C35 gl).primF 79 = some p_SizeR := rfl
@[simp] theorem C35_p78 (gl : Gb) : (C35 gl).primF 78 = some p_WithinR := rfl
@[simp] theorem C35_p43 (gl : Gb) : (C35 gl).primF 43 = some p_MeetR := rfl
@[simp] theorem C35_p77 (gl : Gb) : (C35 gl).primF 77 = some p_RRight := rfl
@[simp] theorem C35_p242 (gl : Gb) : (C35 gl).primF 242 = some p_digit := rfl
@[simp] theorem C35_p173 (gl : Gb) : (C35 gl).primF 173 = some p_letter := rfl
@[simp] theorem C35_p76 (gl : Gb) : (C35 gl).primF 76 = some p_index := rfl
@[simp] theorem C35_p172 (gl : Gb) : (C35 gl).primF 172 = some p_part := rfl
@[simp] theorem C35_p26 (gl : Gb) : (C35 gl).primF 26 = some p_FindR := rfl
@[simp] theorem C35_p117 (gl : Gb) : (C35 gl).primF 117 = some p_RName := rfl
theorem C35_ok {gl : Gb} (h : (C34 gl).Ok Tryz.prog) : (C35 gl).Ok Tryz.prog := h.more (by
  intro f gf hf
  unfold prims_C35 at hf
  split at hf
  · simp only [Option.some.injEq] at hf; subst hf; exact does_RName
  · cases hf)
end Go.Proofs.YtmfgnajlkoafkaaGreatDoor
end
section
namespace Go.AM.Lineage
open Go Go.AM Go.AM.Orient
open Go.AM.Enc (enc dec)
open Go.AM.Row (row ofRow)
set_option linter.unusedVariables false
theorem splitL_stop {c : UInt8} : ∀ {r : List UInt8} {n : Nat}, c ∉ r.take n → r[n]? = some c → splitL c r = r.take n :: splitL c (r.drop (n + 1))
  | [], n, _, h => by simp at h
  | b :: r, 0, _, h => by
    simp at h; subst h
    simp [splitL]
  | b :: r, n + 1, hn, h => by
    simp only [List.take_succ_cons, List.mem_cons, not_or] at hn
    have ih := splitL_stop (r := r) (n := n) hn.2 (by simpa using h)
    have hb : (b == c) = false := by simpa using fun e => hn.1 e.symm
    simp [splitL, hb, ih]
theorem splitL_none {c : UInt8} : ∀ {r : List UInt8}, c ∉ r → splitL c r = [r]
  | [], _ => rfl
  | b :: r, hn => by
    simp only [List.mem_cons, not_or] at hn
    have hb : (b == c) = false := by simpa using fun e => hn.1 e.symm
    simp [splitL, hb, splitL_none hn.2]
/-- are the parts that are left right? -/
def okFrom : Bool → List (List UInt8) → Bool
  | _, [] => true
  | first, p :: ps => (if first then nameOk (ofBytes p) else numOk (ofBytes p)) && okFrom false ps
theorem okFrom_false : ∀ ps : List (List UInt8), okFrom false ps = ps.all fun p => numOk (ofBytes p)
  | [] => rfl
  | p :: ps => by simp [okFrom, okFrom_false ps]
theorem splitL_ne (c : UInt8) : ∀ r : List UInt8, splitL c r ≠ []
  | [] => by simp [splitL]
  | b :: r => by
    unfold splitL
    split
    · simp
    · split <;> simp
theorem idOk_from (s : Str) : idOk s = (decide (s.size ≤ 60) && okFrom true (splitL 46 s.data.toList)) := by
  unfold idOk
  rw [parts_eq]
  cases h : splitL 46 s.data.toList with
  | nil => exact absurd h (splitL_ne _ _)
  | cons p ps =>
    simp only [List.map_cons, List.tail_cons, List.headD_cons, okFrom, okFrom_false, List.all_map, if_true]
    have : (numOk ∘ ofBytes) = fun p => numOk (ofBytes p) := rfl
    rw [this]
    cases ps.all (fun p => numOk (ofBytes p)) <;> cases nameOk (ofBytes p) <;> cases decide (s.size ≤ 60) <;> rfl
theorem ofBytes_extract (s : Str) (b i : Nat) : s.extract b i = ofBytes ((s.data.toList.drop b).take (i - b)) := by
  apply ByteArray.ext
  apply Array.ext'
  simp [ofBytes, ByteArray.data_extract, List.take_drop]
  try rw [List.drop_take]
end Go.AM.Lineage
namespace Go.Proofs.YtmfgnajlkoafkaaGreatDoor
open Go Go.AM Go.AM.Orient Go.AM.Lineage
open Go.AM.Enc (enc dec)
open Go.AM.Row (row ofRow)
set_option maxRecDepth 100000
set_option linter.unusedVariables false
set_option linter.unusedSimpArgs false
variable {gl : Gb}
def p_RId : List D → Option D := p1 fun (s : Str) => if s.size < 4294967281 then some (.bool (idOk s)) else none
def AtId (s : Str) (b i : Nat) (e : Env) : Prop := e 4 = .d (I i) ∧ e 3 = .d (I b) ∧ e 0 = .d (.str s) ∧ i ≤ s.size + 1 ∧ b ≤ i ∧ (46 : UInt8) ∉ (s.data.toList.drop b).take (i - b) ∧
  (if b ≤ s.size then idOk s = okFrom (decide (b = 0)) (splitL 46 (s.data.toList.drop b)) ∧ i ≤ s.size else idOk s = true ∧ i = s.size + 1)
theorem does_RId : Does Tryz.prog (C35 gl) 75 p_RId := con1 (fun _ => 1000010) fun s hs ic => by
  have hl : s.data.toList.length = s.size := by simp
  refine W_body (c := _) Tryz.func75 rfl (by simp [Tryz.f75]) ?_
  by_cases h60 : s.size ≤ 60
  · have h60' : ¬ (60 : Int) < s.size := by omega
    simp (config := {decide := true, implicitDefEqProofs := false}) [Tryz.f75, h60']
    refine W_loop rfl (fun (p : Nat × Nat) e h => AtId s p.1 p.2 e) (fun p => s.size + 1 - p.2) (0, 0) (by omega) (by simp [AtId, idOk_from, h60]) ?_
    rintro ⟨b, i⟩ e h ⟨g1, g2, g3, g4, g5, g6, g7⟩
    simp only at g1 g2 g4 g5 g6 g7
    by_cases hend : i = s.size + 1
    · have hb : ¬ b ≤ s.size := fun hb => by rw [if_pos hb] at g7; omega
      rw [if_neg hb] at g7
      have hend' : ¬ (i : Int) ≤ s.size := by omega
      simp (config := {decide := true, implicitDefEqProofs := false}) [g1, g3, hend', g7.1]
    · have hb : b ≤ s.size := Classical.byContradiction fun hb => by rw [if_neg hb] at g7; omega
      rw [if_pos hb] at g7
      obtain ⟨g7, g8⟩ := g7
      have hile : (i : Int) ≤ s.size := by omega
      have hw : IntKind.i64.wrap ((i : Int) + 1) = ((i + 1 : Nat) : Int) := by rw [wrap_i64] <;> omega
      have hnext : (46 : UInt8) ∉ (s.data.toList.drop (i + 1)).take (i + 1 - (i + 1)) := by simp
      by_cases hdot : i < s.size ∧ s.data.toList[i]? ≠ some 46
      · obtain ⟨hlt, hd⟩ := hdot
        have hi' : i < s.data.toList.length := by omega
        have hc : s.data.toList[i] = s[i] := rfl
        have hg : s[i]? = some s[i] := by rw [str_get, List.getElem?_eq_getElem hi', hc]
        have hne : s[i] ≠ 46 := fun e => hd (by rw [List.getElem?_eq_getElem hi', hc, e])
        have hn46 : ¬ ((s[i]).toNat : Int) = 46 := fun e => hne (by
          have : s[i].toNat = 46 := by omega
          exact UInt8.toNat_inj.1 this)
        simp (config := {decide := true, implicitDefEqProofs := false}) [g1, g2, g3, hile, hlt, hg, hn46, hw]
        refine ⟨b, i + 1, by omega, rfl, g2, g3, by omega, by omega, ?_, by rw [if_pos hb]; exact ⟨g7, by omega⟩⟩
        rw [show i + 1 - b = (i - b) + 1 by omega, List.take_add_one, List.getElem?_drop, show b + (i - b) = i by omega, List.getElem?_eq_getElem hi']
        simp only [Option.toList_some, List.mem_append, List.mem_singleton, not_or]
        exact ⟨g6, fun e => hne (by rw [← hc]; exact e.symm)⟩
      · -- a part ends here
        have hpart : splitL 46 (s.data.toList.drop b) = ((s.data.toList.drop b).take (i - b)) :: (if i < s.size then splitL 46 (s.data.toList.drop (i + 1)) else []) := by
          by_cases hlt : i < s.size
          · rw [if_pos hlt]
            have hd : s.data.toList[i]? = some 46 := Classical.byContradiction fun h => hdot ⟨hlt, h⟩
            have := splitL_stop (c := 46) (r := s.data.toList.drop b) (n := i - b) g6 (by rw [List.getElem?_drop, show b + (i - b) = i by omega]; exact hd)
            rw [this, List.drop_drop, show b + (i - b + 1) = i + 1 by omega]
          · rw [if_neg hlt]
            have hlen : (s.data.toList.drop b).take (i - b) = s.data.toList.drop b := List.take_of_length_le (by simp; omega)
            rw [hlen] at g6 ⊢
            exact splitL_none g6
        have hext : s.extract b i = ofBytes ((s.data.toList.drop b).take (i - b)) := ofBytes_extract s b i
        have hsz : (s.extract b i).size ≤ s.size := by simp [ByteArray.size_extract]; omega
        have hfin : ∀ x : Bool, idOk s = (x && okFrom false (if i < s.size then splitL 46 (s.data.toList.drop (i + 1)) else [])) → x = true →
            (if i + 1 ≤ s.size then idOk s = okFrom (decide (i + 1 = 0)) (splitL 46 (s.data.toList.drop (i + 1))) ∧ i + 1 ≤ s.size else idOk s = true ∧ i + 1 = s.size + 1) := fun x hx hx1 => by
          rw [hx1, Bool.true_and] at hx
          by_cases hlt : i < s.size
          · rw [if_pos (show i + 1 ≤ s.size by omega)]
            rw [if_pos hlt] at hx
            exact ⟨hx, by omega⟩
          · rw [if_neg (show ¬ i + 1 ≤ s.size by omega)]
            rw [if_neg hlt] at hx
            exact ⟨hx, by omega⟩
        rw [hpart] at g7
        simp only [okFrom, ← hext] at g7
        have hbi : (b : Int) ≤ i := by omega
        have hp1 : (s.extract b i).size < 1000000 := by omega
        have hp2 : (s.extract b i).size ≤ 281474976710656 := by omega
        clear hext hsz
        generalize hpq : s.extract b i = p at *
        by_cases hlt : i < s.size
        · have hi' : i < s.data.toList.length := by omega
          have hc : s.data.toList[i] = s[i] := rfl
          have hg : s[i]? = some s[i] := by rw [str_get, List.getElem?_eq_getElem hi', hc]
          have hd : s.data.toList[i]? = some 46 := Classical.byContradiction fun h => hdot ⟨hlt, h⟩
          have h46 : ((s[i]).toNat : Int) = 46 := by
            rw [List.getElem?_eq_getElem hi', hc] at hd
            rw [Option.some.inj hd]; rfl
          by_cases hb0 : b = 0
          · have hb0' : (b : Int) = 0 := by omega
            rw [if_pos (by simpa using hb0)] at g7
            subst hb0
            cases hn : nameOk p with
            | true =>
              simp (config := {decide := true, implicitDefEqProofs := false}) [g1, g2, g3, hile, hlt, hg, h46, hbi, p_RName, hpq, hn, hw, hp1, g5, g8]
              exact ⟨i + 1, i + 1, by omega, rfl, rfl, g3, by omega, by omega, hnext, hfin _ g7 hn⟩
            | false =>
              have hf : idOk s = false := by rw [g7, hn]; rfl
              simp (config := {decide := true, implicitDefEqProofs := false}) [g1, g2, g3, hile, hlt, hg, h46, hbi, p_RName, hpq, hn, hw, hp1, g5, g8, hf]
          · have hb0' : ¬ (b : Int) = 0 := by omega
            rw [if_neg (by simpa using hb0)] at g7
            have hf : numOk p = false → idOk s = false := fun hn => by rw [g7, hn]; rfl
            cases hat : Lib.atoiAll p.data.toList with
            | ok v =>
              have hv := Lib.atoiAll_bounds hat
              by_cases h1v : v < 1
              · have hn : idOk s = false := hf (by simp [numOk, hat]; omega)
                simp (config := {decide := true, implicitDefEqProofs := false}) [g1, g2, g3, hile, hlt, hg, h46, hbi, hb0', hb0, p_Atoi, hpq, hp2, atoiD, hat, h1v, hn, g5, g8]
              · by_cases h2v : 1024 < v
                · have hn : idOk s = false := hf (by simp [numOk, hat]; omega)
                  simp (config := {decide := true, implicitDefEqProofs := false}) [g1, g2, g3, hile, hlt, hg, h46, hbi, hb0', hb0, p_Atoi, hpq, hp2, atoiD, hat, h1v, h2v, hn, g5, g8]
                · have hb1 : -9223372036854775808 ≤ v := by omega
                  have hb2 : v ≤ 9223372036854775807 := by omega
                  by_cases h3v : (⟨(Lib.itoa v).toArray⟩ : ByteArray) = p
                  · have hn : numOk p = true := by unfold numOk; rw [hat]; simp only [Bool.and_eq_true, decide_eq_true_eq]; exact ⟨⟨by omega, by omega⟩, h3v⟩
                    simp (config := {decide := true, implicitDefEqProofs := false}) [g1, g2, g3, hile, hlt, hg, h46, hbi, hb0', hb0, p_Atoi, hpq, p_Itoa, hp2, atoiD, hat, h1v, h2v, h3v, hb1, hb2, hw, g5, g8]
                    exact ⟨i + 1, i + 1, by omega, rfl, rfl, g3, by omega, by omega, hnext, hfin _ g7 hn⟩
                  · have hn : idOk s = false := hf (by simp [numOk, hat, h3v])
                    simp (config := {decide := true, implicitDefEqProofs := false}) [g1, g2, g3, hile, hlt, hg, h46, hbi, hb0', hb0, p_Atoi, hpq, p_Itoa, hp2, atoiD, hat, h1v, h2v, h3v, hb1, hb2, hn, g5, g8]
            | range =>
              have hn : idOk s = false := hf (by simp [numOk, hat])
              by_cases hsat : p.data.toList.head?.map (·.toNat) = some 45
              · have hs2 : Lib.atoiSat p.data.toList = -9223372036854775808 := by unfold Lib.atoiSat; rw [if_pos hsat]
                simp (config := {decide := true, implicitDefEqProofs := false}) [g1, g2, g3, hile, hlt, hg, h46, hbi, hb0', hb0, p_Atoi, hpq, hp2, atoiD, hat, hs2, hn, g5, g8]
              · have hs2 : Lib.atoiSat p.data.toList = 9223372036854775807 := by unfold Lib.atoiSat; rw [if_neg hsat]
                simp (config := {decide := true, implicitDefEqProofs := false}) [g1, g2, g3, hile, hlt, hg, h46, hbi, hb0', hb0, p_Atoi, hpq, hp2, atoiD, hat, hs2, hn, g5, g8]
            | _ =>
              have hn : idOk s = false := hf (by simp [numOk, hat])
              simp (config := {decide := true, implicitDefEqProofs := false}) [g1, g2, g3, hile, hlt, hg, h46, hbi, hb0', hb0, p_Atoi, hpq, hp2, atoiD, hat, hn, g5, g8]
        · have hnlt : ¬ (i : Int) < s.size := by omega
          by_cases hb0 : b = 0
          · have hb0' : (b : Int) = 0 := by omega
            rw [if_pos (by simpa using hb0)] at g7
            subst hb0
            cases hn : nameOk p with
            | true =>
              simp (config := {decide := true, implicitDefEqProofs := false}) [g1, g2, g3, hile, hlt, hnlt, hbi, p_RName, hpq, hn, hw, hp1, g5, g8]
              exact ⟨i + 1, i + 1, by omega, rfl, rfl, g3, by omega, by omega, hnext, hfin _ g7 hn⟩
            | false =>
              have hf : idOk s = false := by rw [g7, hn]; rfl
              simp (config := {decide := true, implicitDefEqProofs := false}) [g1, g2, g3, hile, hlt, hnlt, hbi, p_RName, hpq, hn, hw, hp1, g5, g8, hf]
          · have hb0' : ¬ (b : Int) = 0 := by omega
            rw [if_neg (by simpa using hb0)] at g7
            have hf : numOk p = false → idOk s = false := fun hn => by rw [g7, hn]; rfl
            cases hat : Lib.atoiAll p.data.toList with
            | ok v =>
              have hv := Lib.atoiAll_bounds hat
              by_cases h1v : v < 1
              · have hn : idOk s = false := hf (by simp [numOk, hat]; omega)
                simp (config := {decide := true, implicitDefEqProofs := false}) [g1, g2, g3, hile, hlt, hnlt, hbi, hb0', hb0, p_Atoi, hpq, hp2, atoiD, hat, h1v, hn, g5, g8]
              · by_cases h2v : 1024 < v
                · have hn : idOk s = false := hf (by simp [numOk, hat]; omega)
                  simp (config := {decide := true, implicitDefEqProofs := false}) [g1, g2, g3, hile, hlt, hnlt, hbi, hb0', hb0, p_Atoi, hpq, hp2, atoiD, hat, h1v, h2v, hn, g5, g8]
                · have hb1 : -9223372036854775808 ≤ v := by omega
                  have hb2 : v ≤ 9223372036854775807 := by omega
                  by_cases h3v : (⟨(Lib.itoa v).toArray⟩ : ByteArray) = p
                  · have hn : numOk p = true := by unfold numOk; rw [hat]; simp only [Bool.and_eq_true, decide_eq_true_eq]; exact ⟨⟨by omega, by omega⟩, h3v⟩
                    simp (config := {decide := true, implicitDefEqProofs := false}) [g1, g2, g3, hile, hlt, hnlt, hbi, hb0', hb0, p_Atoi, hpq, p_Itoa, hp2, atoiD, hat, h1v, h2v, h3v, hb1, hb2, hw, g5, g8]
                    exact ⟨i + 1, i + 1, by omega, rfl, rfl, g3, by omega, by omega, hnext, hfin _ g7 hn⟩
                  · have hn : idOk s = false := hf (by simp [numOk, hat, h3v])
                    simp (config := {decide := true, implicitDefEqProofs := false}) [g1, g2, g3, hile, hlt, hnlt, hbi, hb0', hb0, p_Atoi, hpq, p_Itoa, hp2, atoiD, hat, h1v, h2v, h3v, hb1, hb2, hn, g5, g8]
            | range =>
              have hn : idOk s = false := hf (by simp [numOk, hat])
              by_cases hsat : p.data.toList.head?.map (·.toNat) = some 45
              · have hs2 : Lib.atoiSat p.data.toList = -9223372036854775808 := by unfold Lib.atoiSat; rw [if_pos hsat]
                simp (config := {decide := true, implicitDefEqProofs := false}) [g1, g2, g3, hile, hlt, hnlt, hbi, hb0', hb0, p_Atoi, hpq, hp2, atoiD, hat, hs2, hn, g5, g8]
              · have hs2 : Lib.atoiSat p.data.toList = 9223372036854775807 := by unfold Lib.atoiSat; rw [if_neg hsat]
                simp (config := {decide := true, implicitDefEqProofs := false}) [g1, g2, g3, hile, hlt, hnlt, hbi, hb0', hb0, p_Atoi, hpq, hp2, atoiD, hat, hs2, hn, g5, g8]
            | _ =>
              have hn : idOk s = false := hf (by simp [numOk, hat])
              simp (config := {decide := true, implicitDefEqProofs := false}) [g1, g2, g3, hile, hlt, hnlt, hbi, hb0', hb0, p_Atoi, hpq, hp2, atoiD, hat, hn, g5, g8]
  · have h60' : (60 : Int) < s.size := by omega
    have hn : idOk s = false := by rw [idOk_from]; simp [h60]
    simp (config := {decide := true, implicitDefEqProofs := false}) [Tryz.f75, h60', hn]
end Go.Proofs.YtmfgnajlkoafkaaGreatDoor
end
