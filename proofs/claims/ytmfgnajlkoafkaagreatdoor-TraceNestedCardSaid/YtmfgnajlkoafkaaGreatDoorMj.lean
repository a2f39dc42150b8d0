/- The reference's first error of a lineage, its poses and places. The law LineagePlaces at the machine: it answers true. -/
import Derived.Test.YtmfgnajlkoafkaaGreatDoorMi
import Derived.Test.YtmfgnajlkoafkaaGreatDoorZTs
set_option linter.all false
set_option maxHeartbeats 2000000
section
namespace Go.AM.Lineage
open Go Go.AM Go.AM.Orient
open Go.AM.Enc (enc dec)
open Go.AM.Row (row ofRow)
theorem indexR_none {l : List Piece} {n : Nat} {id : Str} (h : id ∉ idsTo l n) : Go.Proofs.YtmfgnajlkoafkaaGreatDoor.indexR l n id = -1 := by
  unfold Go.Proofs.YtmfgnajlkoafkaaGreatDoor.indexR; rw [idxK_none.2 h]
theorem indexR_some {l : List Piece} {n : Nat} {id : Str} (hn : n ≤ l.length) (h : id ∈ idsTo l n) : ∃ k, ∃ hk : k < l.length, k < n ∧ l[k].Id = id ∧ Go.Proofs.YtmfgnajlkoafkaaGreatDoor.indexR l n id = k := by
  unfold Go.Proofs.YtmfgnajlkoafkaaGreatDoor.indexR
  cases hk : idxK id (idsTo l n) with
  | none => exact absurd h (idxK_none.1 hk)
  | some k =>
    obtain ⟨hj, he⟩ := idxK_some hk
    rw [idsTo_length hn] at hj
    exact ⟨k, by omega, hj, by simpa [idsTo] using he, rfl⟩
theorem idOk_ne {s : Str} (h : idOk s = true) : s ≠ ByteArray.empty := by
  rintro rfl
  rw [idOk_from] at h
  simp [okFrom, splitL, ofBytes, nameOk] at h
end Go.AM.Lineage
namespace Go.Proofs.YtmfgnajlkoafkaaGreatDoor
open Go Go.AM Go.AM.Orient Go.AM.Lineage
open Go.AM.Enc (enc dec)
open Go.AM.Row (row ofRow)
set_option maxRecDepth 100000
set_option linter.unusedVariables false
set_option linter.unusedSimpArgs false
variable {gl : Gb}
noncomputable def prims_C36 (gl : Gb) (f : FuncId) : Option (List D → Option D) := match f with
  | 75 => some p_RId
  | _ => none
noncomputable def C36 (gl : Gb) : Cfg := (C35 gl).more (prims_C36 gl)
@[simp] theorem mutS_C36 (gl : Gb) (f s) : (C36 gl).mutS f s = mutTab f s := rfl
@[simp] theorem pureF_C36 (gl : Gb) (f) : (C36 gl).pureF f = true := rfl
@[simp] theorem glob_C36 (gl : Gb) : (C36 gl).glob = gl := rfl
@[simp] theorem C36_p92 (gl : Gb) : (C36 gl).primF 92 = some p_is := rfl
@[simp] theorem C36_p149 (gl : Gb) : (C36 gl).primF 149 = some p_array := rfl
@[simp] theorem C36_p196 (gl : Gb) : (C36 gl).primF 196 = some p_vec := rfl
@[simp] theorem C36_p98 (gl : Gb) : (C36 gl).primF 98 = some p_add := rfl
@[simp] theorem C36_p148 (gl : Gb) : (C36 gl).primF 148 = some p_neg := rfl
@[simp] theorem C36_p145 (gl : Gb) : (C36 gl).primF 145 = some p_lengths := rfl
@[simp] theorem C36_p140 (gl : Gb) : (C36 gl).primF 140 = some p_inside := rfl
@[simp] theorem C36_p99 (gl : Gb) : (C36 gl).primF 99 = some p_overlap := rfl
@[simp] theorem C36_p150 (gl : Gb) : (C36 gl).primF 150 = some p_apply := rfl
@[simp] theorem C36_p96 (gl : Gb) : (C36 gl).primF 96 = some p_near := rfl
@[simp] theorem C36_p194 (gl : Gb) : (C36 gl).primF 194 = some p_compose1 := rfl
@[simp] theorem C36_p97 (gl : Gb) : (C36 gl).primF 97 = some p_image := rfl
@[simp] theorem C36_p193 (gl : Gb) : (C36 gl).primF 193 = some p_find := rfl
@[simp] theorem C36_p147 (gl : Gb) : (C36 gl).primF 147 = some p_compose := rfl
@[simp] theorem C36_p93 (gl : Gb) : (C36 gl).primF 93 = some p_invert := rfl
@[simp] theorem C36_p190 (gl : Gb) : (C36 gl).primF 190 = some p_result := rfl
@[simp] theorem C36_p95 (gl : Gb) : (C36 gl).primF 95 = some p_turned := rfl
@[simp] theorem C36_p94 (gl : Gb) : (C36 gl).primF 94 = some p_sized := rfl
@[simp] theorem C36_p38 (gl : Gb) : (C36 gl).primF 38 = some p_Invert := rfl
@[simp] theorem C36_p39 (gl : Gb) : (C36 gl).primF 39 = some p_Size := rfl
@[simp] theorem C36_p41 (gl : Gb) : (C36 gl).primF 41 = some p_Box := rfl
@[simp] theorem C36_p142 (gl : Gb) : (C36 gl).primF 142 = some p_Join := rfl
@[simp] theorem C36_p187 (gl : Gb) : (C36 gl).primF 187 = some p_Place := rfl
@[simp] theorem C36_p125 (gl : Gb) : (C36 gl).primF 125 = some p_sizeOf := rfl
@[simp] theorem C36_p139 (gl : Gb) : (C36 gl).primF 139 = some p_right := rfl
@[simp] theorem C36_p182 (gl : Gb) : (C36 gl).primF 182 = some p_Split := rfl
@[simp] theorem C36_p114 (gl : Gb) : (C36 gl).primF 114 = some p_Itoa := rfl
@[simp] theorem C36_p131 (gl : Gb) : (C36 gl).primF 131 = some p_Atoi := rfl
@[simp] theorem C36_p316 (gl : Gb) : (C36 gl).primF 316 = some p_classes := rfl
@[simp] theorem C36_p252 (gl : Gb) : (C36 gl).primF 252 = some p_inner := rfl
@[simp] theorem C36_p251 (gl : Gb) : (C36 gl).primF 251 = some p_Name1 := rfl
@[simp] theorem C36_p250 (gl : Gb) : (C36 gl).primF 250 = some p_run := rfl
@[simp] theorem C36_p183 (gl : Gb) : (C36 gl).primF 183 = some p_Name := rfl
@[simp] theorem C36_p128 (gl : Gb) : (C36 gl).primF 128 = some p_isId := rfl
@[simp] theorem C36_p137 (gl : Gb) : (C36 gl).primF 137 = some p_build1 := rfl
@[simp] theorem C36_p138 (gl : Gb) : (C36 gl).primF 138 = some p_build2 := rfl
@[simp] theorem C36_p184 (gl : Gb) : (C36 gl).primF 184 = some p_IndexFunc := rfl
@[simp] theorem C36_p129 (gl : Gb) : (C36 gl).primF 129 = some p_ContainsFunc := rfl
@[simp] theorem C36_p80 (gl : Gb) : (C36 gl).primF 80 = some p_build := rfl
@[simp] theorem C36_p84 (gl : Gb) : (C36 gl).primF 84 = some p_open := rfl
@[simp] theorem C36_p19 (gl : Gb) : (C36 gl).primF 19 = some p_Check := rfl
@[simp] theorem C36_p85 (gl : Gb) : (C36 gl).primF 85 = some p_pose := rfl
@[simp] theorem C36_p86 (gl : Gb) : (C36 gl).primF 86 = some p_place := rfl
@[simp] theorem C36_p22 (gl : Gb) : (C36 gl).primF 22 = some p_Find := rfl
@[simp] theorem C36_p23 (gl : Gb) : (C36 gl).primF 23 = some p_PoseL := rfl
@[simp] theorem C36_p24 (gl : Gb) : (C36 gl).primF 24 = some p_PlaceL := rfl
@[simp] theorem C36_p16 (gl : Gb) : (C36 gl).primF 16 = some p_awake := rfl
@[simp] theorem C36_p15 (gl : Gb) : (C36 gl).primF 15 = some p_Few := rfl
@[simp] theorem C36_p37 (gl : Gb) : (C36 gl).primF 37 = some p_Volume := rfl
@[simp] theorem C36_p40 (gl : Gb) : (C36 gl).primF 40 = some p_Minus := rfl
@[simp] theorem C36_p179 (gl : Gb) : (C36 gl).primF 179 = some p_apply := rfl
@[simp] theorem C36_p176 (gl : Gb) : (C36 gl).primF 176 = some p_coordinate := rfl
@[simp] theorem C36_p133 (gl : Gb) : (C36 gl).primF 133 = some p_Is := rfl
@[simp] theorem C36_p192 (gl : Gb) : (C36 gl).primF 192 = some p_Plus := rfl
@[simp] theorem C36_p191 (gl : Gb) : (C36 gl).primF 191 = some p_same := rfl
@[simp] theorem C36_p120 (gl : Gb) : (C36 gl).primF 120 = some p_Near := rfl
@[simp] theorem C36_p143 (gl : Gb) : (C36 gl).primF 143 = some p_RCompose := rfl
@[simp] theorem C36_p136 (gl : Gb) : (C36 gl).primF 136 = some p_RInvert := rfl
@[simp] theorem C36_p144 (gl : Gb) : (C36 gl).primF 144 = some p_Point := rfl
@[simp] theorem C36_p66 (gl : Gb) : (C36 gl).primF 66 = some p_Valid := rfl
@[simp] theorem C36_p88 (gl : Gb) : (C36 gl).primF 88 = some p_RBox := rfl
@[simp] theorem C36_p87 (gl : Gb) : (C36 gl).primF 87 = some p_RJoin := rfl
@[simp] theorem C36_p135 (gl : Gb) : (C36 gl).primF 135 = some p_RSize := rfl
@[simp] theorem C36_p134 (gl : Gb) : (C36 gl).primF 134 = some p_RPlace := rfl
@[simp] theorem C36_p132 (gl : Gb) : (C36 gl).primF 132 = some p_sizeB := rfl
@[simp] theorem C36_p79 (gl : Gb) : (C36 gl).primF 79 = some p_SizeR := rfl
@[simp] theorem C36_p78 (gl : Gb) : (C36 gl).primF 78 = some p_WithinR := rfl
@[simp] theorem C36_p43 (gl : Gb) : (C36 gl).primF 43 = some p_MeetR := rfl
@[simp] theorem C36_p77 (gl : Gb) : (C36 gl).primF 77 = some p_RRight := rfl
@[simp] theorem C36_p242 (gl : Gb) : (C36 gl).primF 242 = some p_digit := rfl
@[simp] theorem C36_p173 (gl : Gb) : (C36 gl).primF 173 = some p_letter := rfl
@[simp] theorem C36_p76 (gl : Gb) : (C36 gl).primF 76 = some p_index := rfl
@[simp] theorem C36_p172 (gl : Gb) : (C36 gl).primF 172 = some p_part := rfl
@[simp] theorem C36_p26 (gl : Gb) : (C36 gl).primF 26 = some p_FindR := rfl
@[simp] theorem C36_p117 (gl : Gb) : (C36 gl).primF 117 = some p_RName := rfl
@[simp] theorem C36_p75 (gl : Gb) : (C36 gl).primF 75 = some p_RId := rfl
theorem C36_ok {gl : Gb} (h : (C35 gl).Ok Tryz.prog) : (C36 gl).Ok Tryz.prog := h.more (by
  intro f gf hf
  unfold prims_C36 at hf
  split at hf
  · simp only [Option.some.injEq] at hf; subst hf; exact does_RId
  · cases hf)
theorem any_not {α : Type} {p : α → Bool} {l : List α} (h : l.all p = true) : l.any (fun x => !p x) = false := by
  rw [List.any_eq_false]; intro x hx; simp [List.all_eq_true.1 h x hx]
theorem any_of {α : Type} {p : α → Bool} {l : List α} {i : Nat} (h : i < l.length) (hp : p l[i] = false) : l.any (fun x => !p x) = true := by
  rw [List.any_eq_true]; exact ⟨_, List.getElem_mem h, by simp [hp]⟩
open Classical in
theorem does_RCheck : Does Tryz.prog (C36 gl) 17 p_Check := con1 (fun _ => 1000010) fun l hs ic => by
  obtain ⟨hlen, hids⟩ := hs
  refine W_body (c := _) Tryz.func17 rfl (by simp [Tryz.f17]) ?_
  by_cases h1 : 4096 < l.length
  · have h1' : (4096 : Int) < l.length := by omega
    have he : checkE l = 7 := by simp only [checkE, if_pos h1]
    simp (config := {decide := true, implicitDefEqProofs := false}) [Tryz.f17, h1', he]
  have h1' : ¬ (4096 : Int) < l.length := by omega
  have he0 : checkE l = (if l.any (fun p => !idOk p.Id) then 4 else if Dup l then 5 else if BadParent l then 3 else if l.any (fun p => !right p) then 1 else if Lineage.Outside l then 12 else if Clash l then 11 else 0) := by
    simp only [checkE, if_neg h1]
  simp (config := {decide := true, implicitDefEqProofs := false}) [Tryz.f17, h1']
  refine W_loop rfl (fun (i : Nat) e h => e 3 = .d (I i) ∧ e 0 = .d (.list (l.map row)) ∧ i ≤ l.length ∧ (l.take i).all (fun p => idOk p.Id) = true) (fun i => l.length - i) 0 (by omega) (by simp) ?_
  rintro i e h ⟨g1, g2, g3, g4⟩
  by_cases hlt : i < l.length
  · have hw : IntKind.i64.wrap ((i : Int) + 1) = ((i + 1 : Nat) : Int) := by rw [wrap_i64] <;> omega
    have hsz := hids _ (List.getElem_mem hlt)
    cases hid : idOk l[i].Id with
    | true =>
      simp (config := {decide := true, implicitDefEqProofs := false}) [g1, g2, hlt, hw, p_RId, hsz, hid]
      exact ⟨i + 1, by omega, rfl, by omega, List.all_eq_true.1 (take_all hlt g4 hid)⟩
    | false =>
      have he : checkE l = 4 := by rw [he0, if_pos (any_of (p := fun p => idOk p.Id) hlt hid)]
      simp (config := {decide := true, implicitDefEqProofs := false}) [g1, g2, hlt, hw, p_RId, hsz, hid, he]
  obtain rfl : i = l.length := by omega
  rw [List.take_length] at g4
  have hidok : ∀ p ∈ l, idOk p.Id = true := fun p hp => List.all_eq_true.1 g4 p hp
  rw [any_not g4, if_neg (by decide)] at he0
  simp (config := {decide := true, implicitDefEqProofs := false}) [g1, g2]
  clear g1 g4
  refine W_loop rfl (fun (i : Nat) e h => e 4 = .d (I i) ∧ e 0 = .d (.list (l.map row)) ∧ i ≤ l.length ∧ ∀ j (hj : j < l.length), j < i → l[j].Id ∉ idsTo l j) (fun i => l.length - i) 0 (by omega) (by simp [g2]) ?_
  clear g2 g3 hlt e h
  rintro i e h ⟨g1, g2, g3, g4⟩
  by_cases hlt : i < l.length
  · have hw : IntKind.i64.wrap ((i : Int) + 1) = ((i + 1 : Nat) : Int) := by rw [wrap_i64] <;> omega
    by_cases hm : l[i].Id ∈ idsTo l i
    · obtain ⟨k, hk, _, _, hr⟩ := indexR_some (Nat.le_of_lt hlt) hm
      have he : checkE l = 5 := by rw [he0, if_pos ⟨i, hlt, hm⟩]
      simp (config := {decide := true, implicitDefEqProofs := false}) [g1, g2, hlt, Nat.le_of_lt hlt, hlen, p_index, hr, hw, he]
    · have hr := indexR_none hm
      simp (config := {decide := true, implicitDefEqProofs := false}) [g1, g2, hlt, Nat.le_of_lt hlt, hlen, p_index, hr, hw]
      refine ⟨i + 1, by omega, rfl, by omega, fun j hj hji => ?_⟩
      by_cases e : j = i
      · subst e; exact hm
      · exact g4 j hj (by omega)
  obtain rfl : i = l.length := by omega
  have hnd : ∀ j (hj : j < l.length), l[j].Id ∉ idsTo l j := fun j hj => g4 j hj hj
  rw [if_neg (show ¬ Dup l from fun ⟨j, hj, hm⟩ => hnd j hj hm)] at he0
  simp (config := {decide := true, implicitDefEqProofs := false}) [g1, g2]
  clear g1 g4
  refine W_loop rfl (fun (i : Nat) e h => e 5 = .d (I i) ∧ e 0 = .d (.list (l.map row)) ∧ i ≤ l.length ∧ ∀ j (hj : j < l.length), j < i → l[j].Parent = ByteArray.empty ∨ l[j].Parent ∈ idsTo l j) (fun i => l.length - i) 0 (by omega) (by simp [g2]) ?_
  clear g2 g3 hlt e h
  rintro i e h ⟨g1, g2, g3, g4⟩
  by_cases hlt : i < l.length
  · have hw : IntKind.i64.wrap ((i : Int) + 1) = ((i + 1 : Nat) : Int) := by rw [wrap_i64] <;> omega
    have hnext : (l[i].Parent = ByteArray.empty ∨ l[i].Parent ∈ idsTo l i) → ∀ j (hj : j < l.length), j < i + 1 → l[j].Parent = ByteArray.empty ∨ l[j].Parent ∈ idsTo l j := fun hx j hj hji => by
      by_cases e : j = i
      · subst e; exact hx
      · exact g4 j hj (by omega)
    by_cases hp : l[i].Parent = ByteArray.empty
    · have hp' : l[i].Parent = ⟨#[]⟩ := hp
      simp (config := {decide := true, implicitDefEqProofs := false}) [g1, g2, hlt, Nat.le_of_lt hlt, hlen, p_index, hp', hw]
      exact ⟨i + 1, by omega, rfl, by omega, hnext (.inl hp)⟩
    · have hp' : ¬ l[i].Parent = ⟨#[]⟩ := hp
      by_cases hm : l[i].Parent ∈ idsTo l i
      · obtain ⟨k, hk, _, _, hr⟩ := indexR_some (Nat.le_of_lt hlt) hm
        have hk0 : ¬ (k : Int) < 0 := by omega
        simp (config := {decide := true, implicitDefEqProofs := false}) [g1, g2, hlt, Nat.le_of_lt hlt, hlen, p_index, hp', hr, hk0, hw]
        exact ⟨i + 1, by omega, rfl, by omega, hnext (.inr hm)⟩
      · have hr := indexR_none hm
        have he : checkE l = 3 := by rw [he0, if_pos ⟨i, hlt, hp, hm⟩]
        simp (config := {decide := true, implicitDefEqProofs := false}) [g1, g2, hlt, Nat.le_of_lt hlt, hlen, p_index, hp', hr, hw, he]
  obtain rfl : i = l.length := by omega
  have hpar : ∀ j (hj : j < l.length), l[j].Parent = ByteArray.empty ∨ l[j].Parent ∈ idsTo l j := fun j hj => g4 j hj hj
  rw [if_neg (show ¬ BadParent l from fun ⟨j, hj, h2, h3⟩ => (hpar j hj).elim h2 h3)] at he0
  simp (config := {decide := true, implicitDefEqProofs := false}) [g1, g2]
  clear g1 g4
  refine W_loop rfl (fun (i : Nat) e h => e 6 = .d (I i) ∧ e 0 = .d (.list (l.map row)) ∧ i ≤ l.length ∧ (l.take i).all right = true) (fun i => l.length - i) 0 (by omega) (by simp [g2]) ?_
  clear g2 g3 hlt e h
  rintro i e h ⟨g1, g2, g3, g4⟩
  by_cases hlt : i < l.length
  · have hw : IntKind.i64.wrap ((i : Int) + 1) = ((i + 1 : Nat) : Int) := by rw [wrap_i64] <;> omega
    cases hid : right l[i] with
    | true =>
      simp (config := {decide := true, implicitDefEqProofs := false}) [g1, g2, hlt, hw, p_RRight, hid]
      exact ⟨i + 1, by omega, rfl, by omega, List.all_eq_true.1 (take_all hlt g4 hid)⟩
    | false =>
      have he : checkE l = 1 := by rw [he0, if_pos (any_of hlt hid)]
      simp (config := {decide := true, implicitDefEqProofs := false}) [g1, g2, hlt, hw, p_RRight, hid, he]
  obtain rfl : i = l.length := by omega
  rw [List.take_length] at g4
  have hright : ∀ p ∈ l, right p = true := fun p hp => List.all_eq_true.1 g4 p hp
  rw [any_not g4, if_neg (by decide)] at he0
  simp (config := {decide := true, implicitDefEqProofs := false}) [g1, g2]
  clear g1 g4
  refine W_loop rfl (fun (i : Nat) e h => e 7 = .d (I i) ∧ e 0 = .d (.list (l.map row)) ∧ i ≤ l.length ∧ ∀ j (hj : j < l.length), j < i → l[j].Parent ≠ ByteArray.empty → ∀ k (hk : k < l.length), l[k].Id = l[j].Parent → inside l[j].Box ⟨zeroV, (Lineage.sizeOf l[k]).1⟩ = true) (fun i => l.length - i) 0 (by omega) (by simp [g2]) ?_
  clear g2 g3 hlt e h
  rintro i e h ⟨g1, g2, g3, g4⟩
  by_cases hlt : i < l.length
  · have hw : IntKind.i64.wrap ((i : Int) + 1) = ((i + 1 : Nat) : Int) := by rw [wrap_i64] <;> omega
    have hnext : (l[i].Parent ≠ ByteArray.empty → ∀ k (hk : k < l.length), l[k].Id = l[i].Parent → inside l[i].Box ⟨zeroV, (Lineage.sizeOf l[k]).1⟩ = true) →
        ∀ j (hj : j < l.length), j < i + 1 → l[j].Parent ≠ ByteArray.empty → ∀ k (hk : k < l.length), l[k].Id = l[j].Parent → inside l[j].Box ⟨zeroV, (Lineage.sizeOf l[k]).1⟩ = true := fun hx j hj hji => by
      by_cases e : j = i
      · subst e; exact hx
      · exact g4 j hj (by omega)
    by_cases hp : l[i].Parent = ByteArray.empty
    · have hm : l[i].Parent ∉ idsTo l i := fun hm => by
        obtain ⟨k, hk, _, he⟩ := mem_idsTo.1 hm
        exact idOk_ne (hidok _ (List.getElem_mem hk)) (he.trans hp)
      have hr := indexR_none hm
      simp (config := {decide := true, implicitDefEqProofs := false}) [g1, g2, hlt, Nat.le_of_lt hlt, hlen, p_index, hr, hw]
      exact ⟨i + 1, by omega, rfl, by omega, hnext fun h => absurd hp h⟩
    · have hm := (hpar i hlt).resolve_left hp
      obtain ⟨k, hk, _, hid, hr⟩ := indexR_some (Nat.le_of_lt hlt) hm
      have hrk := hright _ (List.getElem_mem hk)
      have hok : okTurn l[k].Pose.Turn = true := (right_spec hrk).1
      have hsz := sizeOfR_right hrk
      cases hin : inside l[i].Box ⟨zeroV, (Lineage.sizeOf l[k]).1⟩ with
      | true =>
        simp (config := {decide := true, implicitDefEqProofs := false}) [g1, g2, hlt, Nat.le_of_lt hlt, hlen, p_index, hr, hk, p_SizeR, p_WithinR, hok, hsz, hin, hw]
        refine ⟨i + 1, by omega, rfl, by omega, hnext fun _ k' hk' he => ?_⟩
        obtain rfl : k' = k := ids_inj hnd hk' hk (by rw [he, hid])
        exact hin
      | false =>
        have he : checkE l = 12 := by rw [he0, if_pos ⟨i, hlt, hp, k, hk, hid, hin⟩]
        simp (config := {decide := true, implicitDefEqProofs := false}) [g1, g2, hlt, Nat.le_of_lt hlt, hlen, p_index, hr, hk, p_SizeR, p_WithinR, hok, hsz, hin, hw, he]
  obtain rfl : i = l.length := by omega
  rw [if_neg (show ¬ Lineage.Outside l from fun ⟨j, hj, h3, k, hk, h4, h5⟩ => by rw [g4 j hj hj h3 k hk h4] at h5; cases h5)] at he0
  simp (config := {decide := true, implicitDefEqProofs := false}) [g1, g2]
  clear g1 g4
  refine W_loop rfl (fun (i : Nat) e h => e 9 = .d (I i) ∧ e 0 = .d (.list (l.map row)) ∧ i ≤ l.length ∧ ∀ j k (hj : j < l.length) (hk : k < j), j < i → l[j].Parent = l[k].Parent → overlap l[j].Box l[k].Box = false) (fun i => l.length - i) 0 (by omega) (by simp [g2]) ?_
  clear g2 g3 hlt e h
  rintro i e h ⟨g1, g2, g3, g4⟩
  by_cases hlt : i < l.length
  · have hw : IntKind.i64.wrap ((i : Int) + 1) = ((i + 1 : Nat) : Int) := by rw [wrap_i64] <;> omega
    simp (config := {decide := true, implicitDefEqProofs := false}) [g1, g2, hlt]
    refine W_loop rfl (fun (k : Nat) e h => e 10 = .d (I k) ∧ e 9 = .d (I i) ∧ e 0 = .d (.list (l.map row)) ∧ k ≤ i ∧ ∀ k' (hk : k' < i), k' < k → l[i].Parent = l[k'].Parent → overlap l[i].Box l[k'].Box = false) (fun k => i - k) 0 (by omega) (by simp [g1, g2]) ?_
    rintro k e2 h2 ⟨d1, d2, d3, d4, d5⟩
    by_cases hki : k < i
    · have hwk : IntKind.i64.wrap ((k : Int) + 1) = ((k + 1 : Nat) : Int) := by rw [wrap_i64] <;> omega
      have hkl : k < l.length := by omega
      have hnext : (l[i].Parent = l[k].Parent → overlap l[i].Box l[k].Box = false) → ∀ k' (hk : k' < i), k' < k + 1 → l[i].Parent = l[k'].Parent → overlap l[i].Box l[k'].Box = false := fun hx k' hk' hkk => by
        by_cases e : k' = k
        · subst e; exact hx
        · exact d5 k' hk' (by omega)
      by_cases hp : l[i].Parent = l[k].Parent
      · cases ho : overlap l[i].Box l[k].Box with
        | false =>
          simp (config := {decide := true, implicitDefEqProofs := false}) [d1, d2, d3, hki, hkl, hlt, hp, p_MeetR, ho, hwk]
          exact ⟨k + 1, by omega, rfl, by omega, by rw [← hp]; exact hnext fun _ => ho⟩
        | true =>
          have he : checkE l = 11 := by rw [he0, if_pos ⟨i, k, hlt, hki, hp, ho⟩]
          simp (config := {decide := true, implicitDefEqProofs := false}) [d1, d2, d3, hki, hkl, hlt, hp, p_MeetR, ho, hwk, he]
      · simp (config := {decide := true, implicitDefEqProofs := false}) [d1, d2, d3, hki, hkl, hlt, hp, hwk]
        exact ⟨k + 1, by omega, rfl, by omega, hnext fun h => absurd h hp⟩
    · obtain rfl : k = i := by omega
      simp (config := {decide := true, implicitDefEqProofs := false}) [d1, d2, d3, hw]
      refine ⟨k + 1, by omega, rfl, by omega, fun j k' hj hk' hji => ?_⟩
      by_cases e : j = k
      · subst e; exact d5 k' hk' hk'
      · exact g4 j k' hj hk' (by omega)
  obtain rfl : i = l.length := by omega
  have hNc : ¬ Clash l := fun ⟨j, k, hj, hk, hp, ho⟩ => by rw [g4 j k hj hk hj hp] at ho; cases ho
  rw [if_neg hNc] at he0
  simp (config := {decide := true, implicitDefEqProofs := false}) [g1, g2, he0]
noncomputable def prims_C37 (gl : Gb) (f : FuncId) : Option (List D → Option D) := match f with
  | 17 => some p_Check
  | _ => none
noncomputable def C37 (gl : Gb) : Cfg := (C36 gl).more (prims_C37 gl)
@[simp] theorem mutS_C37 (gl : Gb) (f s) : (C37 gl).mutS f s = mutTab f s := rfl
@[simp] theorem pureF_C37 (gl : Gb) (f) : (C37 gl).pureF f = true := rfl
@[simp] theorem glob_C37 (gl : Gb) : (C37 gl).glob = gl := rfl
@[simp] theorem C37_p92 (gl : Gb) : (C37 gl).primF 92 = some p_is := rfl
@[simp] theorem C37_p149 (gl : Gb) : (C37 gl).primF 149 = some p_array := rfl
@[simp] theorem C37_p196 (gl : Gb) : (C37 gl).primF 196 = some p_vec := rfl
@[simp] theorem C37_p98 (gl : Gb) : (C37 gl).primF 98 = some p_add := rfl
@[simp] theorem C37_p148 (gl : Gb) : (C37 gl).primF 148 = some p_neg := rfl
@[simp] theorem C37_p145 (gl : Gb) : (C37 gl).primF 145 = some p_lengths := rfl
@[simp] theorem C37_p140 (gl : Gb) : (C37 gl).primF 140 = some p_inside := rfl
@[simp] theorem C37_p99 (gl : Gb) : (C37 gl).primF 99 = some p_overlap := rfl
@[simp] theorem C37_p150 (gl : Gb) : (C37 gl).primF 150 = some p_apply := rfl
@[simp] theorem C37_p96 (gl : Gb) : (C37 gl).primF 96 = some p_near := rfl
@[simp] theorem C37_p194 (gl : Gb) : (C37 gl).primF 194 = some p_compose1 := rfl
@[simp] theorem C37_p97 (gl : Gb) : (C37 gl).primF 97 = some p_image := rfl
@[simp] theorem C37_p193 (gl : Gb) : (C37 gl).primF 193 = some p_find := rfl
@[simp] theorem C37_p147 (gl : Gb) : (C37 gl).primF 147 = some p_compose := rfl
@[simp] theorem C37_p93 (gl : Gb) : (C37 gl).primF 93 = some p_invert := rfl
@[simp] theorem C37_p190 (gl : Gb) : (C37 gl).primF 190 = some p_result := rfl
@[simp] theorem C37_p95 (gl : Gb) : (C37 gl).primF 95 = some p_turned := rfl
@[simp] theorem C37_p94 (gl : Gb) : (C37 gl).primF 94 = some p_sized := rfl
@[simp] theorem C37_p38 (gl : Gb) : (C37 gl).primF 38 = some p_Invert := rfl
@[simp] theorem C37_p39 (gl : Gb) : (C37 gl).primF 39 = some p_Size := rfl
@[simp] theorem C37_p41 (gl : Gb) : (C37 gl).primF 41 = some p_Box := rfl
@[simp] theorem C37_p142 (gl : Gb) : (C37 gl).primF 142 = some p_Join := rfl
@[simp] theorem C37_p187 (gl : Gb) : (C37 gl).primF 187 = some p_Place := rfl
@[simp] theorem C37_p125 (gl : Gb) : (C37 gl).primF 125 = some p_sizeOf := rfl
@[simp] theorem C37_p139 (gl : Gb) : (C37 gl).primF 139 = some p_right := rfl
@[simp] theorem C37_p182 (gl : Gb) : (C37 gl).primF 182 = some p_Split := rfl
@[simp] theorem C37_p114 (gl : Gb) : (C37 gl).primF 114 = some p_Itoa := rfl
@[simp] theorem C37_p131 (gl : Gb) : (C37 gl).primF 131 = some p_Atoi := rfl
@[simp] theorem C37_p316 (gl : Gb) : (C37 gl).primF 316 = some p_classes := rfl
@[simp] theorem C37_p252 (gl : Gb) : (C37 gl).primF 252 = some p_inner := rfl
@[simp] theorem C37_p251 (gl : Gb) : (C37 gl).primF 251 = some p_Name1 := rfl
@[simp] theorem C37_p250 (gl : Gb) : (C37 gl).primF 250 = some p_run := rfl
@[simp] theorem C37_p183 (gl : Gb) : (C37 gl).primF 183 = some p_Name := rfl
@[simp] theorem C37_p128 (gl : Gb) : (C37 gl).primF 128 = some p_isId := rfl
@[simp] theorem C37_p137 (gl : Gb) : (C37 gl).primF 137 = some p_build1 := rfl
@[simp] theorem C37_p138 (gl : Gb) : (C37 gl).primF 138 = some p_build2 := rfl
@[simp] theorem C37_p184 (gl : Gb) : (C37 gl).primF 184 = some p_IndexFunc := rfl
@[simp] theorem C37_p129 (gl : Gb) : (C37 gl).primF 129 = some p_ContainsFunc := rfl
@[simp] theorem C37_p80 (gl : Gb) : (C37 gl).primF 80 = some p_build := rfl
@[simp] theorem C37_p84 (gl : Gb) : (C37 gl).primF 84 = some p_open := rfl
@[simp] theorem C37_p19 (gl : Gb) : (C37 gl).primF 19 = some p_Check := rfl
@[simp] theorem C37_p85 (gl : Gb) : (C37 gl).primF 85 = some p_pose := rfl
@[simp] theorem C37_p86 (gl : Gb) : (C37 gl).primF 86 = some p_place := rfl
@[simp] theorem C37_p22 (gl : Gb) : (C37 gl).primF 22 = some p_Find := rfl
@[simp] theorem C37_p23 (gl : Gb) : (C37 gl).primF 23 = some p_PoseL := rfl
@[simp] theorem C37_p24 (gl : Gb) : (C37 gl).primF 24 = some p_PlaceL := rfl
@[simp] theorem C37_p16 (gl : Gb) : (C37 gl).primF 16 = some p_awake := rfl
@[simp] theorem C37_p15 (gl : Gb) : (C37 gl).primF 15 = some p_Few := rfl
@[simp] theorem C37_p37 (gl : Gb) : (C37 gl).primF 37 = some p_Volume := rfl
@[simp] theorem C37_p40 (gl : Gb) : (C37 gl).primF 40 = some p_Minus := rfl
@[simp] theorem C37_p179 (gl : Gb) : (C37 gl).primF 179 = some p_apply := rfl
@[simp] theorem C37_p176 (gl : Gb) : (C37 gl).primF 176 = some p_coordinate := rfl
@[simp] theorem C37_p133 (gl : Gb) : (C37 gl).primF 133 = some p_Is := rfl
@[simp] theorem C37_p192 (gl : Gb) : (C37 gl).primF 192 = some p_Plus := rfl
@[simp] theorem C37_p191 (gl : Gb) : (C37 gl).primF 191 = some p_same := rfl
@[simp] theorem C37_p120 (gl : Gb) : (C37 gl).primF 120 = some p_Near := rfl
@[simp] theorem C37_p143 (gl : Gb) : (C37 gl).primF 143 = some p_RCompose := rfl
@[simp] theorem C37_p136 (gl : Gb) : (C37 gl).primF 136 = some p_RInvert := rfl
@[simp] theorem C37_p144 (gl : Gb) : (C37 gl).primF 144 = some p_Point := rfl
@[simp] theorem C37_p66 (gl : Gb) : (C37 gl).primF 66 = some p_Valid := rfl
@[simp] theorem C37_p88 (gl : Gb) : (C37 gl).primF 88 = some p_RBox := rfl
@[simp] theorem C37_p87 (gl : Gb) : (C37 gl).primF 87 = some p_RJoin := rfl
@[simp] theorem C37_p135 (gl : Gb) : (C37 gl).primF 135 = some p_RSize := rfl
@[simp] theorem C37_p134 (gl : Gb) : (C37 gl).primF 134 = some p_RPlace := rfl
@[simp] theorem C37_p132 (gl : Gb) : (C37 gl).primF 132 = some p_sizeB := rfl
@[simp] theorem C37_p79 (gl : Gb) : (C37 gl).primF 79 = some p_SizeR := rfl
@[simp] theorem C37_p78 (gl : Gb) : (C37 gl).primF 78 = some p_WithinR := rfl
@[simp] theorem C37_p43 (gl : Gb) : (C37 gl).primF 43 = some p_MeetR := rfl
@[simp] theorem C37_p77 (gl : Gb) : (C37 gl).primF 77 = some p_RRight := rfl
@[simp] theorem C37_p242 (gl : Gb) : (C37 gl).primF 242 = some p_digit := rfl
@[simp] theorem C37_p173 (gl : Gb) : (C37 gl).primF 173 = some p_letter := rfl
@[simp] theorem C37_p76 (gl : Gb) : (C37 gl).primF 76 = some p_index := rfl
@[simp] theorem C37_p172 (gl : Gb) : (C37 gl).primF 172 = some p_part := rfl
@[simp] theorem C37_p26 (gl : Gb) : (C37 gl).primF 26 = some p_FindR := rfl
@[simp] theorem C37_p117 (gl : Gb) : (C37 gl).primF 117 = some p_RName := rfl
@[simp] theorem C37_p75 (gl : Gb) : (C37 gl).primF 75 = some p_RId := rfl
@[simp] theorem C37_p17 (gl : Gb) : (C37 gl).primF 17 = some p_Check := rfl
theorem C37_ok {gl : Gb} (h : (C36 gl).Ok Tryz.prog) : (C37 gl).Ok Tryz.prog := h.more (by
  intro f gf hf
  unfold prims_C37 at hf
  split at hf
  · simp only [Option.some.injEq] at hf; subst hf; exact does_RCheck
  · cases hf)
noncomputable def p_first : List D → Option D := p2 fun (l : List Piece) (id : Str) => if shortIds l then some (I (firstE l id)) else none
theorem indexR_all (l : List Piece) (id : Str) : indexR l l.length id = match idxK id (idsTo l l.length) with | some k => (k : Int) | none => -1 := rfl
theorem does_first : Does Tryz.prog (C37 gl) 25 p_first := con2 (fun _ _ => 10) fun l id hs ic => by
  have hlen := hs.1
  refine W_body (c := _) Tryz.func25 rfl (by simp [Tryz.f25]) ?_
  by_cases hc : checkE l = 0
  · cases hk : idxK id (idsTo l l.length) with
    | none =>
      have hr : indexR l l.length id = -1 := by rw [indexR_all, hk]
      have he : firstE l id = 3 := by simp [firstE, hc, hk]
      simp (config := {decide := true, implicitDefEqProofs := false}) [Tryz.f25, p_Check, p_FindR, hs, hlen, hc, hr, he]
    | some k =>
      have hr : indexR l l.length id = k := by rw [indexR_all, hk]
      have he : firstE l id = 0 := by simp [firstE, hc, hk]
      have hk0 : ¬ (k : Int) < 0 := by omega
      simp (config := {decide := true, implicitDefEqProofs := false}) [Tryz.f25, p_Check, p_FindR, hs, hlen, hc, hr, he, hk0]
  · have he : firstE l id = checkE l := by simp [firstE, hc]
    simp (config := {decide := true, implicitDefEqProofs := false}) [Tryz.f25, p_Check, p_FindR, hs, hlen, hc, he]
theorem rpose_run (l : List Piece) (hs : l.length < 1000000) (hc : checkE l = 0) : ∀ (K i : Nat), i < l.length → i + 10 ≤ K → pcall Tryz.prog (C37 gl) K 27 [enc l, I i] = some (enc (poseOf l i))
  | 0, i, _, h => by omega
  | K + 1, i, hi, hK => by
    refine pcall_of ?_
    refine W_body (c := _) Tryz.func27 rfl (by simp [Tryz.f27]) ?_
    by_cases hp : l[i].Parent = ByteArray.empty
    · have hp' : l[i].Parent = ⟨#[]⟩ := hp
      rw [poseOf_top hi hp]
      simp (config := {decide := true, implicitDefEqProofs := false}) [Tryz.f27, hi, hp']
    · have hp' : ¬ l[i].Parent = ⟨#[]⟩ := hp
      obtain ⟨k, hk, hki⟩ := parent_of hc hi hp
      have hkl : k < l.length := by omega
      have ih := rpose_run l hs hc K k hkl (by omega)
      have hr : indexR l l.length l[i].Parent = k := by rw [indexR_all, hk]
      obtain ⟨_, _, _, _, hright, _, _⟩ := valid_of hc
      have r1 := (right_spec (hright _ (List.getElem_mem hi))).1
      have hq := (posed hc k hkl).turn
      have hj := joinR_kid hc hi hp hk hki
      have hpk : ∀ h, pickC (C37 gl) (icall Tryz.prog (C37 gl) K) K (.fn 27) [V.d (.list (l.map row)), V.d (I k)] h = some (V.d (enc (poseOf l k)), h) := fun h => pick_pure (by rfl) (by rfl) rfl (by rfl) ih
      simp only [enc_Pose] at hpk
      simp (config := {decide := true, implicitDefEqProofs := false}) [Tryz.f27, hi, hp', p_FindR, hs, hr, hpk, p_RJoin, hq, r1, hj]
open Classical in
noncomputable def p_RPose : List D → Option D := p2 fun (l : List Piece) (i : Int) => if l.length < 1000000 ∧ checkE l = 0 ∧ 0 ≤ i ∧ i < l.length then some (enc (poseOf l i.toNat)) else none
theorem does_RPose : Does Tryz.prog (C37 gl) 27 p_RPose := Does.p2 fun l i d hd => by
  split at hd
  · rename_i h
    obtain ⟨h1, h2, h3, h4⟩ := h
    cases hd
    have := rpose_run (gl := gl) l h1 h2 (i.toNat + 10) i.toNat (by omega) (by omega)
    simp only [Int.toNat_of_nonneg h3] at this
    exact ⟨_, this⟩
  · cases hd
noncomputable def prims_C38 (gl : Gb) (f : FuncId) : Option (List D → Option D) := match f with
  | 25 => some p_first
  | 27 => some p_RPose
  | _ => none
noncomputable def C38 (gl : Gb) : Cfg := (C37 gl).more (prims_C38 gl)
@[simp] theorem mutS_C38 (gl : Gb) (f s) : (C38 gl).mutS f s = mutTab f s := rfl
@[simp] theorem pureF_C38 (gl : Gb) (f) : (C38 gl).pureF f = true := rfl
@[simp] theorem glob_C38 (gl : Gb) : (C38 gl).glob = gl := rfl
@[simp] theorem C38_p92 (gl : Gb) : (C38 gl).primF 92 = some p_is := rfl
@[simp] theorem C38_p149 (gl : Gb) : (C38 gl).primF 149 = some p_array := rfl
@[simp] theorem C38_p196 (gl : Gb) : (C38 gl).primF 196 = some p_vec := rfl
@[simp] theorem C38_p98 (gl : Gb) : (C38 gl).primF 98 = some p_add := rfl
@[simp] theorem C38_p148 (gl : Gb) : (C38 gl).primF 148 = some p_neg := rfl
@[simp] theorem C38_p145 (gl : Gb) : (C38 gl).primF 145 = some p_lengths := rfl
@[simp] theorem C38_p140 (gl : Gb) : (C38 gl).primF 140 = some p_inside := rfl
@[simp] theorem C38_p99 (gl : Gb) : (C38 gl).primF 99 = some p_overlap := rfl
@[simp] theorem C38_p150 (gl : Gb) : (C38 gl).primF 150 = some p_apply := rfl
@[simp] theorem C38_p96 (gl : Gb) : (C38 gl).primF 96 = some p_near := rfl
@[simp] theorem C38_p194 (gl : Gb) : (C38 gl).primF 194 = some p_compose1 := rfl
@[simp] theorem C38_p97 (gl : Gb) : (C38 gl).primF 97 = some p_image := rfl
@[simp] theorem C38_p193 (gl : Gb) : (C38 gl).primF 193 = some p_find := rfl
@[simp] theorem C38_p147 (gl : Gb) : (C38 gl).primF 147 = some p_compose := rfl
@[simp] theorem C38_p93 (gl : Gb) : (C38 gl).primF 93 = some p_invert := rfl
@[simp] theorem C38_p190 (gl : Gb) : (C38 gl).primF 190 = some p_result := rfl
@[simp] theorem C38_p95 (gl : Gb) : (C38 gl).primF 95 = some p_turned := rfl
@[simp] theorem C38_p94 (gl : Gb) : (C38 gl).primF 94 = some p_sized := rfl
@[simp] theorem C38_p38 (gl : Gb) : (C38 gl).primF 38 = some p_Invert := rfl
@[simp] theorem C38_p39 (gl : Gb) : (C38 gl).primF 39 = some p_Size := rfl
@[simp] theorem C38_p41 (gl : Gb) : (C38 gl).primF 41 = some p_Box := rfl
@[simp] theorem C38_p142 (gl : Gb) : (C38 gl).primF 142 = some p_Join := rfl
@[simp] theorem C38_p187 (gl : Gb) : (C38 gl).primF 187 = some p_Place := rfl
@[simp] theorem C38_p125 (gl : Gb) : (C38 gl).primF 125 = some p_sizeOf := rfl
@[simp] theorem C38_p139 (gl : Gb) : (C38 gl).primF 139 = some p_right := rfl
@[simp] theorem C38_p182 (gl : Gb) : (C38 gl).primF 182 = some p_Split := rfl
@[simp] theorem C38_p114 (gl : Gb) : (C38 gl).primF 114 = some p_Itoa := rfl
@[simp] theorem C38_p131 (gl : Gb) : (C38 gl).primF 131 = some p_Atoi := rfl
@[simp] theorem C38_p316 (gl : Gb) : (C38 gl).primF 316 = some p_classes := rfl
@[simp] theorem C38_p252 (gl : Gb) : (C38 gl).primF 252 = some p_inner := rfl
@[simp] theorem C38_p251 (gl : Gb) : (C38 gl).primF 251 = some p_Name1 := rfl
@[simp] theorem C38_p250 (gl : Gb) : (C38 gl).primF 250 = some p_run := rfl
@[simp] theorem C38_p183 (gl : Gb) : (C38 gl).primF 183 = some p_Name := rfl
@[simp] theorem C38_p128 (gl : Gb) : (C38 gl).primF 128 = some p_isId := rfl
@[simp] theorem C38_p137 (gl : Gb) : (C38 gl).primF 137 = some p_build1 := rfl
@[simp] theorem C38_p138 (gl : Gb) : (C38 gl).primF 138 = some p_build2 := rfl
@[simp] theorem C38_p184 (gl : Gb) : (C38 gl).primF 184 = some p_IndexFunc := rfl
@[simp] theorem C38_p129 (gl : Gb) : (C38 gl).primF 129 = some p_ContainsFunc := rfl
@[simp] theorem C38_p80 (gl : Gb) : (C38 gl).primF 80 = some p_build := rfl
@[simp] theorem C38_p84 (gl : Gb) : (C38 gl).primF 84 = some p_open := rfl
@[simp] theorem C38_p19 (gl : Gb) : (C38 gl).primF 19 = some p_Check := rfl
@[simp] theorem C38_p85 (gl : Gb) : (C38 gl).primF 85 = some p_pose := rfl
@[simp] theorem C38_p86 (gl : Gb) : (C38 gl).primF 86 = some p_place := rfl
@[simp] theorem C38_p22 (gl : Gb) : (C38 gl).primF 22 = some p_Find := rfl
@[simp] theorem C38_p23 (gl : Gb) : (C38 gl).primF 23 = some p_PoseL := rfl
@[simp] theorem C38_p24 (gl : Gb) : (C38 gl).primF 24 = some p_PlaceL := rfl
@[simp] theorem C38_p16 (gl : Gb) : (C38 gl).primF 16 = some p_awake := rfl
@[simp] theorem C38_p15 (gl : Gb) : (C38 gl).primF 15 = some p_Few := rfl
@[simp] theorem C38_p37 (gl : Gb) : (C38 gl).primF 37 = some p_Volume := rfl
@[simp] theorem C38_p40 (gl : Gb) : (C38 gl).primF 40 = some p_Minus := rfl
@[simp] theorem C38_p179 (gl : Gb) : (C38 gl).primF 179 = some p_apply := rfl
@[simp] theorem C38_p176 (gl : Gb) : (C38 gl).primF 176 = some p_coordinate := rfl
@[simp] theorem C38_p133 (gl : Gb) : (C38 gl).primF 133 = some p_Is := rfl
@[simp] theorem C38_p192 (gl : Gb) : (C38 gl).primF 192 = some p_Plus := rfl
@[simp] theorem C38_p191 (gl : Gb) : (C38 gl).primF 191 = some p_same := rfl
@[simp] theorem C38_p120 (gl : Gb) : (C38 gl).primF 120 = some p_Near := rfl
@[simp] theorem C38_p143 (gl : Gb) : (C38 gl).primF 143 = some p_RCompose := rfl
@[simp] theorem C38_p136 (gl : Gb) : (C38 gl).primF 136 = some p_RInvert := rfl
@[simp] theorem C38_p144 (gl : Gb) : (C38 gl).primF 144 = some p_Point := rfl
@[simp] theorem C38_p66 (gl : Gb) : (C38 gl).primF 66 = some p_Valid := rfl
@[simp] theorem C38_p88 (gl : Gb) : (C38 gl).primF 88 = some p_RBox := rfl
@[simp] theorem C38_p87 (gl : Gb) : (C38 gl).primF 87 = some p_RJoin := rfl
@[simp] theorem C38_p135 (gl : Gb) : (C38 gl).primF 135 = some p_RSize := rfl
@[simp] theorem C38_p134 (gl : Gb) : (C38 gl).primF 134 = some p_RPlace := rfl
@[simp] theorem C38_p132 (gl : Gb) : (C38 gl).primF 132 = some p_sizeB := rfl
@[simp] theorem C38_p79 (gl : Gb) : (C38 gl).primF 79 = some p_SizeR := rfl
@[simp] theorem C38_p78 (gl : Gb) : (C38 gl).primF 78 = some p_WithinR := rfl
@[simp] theorem C38_p43 (gl : Gb) : (C38 gl).primF 43 = some p_MeetR := rfl
@[simp] theorem C38_p77 (gl : Gb) : (C38 gl).primF 77 = some p_RRight := rfl
@[simp] theorem C38_p242 (gl : Gb) : (C38 gl).primF 242 = some p_digit := rfl
@[simp] theorem C38_p173 (gl : Gb) : (C38 gl).primF 173 = some p_letter := rfl
@[simp] theorem C38_p76 (gl : Gb) : (C38 gl).primF 76 = some p_index := rfl
@[simp] theorem C38_p172 (gl : Gb) : (C38 gl).primF 172 = some p_part := rfl
@[simp] theorem C38_p26 (gl : Gb) : (C38 gl).primF 26 = some p_FindR := rfl
@[simp] theorem C38_p117 (gl : Gb) : (C38 gl).primF 117 = some p_RName := rfl
@[simp] theorem C38_p75 (gl : Gb) : (C38 gl).primF 75 = some p_RId := rfl
@[simp] theorem C38_p17 (gl : Gb) : (C38 gl).primF 17 = some p_Check := rfl
@[simp] theorem C38_p25 (gl : Gb) : (C38 gl).primF 25 = some p_first := rfl
@[simp] theorem C38_p27 (gl : Gb) : (C38 gl).primF 27 = some p_RPose := rfl
theorem C38_ok {gl : Gb} (h : (C37 gl).Ok Tryz.prog) : (C38 gl).Ok Tryz.prog := h.more (by
  intro f gf hf
  unfold prims_C38 at hf
  split at hf
  · simp only [Option.some.injEq] at hf; subst hf; exact does_first
  · simp only [Option.some.injEq] at hf; subst hf; exact does_RPose
  · cases hf)
open Classical in
noncomputable def p_RPlaceL : List D → Option D := p2 fun (l : List Piece) (i : Int) => if l.length < 1000000 ∧ checkE l = 0 ∧ 0 ≤ i ∧ i < l.length then some (enc (placeOf l i.toNat)) else none
theorem does_RPlaceL : Does Tryz.prog (C38 gl) 28 p_RPlaceL := con2 (fun _ _ => 10) fun l i hcond ic => by
  obtain ⟨h1, hc, h3, h4⟩ := hcond
  obtain ⟨i, rfl⟩ := Int.eq_ofNat_of_zero_le h3
  have hi : i < l.length := by omega
  obtain ⟨_, _, _, _, hright, _, _⟩ := valid_of hc
  have r1 := (right_spec (hright _ (List.getElem_mem hi))).1
  have hq := (posed hc i hi).turn
  have hb := boxR_place hc hi
  simp only [zeroV] at hb
  refine W_body (c := _) Tryz.func28 rfl (by simp [Tryz.f28]) ?_
  simp (config := {decide := true, implicitDefEqProofs := false}) [Tryz.f28, hi, h1, hc, p_RPose, p_SizeR, p_RBox, r1, hq, hb]
noncomputable def prims_C39 (gl : Gb) (f : FuncId) : Option (List D → Option D) := match f with
  | 28 => some p_RPlaceL
  | _ => none
noncomputable def C39 (gl : Gb) : Cfg := (C38 gl).more (prims_C39 gl)
@[simp] theorem mutS_C39 (gl : Gb) (f s) : (C39 gl).mutS f s = mutTab f s := rfl
@[simp] theorem pureF_C39 (gl : Gb) (f) : (C39 gl).pureF f = true := rfl
@[simp] theorem glob_C39 (gl : Gb) : (C39 gl).glob = gl := rfl
@[simp] theorem C39_p92 (gl : Gb) : (C39 gl).primF 92 = some p_is := rfl
@[simp] theorem C39_p149 (gl : Gb) : (C39 gl).primF 149 = some p_array := rfl
@[simp] theorem C39_p196 (gl : Gb) : (C39 gl).primF 196 = some p_vec := rfl
@[simp] theorem C39_p98 (gl : Gb) : (C39 gl).primF 98 = some p_add := rfl
@[simp] theorem C39_p148 (gl : Gb) : (C39 gl).primF 148 = some p_neg := rfl
@[simp] theorem C39_p145 (gl : Gb) : (C39 gl).primF 145 = some p_lengths := rfl
@[simp] theorem C39_p140 (gl : Gb) : (C39 gl).primF 140 = some p_inside := rfl
@[simp] theorem C39_p99 (gl : Gb) : (C39 gl).primF 99 = some p_overlap := rfl
@[simp] theorem C39_p150 (gl : Gb) : (C39 gl).primF 150 = some p_apply := rfl
@[simp] theorem C39_p96 (gl : Gb) : (C39 gl).primF 96 = some p_near := rfl
@[simp] theorem C39_p194 (gl : Gb) : (C39 gl).primF 194 = some p_compose1 := rfl
@[simp] theorem C39_p97 (gl : Gb) : (C39 gl).primF 97 = some p_image := rfl
@[simp] theorem C39_p193 (gl : Gb) : (C39 gl).primF 193 = some p_find := rfl
@[simp] theorem C39_p147 (gl : Gb) : (C39 gl).primF 147 = some p_compose := rfl
@[simp] theorem C39_p93 (gl : Gb) : (C39 gl).primF 93 = some p_invert := rfl
@[simp] theorem C39_p190 (gl : Gb) : (C39 gl).primF 190 = some p_result := rfl
@[simp] theorem C39_p95 (gl : Gb) : (C39 gl).primF 95 = some p_turned := rfl
@[simp] theorem C39_p94 (gl : Gb) : (C39 gl).primF 94 = some p_sized := rfl
@[simp] theorem C39_p38 (gl : Gb) : (C39 gl).primF 38 = some p_Invert := rfl
@[simp] theorem C39_p39 (gl : Gb) : (C39 gl).primF 39 = some p_Size := rfl
@[simp] theorem C39_p41 (gl : Gb) : (C39 gl).primF 41 = some p_Box := rfl
@[simp] theorem C39_p142 (gl : Gb) : (C39 gl).primF 142 = some p_Join := rfl
@[simp] theorem C39_p187 (gl : Gb) : (C39 gl).primF 187 = some p_Place := rfl
@[simp] theorem C39_p125 (gl : Gb) : (C39 gl).primF 125 = some p_sizeOf := rfl
@[simp] theorem C39_p139 (gl : Gb) : (C39 gl).primF 139 = some p_right := rfl
@[simp] theorem C39_p182 (gl : Gb) : (C39 gl).primF 182 = some p_Split := rfl
@[simp] theorem C39_p114 (gl : Gb) : (C39 gl).primF 114 = some p_Itoa := rfl
@[simp] theorem C39_p131 (gl : Gb) : (C39 gl).primF 131 = some p_Atoi := rfl
@[simp] theorem C39_p316 (gl : Gb) : (C39 gl).primF 316 = some p_classes := rfl
@[simp] theorem C39_p252 (gl : Gb) : (C39 gl).primF 252 = some p_inner := rfl
@[simp] theorem C39_p251 (gl : Gb) : (C39 gl).primF 251 = some p_Name1 := rfl
@[simp] theorem C39_p250 (gl : Gb) : (C39 gl).primF 250 = some p_run := rfl
@[simp] theorem C39_p183 (gl : Gb) : (C39 gl).primF 183 = some p_Name := rfl
@[simp] theorem C39_p128 (gl : Gb) : (C39 gl).primF 128 = some p_isId := rfl
@[simp] theorem C39_p137 (gl : Gb) : (C39 gl).primF 137 = some p_build1 := rfl
@[simp] theorem C39_p138 (gl : Gb) : (C39 gl).primF 138 = some p_build2 := rfl
@[simp] theorem C39_p184 (gl : Gb) : (C39 gl).primF 184 = some p_IndexFunc := rfl
@[simp] theorem C39_p129 (gl : Gb) : (C39 gl).primF 129 = some p_ContainsFunc := rfl
@[simp] theorem C39_p80 (gl : Gb) : (C39 gl).primF 80 = some p_build := rfl
@[simp] theorem C39_p84 (gl : Gb) : (C39 gl).primF 84 = some p_open := rfl
@[simp] theorem C39_p19 (gl : Gb) : (C39 gl).primF 19 = some p_Check := rfl
@[simp] theorem C39_p85 (gl : Gb) : (C39 gl).primF 85 = some p_pose := rfl
@[simp] theorem C39_p86 (gl : Gb) : (C39 gl).primF 86 = some p_place := rfl
@[simp] theorem C39_p22 (gl : Gb) : (C39 gl).primF 22 = some p_Find := rfl
@[simp] theorem C39_p23 (gl : Gb) : (C39 gl).primF 23 = some p_PoseL := rfl
@[simp] theorem C39_p24 (gl : Gb) : (C39 gl).primF 24 = some p_PlaceL := rfl
@[simp] theorem C39_p16 (gl : Gb) : (C39 gl).primF 16 = some p_awake := rfl
@[simp] theorem C39_p15 (gl : Gb) : (C39 gl).primF 15 = some p_Few := rfl
@[simp] theorem C39_p37 (gl : Gb) : (C39 gl).primF 37 = some p_Volume := rfl
@[simp] theorem C39_p40 (gl : Gb) : (C39 gl).primF 40 = some p_Minus := rfl
@[simp] theorem C39_p179 (gl : Gb) : (C39 gl).primF 179 = some p_apply := rfl
@[simp] theorem C39_p176 (gl : Gb) : (C39 gl).primF 176 = some p_coordinate := rfl
@[simp] theorem C39_p133 (gl : Gb) : (C39 gl).primF 133 = some p_Is := rfl
@[simp] theorem C39_p192 (gl : Gb) : (C39 gl).primF 192 = some p_Plus := rfl
@[simp] theorem C39_p191 (gl : Gb) : (C39 gl).primF 191 = some p_same := rfl
@[simp] theorem C39_p120 (gl : Gb) : (C39 gl).primF 120 = some p_Near := rfl
@[simp] theorem C39_p143 (gl : Gb) : (C39 gl).primF 143 = some p_RCompose := rfl
@[simp] theorem C39_p136 (gl : Gb) : (C39 gl).primF 136 = some p_RInvert := rfl
@[simp] theorem C39_p144 (gl : Gb) : (C39 gl).primF 144 = some p_Point := rfl
@[simp] theorem C39_p66 (gl : Gb) : (C39 gl).primF 66 = some p_Valid := rfl
@[simp] theorem C39_p88 (gl : Gb) : (C39 gl).primF 88 = some p_RBox := rfl
@[simp] theorem C39_p87 (gl : Gb) : (C39 gl).primF 87 = some p_RJoin := rfl
@[simp] theorem C39_p135 (gl : Gb) : (C39 gl).primF 135 = some p_RSize := rfl
@[simp] theorem C39_p134 (gl : Gb) : (C39 gl).primF 134 = some p_RPlace := rfl
@[simp] theorem C39_p132 (gl : Gb) : (C39 gl).primF 132 = some p_sizeB := rfl
@[simp] theorem C39_p79 (gl : Gb) : (C39 gl).primF 79 = some p_SizeR := rfl
@[simp] theorem C39_p78 (gl : Gb) : (C39 gl).primF 78 = some p_WithinR := rfl
@[simp] theorem C39_p43 (gl : Gb) : (C39 gl).primF 43 = some p_MeetR := rfl
@[simp] theorem C39_p77 (gl : Gb) : (C39 gl).primF 77 = some p_RRight := rfl
@[simp] theorem C39_p242 (gl : Gb) : (C39 gl).primF 242 = some p_digit := rfl
@[simp] theorem C39_p173 (gl : Gb) : (C39 gl).primF 173 = some p_letter := rfl
@[simp] theorem C39_p76 (gl : Gb) : (C39 gl).primF 76 = some p_index := rfl
@[simp] theorem C39_p172 (gl : Gb) : (C39 gl).primF 172 = some p_part := rfl
@[simp] theorem C39_p26 (gl : Gb) : (C39 gl).primF 26 = some p_FindR := rfl
@[simp] theorem C39_p117 (gl : Gb) : (C39 gl).primF 117 = some p_RName := rfl
@[simp] theorem C39_p75 (gl : Gb) : (C39 gl).primF 75 = some p_RId := rfl
@[simp] theorem C39_p17 (gl : Gb) : (C39 gl).primF 17 = some p_Check := rfl
@[simp] theorem C39_p25 (gl : Gb) : (C39 gl).primF 25 = some p_first := rfl
@[simp] theorem C39_p27 (gl : Gb) : (C39 gl).primF 27 = some p_RPose := rfl
@[simp] theorem C39_p28 (gl : Gb) : (C39 gl).primF 28 = some p_RPlaceL := rfl
theorem C39_ok {gl : Gb} (h : (C38 gl).Ok Tryz.prog) : (C39 gl).Ok Tryz.prog := h.more (by
  intro f gf hf
  unfold prims_C39 at hf
  split at hf
  · simp only [Option.some.injEq] at hf; subst hf; exact does_RPlaceL
  · cases hf)
end Go.Proofs.YtmfgnajlkoafkaaGreatDoor
end
section
namespace Go.Proofs.YtmfgnajlkoafkaaGreatDoor
open Go Go.AM Go.AM.Orient Go.AM.Lineage
open Go.AM.Enc (enc dec)
open Go.AM.Row (row ofRow)
set_option maxRecDepth 100000
set_option linter.unusedVariables false
set_option linter.unusedSimpArgs false
variable {gl : Gb}
theorem does_Places : Does Tryz.prog (C39 gl) 4 (p_law (List Piece) Str) := tot2 (fun _ _ => 10) fun l id ic => by
  refine W_body (c := _) Tryz.func4 rfl (by simp [Tryz.f4]) ?_
  by_cases hf : fewB l = true
  · have hl := (few_short hf).1
    have hlen := hl.1
    by_cases hn : id.size ≤ 100
    · have hn' : ¬ (100 < (id.size : Int)) := by omega
      by_cases hE : firstE l id = 0
      · have hc : checkE l = 0 := by
          unfold firstE at hE
          split at hE
          · assumption
          · exact hE
        cases hk : idxK id (idsTo l l.length) with
        | none => simp [firstE, hc, hk] at hE
        | some k =>
          obtain ⟨_, _, hnd, _, _, _, _⟩ := valid_of hc
          obtain ⟨hkl, hid⟩ := idxK_id hnd hk
          have hx : idxN l id = k := by simp [idxN, hk]
          have hF : findE l id = (l[k], 0) := by simp [findE, hE, hx, hkl]
          have hP : placeE l id = (placeOf l k, 0) := by simp [placeE, hE, hx]
          have hQ : poseE l id = (poseOf l k, 0) := by simp [poseE, hE, hx]
          have hr : indexR l l.length id = k := by rw [indexR_all, hk]
          simp (config := {decide := true, implicitDefEqProofs := false}) [Tryz.f4, p_Few, p_awake, p_Find, p_PlaceL, p_PoseL, p_first, p_FindR, p_RPose, p_RPlaceL, hf, hl, hlen, hn', hF, hP, hQ, hE, hr, hkl, hc]
      · have hF : findE l id = (zeroPiece, firstE l id) := by simp [findE, hE]
        have hP : placeE l id = (zeroB, firstE l id) := by simp [placeE, hE]
        have hQ : poseE l id = (zeroP, firstE l id) := by simp [poseE, hE]
        simp (config := {decide := true, implicitDefEqProofs := false}) [Tryz.f4, p_Few, p_awake, p_Find, p_PlaceL, p_PoseL, p_first, hf, hl, hn', hF, hP, hQ, hE, zeroPiece, zeroP, zeroB, zeroV, buildV]
    · have hn' : (100 < (id.size : Int)) := by omega
      simp (config := {decide := true, implicitDefEqProofs := false}) [Tryz.f4, p_Few, p_awake, hf, hn']
  · simp (config := {decide := true, implicitDefEqProofs := false}) [Tryz.f4, p_Few, p_awake, hf]
end Go.Proofs.YtmfgnajlkoafkaaGreatDoor
end
