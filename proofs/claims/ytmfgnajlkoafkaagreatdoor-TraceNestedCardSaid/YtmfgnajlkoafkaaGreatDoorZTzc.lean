/- Ways, kids, what is lost, the nearest common piece: lineage and the reference; the law LineageWays. -/
import Derived.Test.YtmfgnajlkoafkaaGreatDoorZTzb
set_option linter.all false
set_option maxHeartbeats 2000000
namespace Go.AM.Lineage
open Go Go.AM Go.AM.Orient
open Go.AM.Enc (enc dec)
open Go.AM.Row (row ofRow)
set_option linter.unusedVariables false
theorem kidIdx_I (l : List Piece) (id : Str) : kidIdx l id l.length = (Go.Proofs.YtmfgnajlkoafkaaGreatDoor.kidI l id).map fun (i : Nat) => (i : Int) := by
  unfold kidIdx Go.Proofs.YtmfgnajlkoafkaaGreatDoor.kidI Go.Proofs.YtmfgnajlkoafkaaGreatDoor.kidTo
  congr 1
  apply List.filter_congr
  intro j hj
  have hj' : j < l.length := by simpa using hj
  rw [List.getD_eq_getElem?_getD, List.getElem?_eq_getElem hj']
  simp
def wayF (l : List Piece) : Nat → Nat → List Nat
  | 0, _ => []
  | f + 1, i => i :: (match parN l i with | none => [] | some p => wayF l f p)
/-- the way to the quarry -/
def wayI (l : List Piece) (i : Nat) : List Nat := wayF l (i + 1) i
theorem wayF_fuel {l : List Piece} (hc : checkE l = 0) : ∀ (n f i : Nat), i ≤ n → i < f → wayF l f i = wayF l (i + 1) i
  | n, 0, i, _, h => by omega
  | n, f + 1, i, hn, h => by
    unfold wayF
    cases hp : parN l i with
    | none => rfl
    | some p =>
      obtain ⟨_, _, _, hpi⟩ := parN_some hc hp
      cases n with
      | zero => omega
      | succ n =>
        simp only
        rw [wayF_fuel hc n f p (by omega) (by omega), wayF_fuel hc n i p (by omega) (by omega)]
theorem wayI_eq {l : List Piece} (hc : checkE l = 0) (i : Nat) : wayI l i = i :: (match parN l i with | none => [] | some p => wayI l p) := by
  unfold wayI
  rw [wayF]
  cases hp : parN l i with
  | none => rfl
  | some p =>
    obtain ⟨_, _, _, hpi⟩ := parN_some hc hp
    simp only
    rw [wayF_fuel hc p i p (Nat.le_refl _) (by omega)]
theorem wayI_lt {l : List Piece} (hc : checkE l = 0) : ∀ (n i : Nat), i ≤ n → ∀ j ∈ wayI l i, j ≤ i
  | n, i, hn, j, hj => by
    rw [wayI_eq hc] at hj
    rcases List.mem_cons.1 hj with rfl | hj
    · exact Nat.le_refl _
    · cases hp : parN l i with
      | none => rw [hp] at hj; cases hj
      | some p =>
        rw [hp] at hj
        obtain ⟨_, _, _, hpi⟩ := parN_some hc hp
        cases n with
        | zero => omega
        | succ n =>
          have := wayI_lt hc n p (by omega) j hj
          omega
theorem wayI_len {l : List Piece} (hc : checkE l = 0) : ∀ (n i : Nat), i ≤ n → (wayI l i).length ≤ i + 1
  | n, i, hn => by
    rw [wayI_eq hc, List.length_cons]
    cases hp : parN l i with
    | none => simp
    | some p =>
      obtain ⟨_, _, _, hpi⟩ := parN_some hc hp
      cases n with
      | zero => omega
      | succ n =>
        have := wayI_len hc n p (by omega)
        simp only; omega
def wayE (l : List Piece) (i : Nat) : List Str := idsAt l (wayI l i)
theorem wayE_eq {l : List Piece} (hc : checkE l = 0) {i : Nat} (hi : i < l.length) : wayE l i = l[i].Id :: (match parN l i with | none => [] | some p => wayE l p) := by
  unfold wayE
  rw [wayI_eq hc]
  unfold idsAt
  rw [List.map_cons, List.getD_eq_getElem?_getD, List.getElem?_eq_getElem hi]
  cases parN l i <;> rfl
theorem wayE_len {l : List Piece} (hc : checkE l = 0) {i : Nat} (hi : i < l.length) : (wayE l i).length ≤ l.length := by
  unfold wayE idsAt
  rw [List.length_map]
  have := wayI_len hc i i (Nat.le_refl _)
  omega
theorem par_some {l : List Piece} {i p : Nat} (hi : i < l.length) (hp : l[i].Parent ≠ ByteArray.empty) (hk : idxK l[i].Parent (idsTo l l.length) = some p) : parN l i = some p := by
  unfold parN; rw [List.getElem?_eq_getElem hi]; simp only; rw [if_neg hp, hk]
theorem par_none {l : List Piece} {i : Nat} (hi : i < l.length) (hp : l[i].Parent = ByteArray.empty) : parN l i = none := by
  unfold parN; rw [List.getElem?_eq_getElem hi]; simp only; rw [if_pos hp]
end Go.AM.Lineage
namespace Go.Proofs.YtmfgnajlkoafkaaGreatDoor
open Go Go.AM Go.AM.Orient Go.AM.Lineage
open Go.AM.Enc (enc dec)
open Go.AM.Row (row ofRow)
set_option maxRecDepth 100000
set_option linter.unusedVariables false
set_option linter.unusedSimpArgs false
variable {gl : Gb}
noncomputable def p_way : List D → Option D
  | [t, .int .i64 i] => onTree (fun l => open Classical in if checkE l = 0 ∧ l.length < 1000000 ∧ 0 ≤ i ∧ i < l.length then some (.list ((wayE l i.toNat).map row)) else none) t
  | _ => none
theorem does_way : Does Tryz.prog (C45 gl) 89 p_way := by
  intro ds d hd
  unfold p_way at hd
  split at hd
  · rename_i tt i
    obtain ⟨l, rfl, h⟩ := onTree_some hd
    split at h
    · rename_i hcond
      obtain ⟨hc, hlen, hi0, hil⟩ := hcond
      obtain ⟨i, rfl⟩ := Int.eq_ofNat_of_zero_le hi0
      have hi : i < l.length := by omega
      simp only [Int.toNat_natCast] at h
      cases h
      refine ⟨_, pcall_of (k := 1000001) ?_⟩
      refine W_body (c := _) Tryz.func89 rfl (by simp [Tryz.f89]) ?_
      simp (config := {decide := true, implicitDefEqProofs := false}) [Tryz.f89, treeD, treeCells, hi]
      refine W_loop rfl (fun (j : Nat) e h => e 0 = .d (treeD l) ∧ e 5 = .ref 8 0 ∧ (∃ hj : j < l.length, h.blk 8 = .cells ((row l[j]).map .d)) ∧ 8 < h.next ∧ ∃ t done, e 6 = .own t (done.map row) ∧ h.blk t = .tok 9 1 ∧ t < h.next ∧ t ≠ 8 ∧
        done ++ (wayE l j).tail = wayE l i ∧ done.length + j ≤ i + 1) (fun j => j) i (by omega) (by simp (config := {decide := true, implicitDefEqProofs := false}) [treeD, treeCells, hi]; exact ⟨_, [l[i].Id], ⟨rfl, rfl⟩, fun h => absurd rfl h, by decide, by decide, by rw [wayE_eq hc hi]; rfl, by simp; omega⟩) ?_
      rintro j e h ⟨g1, g2, ⟨hj, g3⟩, g4, t, done, g5, g6, g7, g8, g9, g10⟩
      have hne : ∀ n : Nat, ¬ t = h.next + n := fun n => by omega
      have hne0 : ¬ t = h.next := by omega
      have hn8 : ∀ n : Nat, ¬ 8 = h.next + n := fun n => by omega
      have hn80 : ¬ 8 = h.next := by omega
      have h8t : ¬ 8 = t := fun e => g8 e.symm
      by_cases hp : l[j].Parent = ByteArray.empty
      · have hp' : l[j].Parent = ⟨#[]⟩ := hp
        have hw := wayE_eq hc hj
        rw [par_none hj hp] at hw
        rw [hw] at g9
        simp only [List.tail_cons, List.append_nil] at g9
        subst g9
        simp (config := {decide := true, implicitDefEqProofs := false}) [g1, g2, g3, g5, g6, hp', hn8, hn80, hne, hne0, h8t, Nat.add_assoc]
      · have hp' : ¬ l[j].Parent = ⟨#[]⟩ := hp
        obtain ⟨p, hk, hpj⟩ := parent_of hc hj hp
        have hpl : p < l.length := by omega
        have hw := wayE_eq hc hj
        rw [par_some hj hp hk] at hw
        have hw2 := wayE_eq hc hpl
        simp (config := {decide := true, implicitDefEqProofs := false}) [g1, g2, g3, g5, g6, g8, hp', hk, hpl, hn8, hn80, hne, hne0, h8t, treeD, treeCells, lookupV, keyTyped, keyKind, foundV, findK_ids, idVals_at, idVals_len, Nat.add_assoc]
        rw [hw] at g9
        simp only [List.tail_cons] at g9
        rw [hw2] at g9
        refine ⟨fun _ _ => ⟨p, hpj, ⟨hpl, rfl, rfl, rfl, rfl, rfl, rfl, rfl, rfl, rfl, rfl, rfl, rfl⟩, _, done ++ [l[p].Id], ⟨rfl, by simp⟩, fun h => absurd rfl h, by omega, by omega, by rw [hw2]; simpa using g9, by simp; omega⟩, by omega, by omega⟩
    · cases h
  · cases hd
noncomputable def p_RWay : List D → Option D := p2 fun (l : List Piece) (i : Int) => open Classical in if checkE l = 0 ∧ l.length < 1000000 ∧ 0 ≤ i ∧ i < l.length then some (.list ((wayE l i.toNat).map row)) else none
theorem does_RWay : Does Tryz.prog (C45 gl) 34 p_RWay := con2 (fun _ _ => 1000001) fun l z hcond ic => by
  obtain ⟨hc, hlen, hi0, hil⟩ := hcond
  obtain ⟨i, rfl⟩ := Int.eq_ofNat_of_zero_le hi0
  have hi : i < l.length := by omega
  simp only [Int.toNat_natCast]
  refine W_body (c := _) Tryz.func34 rfl (by simp [Tryz.f34]) ?_
  simp (config := {decide := true, implicitDefEqProofs := false}) [Tryz.f34, hi]
  refine W_loop rfl (fun (j : Nat) e h => e 0 = .d (.list (l.map row)) ∧ e 1 = .d (I j) ∧ j < l.length ∧ ∃ t done, e 5 = .own t (done.map row) ∧ h.blk t = .tok 9 1 ∧ t < h.next ∧
        done ++ (wayE l j).tail = wayE l i ∧ done.length + j ≤ i + 1) (fun j => j) i (by omega) (by simp (config := {decide := true, implicitDefEqProofs := false}) [hi]; exact ⟨_, [l[i].Id], ⟨rfl, rfl⟩, rfl, by decide, by rw [wayE_eq hc hi]; rfl, by simp; omega⟩) ?_
  rintro j e h ⟨g1, g2, hj, t, done, g5, g6, g7, g9, g10⟩
  have hne : ∀ n : Nat, ¬ t = h.next + n := fun n => by omega
  have hne0 : ¬ t = h.next := by omega
  by_cases hp : l[j].Parent = ByteArray.empty
  · have hp' : l[j].Parent = ⟨#[]⟩ := hp
    have hw := wayE_eq hc hj
    rw [par_none hj hp] at hw
    rw [hw] at g9
    simp only [List.tail_cons, List.append_nil] at g9
    subst g9
    simp (config := {decide := true, implicitDefEqProofs := false}) [g1, g2, g5, g6, hj, hp', hne, hne0, Nat.add_assoc]
  · have hp' : ¬ l[j].Parent = ⟨#[]⟩ := hp
    obtain ⟨p, hk, hpj⟩ := parent_of hc hj hp
    have hpl : p < l.length := by omega
    have hw := wayE_eq hc hj
    rw [par_some hj hp hk] at hw
    have hw2 := wayE_eq hc hpl
    have hr : indexR l l.length l[j].Parent = p := by rw [indexR_all, hk]
    simp (config := {decide := true, implicitDefEqProofs := false}) [g1, g2, g5, g6, hj, hp', p_FindR, hlen, hr, hpl, hne, hne0, Nat.add_assoc]
    rw [hw] at g9
    simp only [List.tail_cons] at g9
    rw [hw2] at g9
    exact ⟨fun _ _ => ⟨p, hpj, rfl, hpl, _, done ++ [l[p].Id], ⟨rfl, by simp⟩, fun h => absurd rfl h, by omega, by rw [hw2]; simpa using g9, by simp; omega⟩, by omega, by omega⟩
def p_volume : List D → Option D := p1 fun (b : Box) => some (I (volB b))
theorem does_volume : Does Tryz.prog (C45 gl) 90 p_volume := tot1 (fun _ => 1) fun b ic => by
  refine W_body (c := _) Tryz.func90 rfl (by simp [Tryz.f90]) ?_
  simp (config := {decide := true, implicitDefEqProofs := false}) [Tryz.f90, p_lengths, buildV, volB]
noncomputable def p_Index : List D → Option D := p2 fun (a : List Str) (s : Str) => open Classical in if a.length < 1000000 then some (I (match idxK s a with | some k => (k : Int) | none => -1)) else none
theorem does_Index : Does Tryz.prog (C45 gl) 146 p_Index := con2 (fun _ _ => 1000001) fun a s hlen ic => by
  refine W_body (c := _) Tryz.func146 rfl (by simp [Tryz.f146]) ?_
  simp (config := {decide := true, implicitDefEqProofs := false}) [Tryz.f146]
  refine W_loop rfl (fun (i : Nat) e h => e 8 = .d (I i) ∧ e 7 = .d (I a.length) ∧ e 0 = .d (.list (a.map row)) ∧ e 1 = .d (.str s) ∧ i ≤ a.length ∧ ∀ j (hj : j < a.length), j < i → a[j] ≠ s) (fun i => a.length - i) 0 (by omega) (by simp (config := {decide := true, implicitDefEqProofs := false}) []) ?_
  rintro i e h ⟨g1, g2, g3, g4, g5, g6⟩
  by_cases hlt : i < a.length
  · have hw : IntKind.i64.wrap ((i : Int) + 1) = ((i + 1 : Nat) : Int) := by rw [wrap_i64] <;> omega
    by_cases hx : a[i] = s
    · have hk : idxK s a = some i := by
        unfold idxK
        rw [List.findIdx?_eq_some_iff_getElem]
        exact ⟨hlt, by simp [hx], fun j hj => by simp; exact fun e => g6 j (by omega) hj e.symm⟩
      simp (config := {decide := true, implicitDefEqProofs := false}) [g1, g2, g3, g4, hlt, hx, hk]
    · have hx' : ¬ s = a[i] := fun e => hx e.symm
      simp (config := {decide := true, implicitDefEqProofs := false}) [g1, g2, g3, g4, hlt, hx, hx', hw]
      refine ⟨i + 1, by omega, rfl, by omega, fun j hj hji => ?_⟩
      by_cases e : j = i
      · subst e; exact hx
      · exact g6 j hj (by omega)
  · obtain rfl : i = a.length := by omega
    have hk : idxK s a = none := by
      rw [idxK_none]
      intro hm
      obtain ⟨j, hj, e⟩ := List.getElem_of_mem hm
      exact g6 j hj hj e
    simp (config := {decide := true, implicitDefEqProofs := false}) [g1, g2, hk]
noncomputable def prims_C46 (gl : Gb) (f : FuncId) : Option (List D → Option D) := match f with
  | 89 => some p_way
  | 34 => some p_RWay
  | 90 => some p_volume
  | 146 => some p_Index
  | _ => none
noncomputable def C46 (gl : Gb) : Cfg := (C45 gl).more (prims_C46 gl)
@[simp] theorem mutS_C46 (gl : Gb) (f s) : (C46 gl).mutS f s = mutTab f s := rfl
@[simp] theorem pureF_C46 (gl : Gb) (f) : (C46 gl).pureF f = true := rfl
@[simp] theorem glob_C46 (gl : Gb) : (C46 gl).glob = gl := rfl
@[simp] theorem C46_p84 (gl : Gb) : (C46 gl).primF 84 = some p_open := rfl
@[simp] theorem C46_p37 (gl : Gb) : (C46 gl).primF 37 = some p_Volume := rfl
@[simp] theorem C46_p81 (gl : Gb) : (C46 gl).primF 81 = some p_ids := rfl
@[simp] theorem C46_p89 (gl : Gb) : (C46 gl).primF 89 = some p_way := rfl
@[simp] theorem C46_p90 (gl : Gb) : (C46 gl).primF 90 = some p_volume := rfl
@[simp] theorem C46_p146 (gl : Gb) : (C46 gl).primF 146 = some p_Index := rfl
theorem C46_ok {gl : Gb} (h : (C45 gl).Ok Tryz.prog) : (C46 gl).Ok Tryz.prog := h.more (by
  intro f gf hf
  unfold prims_C46 at hf
  split at hf
  · simp only [Option.some.injEq] at hf; subst hf; exact does_way
  · simp only [Option.some.injEq] at hf; subst hf; exact does_RWay
  · simp only [Option.some.injEq] at hf; subst hf; exact does_volume
  · simp only [Option.some.injEq] at hf; subst hf; exact does_Index
  · cases hf)
noncomputable def p_Contains : List D → Option D := p2 fun (a : List Str) (s : Str) => open Classical in if a.length < 1000000 then some (.bool (decide (s ∈ a))) else none
theorem does_Contains : Does Tryz.prog (C46 gl) 91 p_Contains := con2 (fun _ _ => 10) fun a s hlen ic => by
  refine W_body (c := _) Tryz.func91 rfl (by simp [Tryz.f91]) ?_
  cases hk : idxK s a with
  | none =>
    have hm : s ∉ a := idxK_none.1 hk
    simp (config := {decide := true, implicitDefEqProofs := false}) [Tryz.f91, p_Index, hlen, hk, hm]
  | some k =>
    have hm : s ∈ a := by
      obtain ⟨hj, he⟩ := idxK_some hk
      rw [← he]; exact List.getElem_mem hj
    have h0 : (0 : Int) ≤ (k : Int) := by omega
    simp (config := {decide := true, implicitDefEqProofs := false}) [Tryz.f91, p_Index, hlen, hk, hm, h0]
theorem kid_some {l : List Piece} {id : Str} {k : Nat} (h : idxK id ((kids l).map (·.1)) = some k) : ∃ hk : k < (kids l).length, (kids l)[k].2.map row = (kidI l id).map fun (i : Nat) => [I i] := by
  obtain ⟨hk, hid, hgr, _⟩ := kids_some h
  refine ⟨hk, ?_⟩
  rw [hgr, kidIdx_I, List.map_map]; rfl
theorem kid_none {l : List Piece} {id : Str} (h : idxK id ((kids l).map (·.1)) = none) : kidI l id = [] := by
  have := kidsE_nil.2 (kids_none.1 h)
  unfold kidsE at this
  rw [sortS_length] at this
  unfold idsAt at this
  rw [List.length_map] at this
  exact List.length_eq_zero_iff.1 this
theorem kidI_lt {l : List Piece} {id : Str} {k : Nat} (h : k ∈ kidI l id) : k < l.length := by
  unfold kidI kidTo at h
  have := (List.mem_filter.1 h).1
  simpa using this
theorem ids_kids {l : List Piece} (id : Str) (h : l.length < 1000000) : p_ids [treeD l, .list ((kidI l id).map fun (i : Nat) => [I i])] = some (.list ((kidsE l id).map row)) := by
  unfold p_ids
  simp only [onTree_eq, decRows_nats, Option.bind_some, natsOf_nats]
  rw [if_pos]
  · rfl
  · have := kidTo_len l id l.length
    simp only [idsAt, List.length_map] at this
    refine ⟨by simp; unfold kidI; omega, fun i hi => ?_⟩
    obtain ⟨k, hk, rfl⟩ := List.mem_map.1 hi
    have := kidI_lt hk
    omega
noncomputable def p_Way : List D → Option D := p2 fun (l : List Piece) (id : Str) => if shortIds l then some (.tuple [.list ((if firstE l id = 0 then wayE l (idxN l id) else []).map row), I (firstE l id)]) else none
theorem does_Way : Does Tryz.prog (C46 gl) 29 p_Way := con2 (fun _ _ => 10) fun l id hl ic => by
  have hlen := hl.1
  refine W_body (c := _) Tryz.func29 rfl (by simp [Tryz.f29]) ?_
  by_cases hc : checkE l = 0
  · obtain ⟨_, _, hnd, _⟩ := valid_of hc
    cases hk : idxK id (idsTo l l.length) with
    | none =>
      have ho : openD l id = .tuple [.nilp, I 0, I 3] := by simp [openD, hc, hk]
      have hf : firstE l id = 3 := by simp [firstE, hc, hk]
      simp (config := {decide := true, implicitDefEqProofs := false}) [Tryz.f29, p_open, hl, ho, hf]
    | some k =>
      obtain ⟨hkl, _⟩ := idxK_id hnd hk
      have ho : openD l id = .tuple [treeD l, I k, I 0] := by simp [openD, hc, hk]
      have hf : firstE l id = 0 := by simp [firstE, hc, hk]
      have hx : idxN l id = k := by simp [idxN, hk]
      simp (config := {decide := true, implicitDefEqProofs := false}) [Tryz.f29, p_open, hl, ho, hf, hx, hkl, hlen, p_way, onTree_eq, hc]
  · have ho : openD l id = .tuple [.nilp, I 0, I (checkE l)] := by simp [openD, hc]
    have hf : firstE l id = checkE l := by simp [firstE, hc]
    simp (config := {decide := true, implicitDefEqProofs := false}) [Tryz.f29, p_open, hl, ho, hf, hc]
noncomputable def p_Kids : List D → Option D := p2 fun (l : List Piece) (id : Str) => if shortIds l then some (.tuple [.list ((if firstE l id = 0 then kidsE l id else []).map row), I (firstE l id)]) else none
theorem does_Kids : Does Tryz.prog (C46 gl) 30 p_Kids := con2 (fun _ _ => 10) fun l id hl ic => by
  have hlen := hl.1
  refine W_body (c := _) Tryz.func30 rfl (by simp [Tryz.f30]) ?_
  by_cases hc : checkE l = 0
  · obtain ⟨_, _, hnd, _⟩ := valid_of hc
    cases hk : idxK id (idsTo l l.length) with
    | none =>
      have ho : openD l id = .tuple [.nilp, I 0, I 3] := by simp [openD, hc, hk]
      have hf : firstE l id = 3 := by simp [firstE, hc, hk]
      simp (config := {decide := true, implicitDefEqProofs := false}) [Tryz.f30, p_open, hl, ho, hf]
    | some k =>
      obtain ⟨hkl, _⟩ := idxK_id hnd hk
      have ho : openD l id = .tuple [treeD l, I k, I 0] := by simp [openD, hc, hk]
      have hf : firstE l id = 0 := by simp [firstE, hc, hk]
      have hx : idxN l id = k := by simp [idxN, hk]
      have hids := ids_kids id hlen
      unfold treeD treeCells at hids
      cases hq : idxK id ((kids l).map (·.1)) with
      | none =>
        rw [kid_none hq, List.map_nil] at hids
        simp (config := {decide := true, implicitDefEqProofs := false}) [Tryz.f30, p_open, hl, ho, hf, hx, hkl, hlen, hc, treeD, treeCells, lookupV, keyTyped, keyKind, foundV, findK_kk, hq, hids]
      | some q =>
        obtain ⟨hql, hqr⟩ := kid_some hq
        have hkv := kVals_get hql
        rw [hqr] at hkv
        simp (config := {decide := true, implicitDefEqProofs := false}) [Tryz.f30, p_open, hl, ho, hf, hx, hkl, hlen, hc, treeD, treeCells, lookupV, keyTyped, keyKind, foundV, findK_kk, hq, hkv, hids]
  · have ho : openD l id = .tuple [.nilp, I 0, I (checkE l)] := by simp [openD, hc]
    have hf : firstE l id = checkE l := by simp [firstE, hc]
    simp (config := {decide := true, implicitDefEqProofs := false}) [Tryz.f30, p_open, hl, ho, hf, hc]
def boxAt (l : List Piece) (i : Nat) : Box := (l.getD i zeroPiece).Box
theorem boxAt_eq {l : List Piece} {i : Nat} (hi : i < l.length) : boxAt l i = l[i].Box := by
  unfold boxAt; rw [List.getD_eq_getElem?_getD, List.getElem?_eq_getElem hi]; rfl
def lostF (l : List Piece) (v : Int) (js : List Nat) : Int := js.foldl (fun a j => w64 (a - volB (boxAt l j))) v
theorem lostF_snoc (l : List Piece) (v : Int) (js : List Nat) (j : Nat) : lostF l v (js ++ [j]) = w64 (lostF l v js - volB (boxAt l j)) := by
  unfold lostF; rw [List.foldl_append]; rfl
def lostE (l : List Piece) (i : Nat) (id : Str) : Int := lostF l (volB (boxAt l i)) (kidI l id)
noncomputable def p_Lost : List D → Option D := p2 fun (l : List Piece) (id : Str) => if shortIds l then some (.tuple [I (if firstE l id = 0 then lostE l (idxN l id) id else 0), I (firstE l id)]) else none
theorem lost_take {l : List Piece} {v : Int} {js : List Nat} {q : Nat} (hq : q < js.length) : lostF l v (js.take (q + 1)) = w64 (lostF l v (js.take q) - volB (boxAt l js[q])) := by
  rw [List.take_add_one, List.getElem?_eq_getElem hq]; exact lostF_snoc ..
theorem does_Lost : Does Tryz.prog (C46 gl) 31 p_Lost := con2 (fun _ _ => 1000001) fun l id hl ic => by
  have hlen := hl.1
  refine W_body (c := _) Tryz.func31 rfl (by simp [Tryz.f31]) ?_
  by_cases hc : checkE l = 0
  · obtain ⟨_, _, hnd, _⟩ := valid_of hc
    cases hk : idxK id (idsTo l l.length) with
    | none =>
      have ho : openD l id = .tuple [.nilp, I 0, I 3] := by simp [openD, hc, hk]
      have hf : firstE l id = 3 := by simp [firstE, hc, hk]
      simp (config := {decide := true, implicitDefEqProofs := false}) [Tryz.f31, p_open, hl, ho, hf]
    | some k =>
      obtain ⟨hkl, _⟩ := idxK_id hnd hk
      have ho : openD l id = .tuple [treeD l, I k, I 0] := by simp [openD, hc, hk]
      have hf : firstE l id = 0 := by simp [firstE, hc, hk]
      have hx : idxN l id = k := by simp [idxN, hk]
      have hb := boxAt_eq hkl
      cases hq : idxK id ((kids l).map (·.1)) with
      | none =>
        have hkn := kid_none hq
        have hL : lostE l k id = volB l[k].Box := by unfold lostE; rw [hkn, hb]; rfl
        simp (config := {decide := true, implicitDefEqProofs := false}) [Tryz.f31, p_open, hl, ho, hf, hx, hkl, hlen, hc, treeD, treeCells, lookupV, keyTyped, keyKind, foundV, findK_kk, hq, p_volume, hL]
        refine W_loop rfl (fun (q : Nat) e h => e 38 = .d (I 0) ∧ e 37 = .d (I 0) ∧ e 9 = .d (I (volB l[k].Box))) (fun q => 0) 0 (by omega) (by simp (config := {decide := true, implicitDefEqProofs := false}) []) ?_
        rintro q e h ⟨g1, g2, g3⟩
        simp (config := {decide := true, implicitDefEqProofs := false}) [g1, g2, g3, hf, hx, hL]
      | some q0 =>
        obtain ⟨hql, hqr⟩ := kid_some hq
        have hkv := kVals_get hql
        have hkl2 : (kids l)[q0].2.length = (kidI l id).length := by have := congrArg List.length hqr; simpa using this
        rw [hqr] at hkv
        have hkb : (kidI l id).length ≤ l.length := by
          have := kidTo_len l id l.length
          simp only [idsAt, List.length_map] at this
          exact this
        simp (config := {decide := true, implicitDefEqProofs := false}) [Tryz.f31, p_open, hl, ho, hf, hx, hkl, hlen, hc, treeD, treeCells, lookupV, keyTyped, keyKind, foundV, findK_kk, hq, hkv, p_volume]
        refine W_loop rfl (fun (q : Nat) e h => e 38 = .d (I q) ∧ e 37 = .d (I (kidI l id).length) ∧ e 36 = .d (.list ((kidI l id).map fun (i : Nat) => [I i])) ∧ e 6 = .d (treeD l) ∧ q ≤ (kidI l id).length ∧
          e 9 = .d (I (lostF l (volB (boxAt l k)) ((kidI l id).take q)))) (fun q => (kidI l id).length - q) 0 (by omega) (by simp (config := {decide := true, implicitDefEqProofs := false}) [lostF, hb, treeD, treeCells]) ?_
        rintro q e h ⟨g1, g2, g3, g4, g5, g6⟩
        by_cases hlt : q < (kidI l id).length
        · have hw : IntKind.i64.wrap ((q : Int) + 1) = ((q + 1 : Nat) : Int) := by rw [wrap_i64] <;> omega
          have hjl := kidI_lt (List.getElem_mem hlt)
          have htk := lost_take (l := l) (v := volB (boxAt l k)) hlt
          have hbj := boxAt_eq hjl
          simp (config := {decide := true, implicitDefEqProofs := false}) [g1, g2, g3, g4, g6, hlt, hjl, hw, treeD, treeCells, p_volume]
          exact ⟨q + 1, by omega, rfl, by omega, by rw [htk, hbj]⟩
        · obtain rfl : q = (kidI l id).length := by omega
          rw [List.take_length] at g6
          have hL : lostE l k id = lostF l (volB (boxAt l k)) (kidI l id) := rfl
          simp (config := {decide := true, implicitDefEqProofs := false}) [g1, g2, g6, hL, hf, hx]
  · have ho : openD l id = .tuple [.nilp, I 0, I (checkE l)] := by simp [openD, hc]
    have hf : firstE l id = checkE l := by simp [firstE, hc]
    simp (config := {decide := true, implicitDefEqProofs := false}) [Tryz.f31, p_open, hl, ho, hf, hc]
noncomputable def p_RLost : List D → Option D := p2 fun (l : List Piece) (i : Int) => open Classical in if l.length < 1000000 ∧ 0 ≤ i ∧ i < l.length then some (I (lostE l i.toNat (l.getD i.toNat zeroPiece).Id)) else none
theorem kidTo_succ' {l : List Piece} {id : Str} {i : Nat} (hi : i < l.length) : kidTo l id (i + 1) = if l[i].Parent = id then kidTo l id i ++ [i] else kidTo l id i := by
  unfold kidTo
  have e : l.getD i zeroPiece = l[i] := by rw [List.getD_eq_getElem?_getD, List.getElem?_eq_getElem hi]; rfl
  rw [List.range_succ, List.filter_append, List.filter_cons, List.filter_nil, e]
  by_cases h : l[i].Parent = id
  · simp [h]
  · simp [h]
theorem does_RLost : Does Tryz.prog (C46 gl) 36 p_RLost := con2 (fun _ _ => 1000001) fun l z hcond ic => by
  obtain ⟨hlen, hi0, hil⟩ := hcond
  obtain ⟨i, rfl⟩ := Int.eq_ofNat_of_zero_le hi0
  have hi : i < l.length := by omega
  have hid : (l.getD i zeroPiece).Id = l[i].Id := by rw [List.getD_eq_getElem?_getD, List.getElem?_eq_getElem hi]; rfl
  simp only [Int.toNat_natCast]
  rw [hid]
  have hb := boxAt_eq hi
  refine W_body (c := _) Tryz.func36 rfl (by simp [Tryz.f36]) ?_
  simp (config := {decide := true, implicitDefEqProofs := false}) [Tryz.f36, hi, p_Volume]
  refine W_loop rfl (fun (j : Nat) e h => e 6 = .d (I j) ∧ e 0 = .d (.list (l.map row)) ∧ e 1 = .d (I i) ∧ j ≤ l.length ∧ e 5 = .d (I (lostF l (volB (boxAt l i)) (kidTo l l[i].Id j)))) (fun j => l.length - j) 0 (by omega) (by simp (config := {decide := true, implicitDefEqProofs := false}) [lostF, kidTo, hb]) ?_
  rintro j e h ⟨g1, g2, g3, g4, g5⟩
  by_cases hlt : j < l.length
  · have hw : IntKind.i64.wrap ((j : Int) + 1) = ((j + 1 : Nat) : Int) := by rw [wrap_i64] <;> omega
    have hs := kidTo_succ' (id := l[i].Id) hlt
    have hbj := boxAt_eq hlt
    by_cases hp : l[j].Parent = l[i].Id
    · rw [if_pos hp] at hs
      have hl2 := lostF_snoc l (volB (boxAt l i)) (kidTo l l[i].Id j) j
      rw [← hs] at hl2
      simp (config := {decide := true, implicitDefEqProofs := false}) [g1, g2, g3, g5, hlt, hi, hp, hw, p_Volume]
      exact ⟨j + 1, by omega, rfl, by omega, by rw [hl2, hbj]⟩
    · rw [if_neg hp] at hs
      simp (config := {decide := true, implicitDefEqProofs := false}) [g1, g2, g3, g5, hlt, hi, hp, hw]
      exact ⟨j + 1, by omega, rfl, by omega, by rw [hs]⟩
  · obtain rfl : j = l.length := by omega
    have hL : lostE l i l[i].Id = lostF l (volB (boxAt l i)) (kidTo l l[i].Id l.length) := rfl
    simp (config := {decide := true, implicitDefEqProofs := false}) [g1, g2, g5, hL]
noncomputable def prims_C47 (gl : Gb) (f : FuncId) : Option (List D → Option D) := match f with
  | 91 => some p_Contains
  | 29 => some p_Way
  | 30 => some p_Kids
  | 31 => some p_Lost
  | 36 => some p_RLost
  | _ => none
noncomputable def C47 (gl : Gb) : Cfg := (C46 gl).more (prims_C47 gl)
@[simp] theorem mutS_C47 (gl : Gb) (f s) : (C47 gl).mutS f s = mutTab f s := rfl
@[simp] theorem pureF_C47 (gl : Gb) (f) : (C47 gl).pureF f = true := rfl
@[simp] theorem glob_C47 (gl : Gb) : (C47 gl).glob = gl := rfl
@[simp] theorem C47_p84 (gl : Gb) : (C47 gl).primF 84 = some p_open := rfl
@[simp] theorem C47_p89 (gl : Gb) : (C47 gl).primF 89 = some p_way := rfl
@[simp] theorem C47_p34 (gl : Gb) : (C47 gl).primF 34 = some p_RWay := rfl
@[simp] theorem C47_p91 (gl : Gb) : (C47 gl).primF 91 = some p_Contains := rfl
theorem C47_ok {gl : Gb} (h : (C46 gl).Ok Tryz.prog) : (C47 gl).Ok Tryz.prog := h.more (by
  intro f gf hf
  unfold prims_C47 at hf
  split at hf
  · simp only [Option.some.injEq] at hf; subst hf; exact does_Contains
  · simp only [Option.some.injEq] at hf; subst hf; exact does_Way
  · simp only [Option.some.injEq] at hf; subst hf; exact does_Kids
  · simp only [Option.some.injEq] at hf; subst hf; exact does_Lost
  · simp only [Option.some.injEq] at hf; subst hf; exact does_RLost
  · cases hf)
/-- the first string of a that lies in b -/
noncomputable def firstIn (a b : List Str) : Option Str := open Classical in a.find? fun x => decide (x ∈ b)
theorem firstIn_at {a b : List Str} {i : Nat} (hi : i < a.length) (hm : a[i] ∈ b) (hn : ∀ j (hj : j < a.length), j < i → a[j] ∉ b) : firstIn a b = some a[i] := by
  unfold firstIn
  rw [List.find?_eq_some_iff_getElem]
  exact ⟨by simpa using hm, i, hi, rfl, fun j hj => by simpa using hn j (by omega) hj⟩
theorem firstIn_none {a b : List Str} (hn : ∀ j (hj : j < a.length), a[j] ∉ b) : firstIn a b = none := by
  unfold firstIn
  rw [List.find?_eq_none]
  intro x hx
  obtain ⟨j, hj, rfl⟩ := List.getElem_of_mem hx
  simpa using hn j hj
noncomputable def commonE (l : List Piece) (a b : Str) : Str × Int := open Classical in
  if firstE l a = 0 then (if idxK b (idsTo l l.length) = none then (ByteArray.empty, 3) else (match firstIn (wayE l (idxN l a)) (wayE l (idxN l b)) with | some x => (x, 0) | none => (ByteArray.empty, 9))) else (ByteArray.empty, firstE l a)
noncomputable def p_Common : List D → Option D := p3 fun (l : List Piece) (a b : Str) => if shortIds l then some (.tuple [.str (commonE l a b).1, I (commonE l a b).2]) else none
theorem does_Common : Does Tryz.prog (C47 gl) 32 p_Common := con3 (fun _ _ _ => 1000001) fun l a b hl ic => by
  have hlen := hl.1
  refine W_body (c := _) Tryz.func32 rfl (by simp [Tryz.f32]) ?_
  by_cases hc : checkE l = 0
  · obtain ⟨_, _, hnd, _⟩ := valid_of hc
    cases hk : idxK a (idsTo l l.length) with
    | none =>
      have ho : openD l a = .tuple [.nilp, I 0, I 3] := by simp [openD, hc, hk]
      have hf : firstE l a = 3 := by simp [firstE, hc, hk]
      have hC : commonE l a b = (ByteArray.empty, 3) := by simp [commonE, hf]
      simp (config := {decide := true, implicitDefEqProofs := false}) [Tryz.f32, p_open, hl, ho, hC]
    | some k =>
      obtain ⟨hkl, _⟩ := idxK_id hnd hk
      have ho : openD l a = .tuple [treeD l, I k, I 0] := by simp [openD, hc, hk]
      have hf : firstE l a = 0 := by simp [firstE, hc, hk]
      have hx : idxN l a = k := by simp [idxN, hk]
      cases hq : idxK b (idsTo l l.length) with
      | none =>
        have hC : commonE l a b = (ByteArray.empty, 3) := by simp [commonE, hf, hq]
        simp (config := {decide := true, implicitDefEqProofs := false}) [Tryz.f32, p_open, hl, ho, hC, treeD, treeCells, lookupV, keyTyped, keyKind, foundV, findK_ids, hq]
      | some q =>
        obtain ⟨hql, _⟩ := idxK_id hnd hq
        have hxq : idxN l b = q := by simp [idxN, hq]
        have hwk := wayE_len hc hkl
        have hwq := wayE_len hc hql
        have hwq2 : (wayE l q).length < 1000000 := by omega
        have hC : commonE l a b = (match firstIn (wayE l k) (wayE l q) with | some x => (x, 0) | none => (ByteArray.empty, 9)) := by simp [commonE, hf, hq, hx, hxq]
        simp (config := {decide := true, implicitDefEqProofs := false}) [Tryz.f32, p_open, hl, ho, treeD, treeCells, lookupV, keyTyped, keyKind, foundV, findK_ids, hq, idVals_at, idVals_len, hql, hkl, hlen, hc, p_way, onTree_eq']
        refine W_loop rfl (fun (i : Nat) e h => e 44 = .d (I i) ∧ e 43 = .d (I (wayE l k).length) ∧ e 42 = .d (.list ((wayE l k).map row)) ∧ e 13 = .d (.list ((wayE l q).map row)) ∧ i ≤ (wayE l k).length ∧
          ∀ j (hj : j < (wayE l k).length), j < i → (wayE l k)[j] ∉ wayE l q) (fun i => (wayE l k).length - i) 0 (by omega) (by simp (config := {decide := true, implicitDefEqProofs := false}) []) ?_
        rintro i e h ⟨g1, g2, g3, g4, g5, g6⟩
        by_cases hlt : i < (wayE l k).length
        · have hw : IntKind.i64.wrap ((i : Int) + 1) = ((i + 1 : Nat) : Int) := by rw [wrap_i64] <;> omega
          by_cases hm : (wayE l k)[i] ∈ wayE l q
          · rw [firstIn_at hlt hm g6] at hC
            simp (config := {decide := true, implicitDefEqProofs := false}) [g1, g2, g3, g4, hlt, p_Contains, hwq2, hm, hC]
          · simp (config := {decide := true, implicitDefEqProofs := false}) [g1, g2, g3, g4, hlt, p_Contains, hwq2, hm, hw]
            refine ⟨i + 1, by omega, rfl, by omega, fun j hj hji => ?_⟩
            by_cases e : j = i
            · subst e; exact hm
            · exact g6 j hj (by omega)
        · obtain rfl : i = (wayE l k).length := by omega
          rw [firstIn_none fun j hj => g6 j hj hj] at hC
          simp (config := {decide := true, implicitDefEqProofs := false}) [g1, g2, hC]
  · have ho : openD l a = .tuple [.nilp, I 0, I (checkE l)] := by simp [openD, hc]
    have hf : firstE l a = checkE l := by simp [firstE, hc]
    have hC : commonE l a b = (ByteArray.empty, checkE l) := by simp [commonE, hf, hc]
    simp (config := {decide := true, implicitDefEqProofs := false}) [Tryz.f32, p_open, hl, ho, hC, hc]
noncomputable def p_RCommon : List D → Option D := p3 fun (l : List Piece) (i j : Int) => open Classical in if checkE l = 0 ∧ l.length < 1000000 ∧ (0 ≤ i ∧ i < l.length) ∧ 0 ≤ j ∧ j < l.length then some (.str ((firstIn (wayE l i.toNat) (wayE l j.toNat)).getD ByteArray.empty)) else none
theorem does_RCommon : Does Tryz.prog (C47 gl) 33 p_RCommon := con3 (fun _ _ _ => 1000001) fun l zi zj hcond ic => by
  obtain ⟨hc, hlen, ⟨hi0, hil⟩, hj0, hjl⟩ := hcond
  obtain ⟨k, rfl⟩ := Int.eq_ofNat_of_zero_le hi0
  obtain ⟨q, rfl⟩ := Int.eq_ofNat_of_zero_le hj0
  have hkl : k < l.length := by omega
  have hql : q < l.length := by omega
  have hwk := wayE_len hc hkl
  have hwq := wayE_len hc hql
  simp only [Int.toNat_natCast]
  refine W_body (c := _) Tryz.func33 rfl (by simp [Tryz.f33]) ?_
  simp (config := {decide := true, implicitDefEqProofs := false}) [Tryz.f33, p_RWay, hc, hlen, hkl, hql]
  generalize hA : wayE l k = A at *
  generalize hB : wayE l q = B at *
  refine W_loop rfl (fun (i : Nat) e h => e 9 = .d (I i) ∧ e 7 = .d (.list (A.map row)) ∧ e 8 = .d (.list (B.map row)) ∧ i ≤ A.length ∧ ∀ j (hj : j < A.length), j < i → A[j] ∉ B) (fun i => A.length - i) 0 (by omega) (by simp (config := {decide := true, implicitDefEqProofs := false}) []) ?_
  rintro i e h ⟨g1, g2, g3, g4, g5⟩
  by_cases hlt : i < A.length
  · have hw : IntKind.i64.wrap ((i : Int) + 1) = ((i + 1 : Nat) : Int) := by rw [wrap_i64] <;> omega
    simp (config := {decide := true, implicitDefEqProofs := false}) [g1, g2, g3, hlt]
    refine W_loop rfl (fun (j : Nat) e h => e 10 = .d (I j) ∧ e 9 = .d (I i) ∧ e 7 = .d (.list (A.map row)) ∧ e 8 = .d (.list (B.map row)) ∧ j ≤ B.length ∧ ∀ j' (hj : j' < B.length), j' < j → A[i] ≠ B[j']) (fun j => B.length - j) 0 (by omega) (by simp (config := {decide := true, implicitDefEqProofs := false}) [g1, g2, g3]) ?_
    rintro j e h ⟨d1, d2, d3, d4, d5, d6⟩
    by_cases hj : j < B.length
    · have hjw : IntKind.i64.wrap ((j : Int) + 1) = ((j + 1 : Nat) : Int) := by rw [wrap_i64] <;> omega
      by_cases hx : A[i] = B[j]
      · have hm : A[i] ∈ B := by rw [hx]; exact List.getElem_mem hj
        have hfi := firstIn_at hlt hm g5
        simp (config := {decide := true, implicitDefEqProofs := false}) [d1, d2, d3, d4, hlt, hj, hx, hfi]
      · simp (config := {decide := true, implicitDefEqProofs := false}) [d1, d2, d3, d4, hlt, hj, hx, hjw]
        refine ⟨j + 1, by omega, rfl, by omega, fun j' hj' hji => ?_⟩
        by_cases e : j' = j
        · subst e; exact hx
        · exact d6 j' hj' (by omega)
    · obtain rfl : j = B.length := by omega
      simp (config := {decide := true, implicitDefEqProofs := false}) [d1, d2, d3, d4, hw]
      refine ⟨i + 1, by omega, rfl, by omega, fun j hj hji hm => ?_⟩
      by_cases e : j = i
      · subst e
        obtain ⟨j', hj', he⟩ := List.getElem_of_mem hm
        exact d6 j' hj' hj' he.symm
      · exact g5 j hj (by omega) hm
  · obtain rfl : i = A.length := by omega
    have hfi := firstIn_none (a := A) (b := B) fun j hj => g5 j hj hj
    simp (config := {decide := true, implicitDefEqProofs := false}) [g1, g2, hfi]
noncomputable def prims_C48 (gl : Gb) (f : FuncId) : Option (List D → Option D) := match f with
  | 32 => some p_Common
  | 33 => some p_RCommon
  | _ => none
noncomputable def C48 (gl : Gb) : Cfg := (C47 gl).more (prims_C48 gl)
@[simp] theorem mutS_C48 (gl : Gb) (f s) : (C48 gl).mutS f s = mutTab f s := rfl
@[simp] theorem pureF_C48 (gl : Gb) (f) : (C48 gl).pureF f = true := rfl
@[simp] theorem glob_C48 (gl : Gb) : (C48 gl).glob = gl := rfl
@[simp] theorem C48_p19 (gl : Gb) : (C48 gl).primF 19 = some p_Check := rfl
@[simp] theorem C48_p16 (gl : Gb) : (C48 gl).primF 16 = some p_awake := rfl
@[simp] theorem C48_p15 (gl : Gb) : (C48 gl).primF 15 = some p_Few := rfl
@[simp] theorem C48_p26 (gl : Gb) : (C48 gl).primF 26 = some p_FindR := rfl
@[simp] theorem C48_p25 (gl : Gb) : (C48 gl).primF 25 = some p_first := rfl
@[simp] theorem C48_p35 (gl : Gb) : (C48 gl).primF 35 = some p_RKids := rfl
@[simp] theorem C48_p20 (gl : Gb) : (C48 gl).primF 20 = some p_SameNames := rfl
@[simp] theorem C48_p34 (gl : Gb) : (C48 gl).primF 34 = some p_RWay := rfl
@[simp] theorem C48_p29 (gl : Gb) : (C48 gl).primF 29 = some p_Way := rfl
@[simp] theorem C48_p30 (gl : Gb) : (C48 gl).primF 30 = some p_Kids := rfl
@[simp] theorem C48_p31 (gl : Gb) : (C48 gl).primF 31 = some p_Lost := rfl
@[simp] theorem C48_p36 (gl : Gb) : (C48 gl).primF 36 = some p_RLost := rfl
@[simp] theorem C48_p32 (gl : Gb) : (C48 gl).primF 32 = some p_Common := rfl
@[simp] theorem C48_p33 (gl : Gb) : (C48 gl).primF 33 = some p_RCommon := rfl
theorem C48_ok {gl : Gb} (h : (C47 gl).Ok Tryz.prog) : (C48 gl).Ok Tryz.prog := h.more (by
  intro f gf hf
  unfold prims_C48 at hf
  split at hf
  · simp only [Option.some.injEq] at hf; subst hf; exact does_Common
  · simp only [Option.some.injEq] at hf; subst hf; exact does_RCommon
  · cases hf)
theorem firstIn_mem {a b : List Str} {x : Str} (h : firstIn a b = some x) : x ∈ a := by
  unfold firstIn at h; exact List.mem_of_find?_eq_some h
theorem wayE_ne {l : List Piece} (hc : checkE l = 0) {i : Nat} (hi : i < l.length) {x : Str} (h : x ∈ wayE l i) : x ≠ ByteArray.empty := by
  obtain ⟨_, hid, _⟩ := valid_of hc
  unfold wayE idsAt at h
  obtain ⟨j, hj, rfl⟩ := List.mem_map.1 h
  have hjl : j < l.length := by have := wayI_lt hc i i (Nat.le_refl _) j hj; omega
  rw [List.getD_eq_getElem?_getD, List.getElem?_eq_getElem hjl]
  exact idOk_ne (hid _ (List.getElem_mem hjl))
theorem does_Ways : Does Tryz.prog (C48 gl) 5 (p_law3 (List Piece) Str Str) := tot3 (fun _ _ _ => 10) fun l a b ic => by
  refine W_body (c := _) Tryz.func5 rfl (by simp [Tryz.f5]) ?_
  by_cases hf : fewB l = true
  · have hl := (few_short hf).1
    have hlen := hl.1
    by_cases ha : a.size ≤ 100
    · have ha' : ¬ (100 < (a.size : Int)) := by omega
      by_cases hb : b.size ≤ 100
      · have hb' : ¬ (100 < (b.size : Int)) := by omega
        by_cases hE : firstE l a = 0
        · have hc : checkE l = 0 := by
            unfold firstE at hE
            split at hE
            · assumption
            · exact hE
          cases hk : idxK a (idsTo l l.length) with
          | none => simp [firstE, hc, hk] at hE
          | some k =>
            obtain ⟨_, _, hnd, _, _, _, _⟩ := valid_of hc
            obtain ⟨hkl, hid⟩ := idxK_id hnd hk
            have hx : idxN l a = k := by simp [idxN, hk]
            have hra : indexR l l.length a = k := by rw [indexR_all, hk]
            have hwk := wayE_len hc hkl
            have hwk2 : (wayE l k).length < 1000000 := by omega
            have hke := kidsE_len l a
            have hke2 : (kidsE l a).length < 1000000 := by omega
            have hgid : (l.getD k zeroPiece).Id = a := by rw [List.getD_eq_getElem?_getD, List.getElem?_eq_getElem hkl]; exact hid
            cases hq : idxK b (idsTo l l.length) with
            | none =>
              have hEb : firstE l b = 3 := by simp [firstE, hc, hq]
              have hC : commonE l a b = (ByteArray.empty, 3) := by simp [commonE, hE, hq]
              have hrb : indexR l l.length b = -1 := by rw [indexR_all, hq]
              simp (config := {decide := true, implicitDefEqProofs := false}) [Tryz.f5, p_Few, p_awake, p_Way, p_Kids, p_Lost, p_Common, p_first, p_FindR, p_RWay, p_RKids, p_RLost, p_RCommon, p_SameNames, hf, hl, hlen, ha', hb', hE, hEb, hx, hC, hra, hrb, hkl, hc, hwk2, hke2, hgid]
              rw [hid]
            | some q =>
              obtain ⟨hql, hidq⟩ := idxK_id hnd hq
              have hEb : firstE l b = 0 := by simp [firstE, hc, hq]
              have hxq : idxN l b = q := by simp [idxN, hq]
              have hrb : indexR l l.length b = q := by rw [indexR_all, hq]
              have hC : commonE l a b = (match firstIn (wayE l k) (wayE l q) with | some x => (x, 0) | none => (ByteArray.empty, 9)) := by simp [commonE, hE, hq, hx, hxq]
              cases hfi : firstIn (wayE l k) (wayE l q) with
              | none =>
                rw [hfi] at hC
                simp (config := {decide := true, implicitDefEqProofs := false}) [Tryz.f5, p_Few, p_awake, p_Way, p_Kids, p_Lost, p_Common, p_first, p_FindR, p_RWay, p_RKids, p_RLost, p_RCommon, p_SameNames, hf, hl, hlen, ha', hb', hE, hEb, hx, hC, hra, hrb, hkl, hql, hc, hwk2, hke2, hfi, hgid]
                rw [hid]
              | some x =>
                have hxe := wayE_ne hc hkl (firstIn_mem hfi)
                have hxe2 : ¬ x = ⟨#[]⟩ := hxe
                rw [hfi] at hC
                simp (config := {decide := true, implicitDefEqProofs := false}) [Tryz.f5, p_Few, p_awake, p_Way, p_Kids, p_Lost, p_Common, p_first, p_FindR, p_RWay, p_RKids, p_RLost, p_RCommon, p_SameNames, hf, hl, hlen, ha', hb', hE, hEb, hx, hC, hra, hrb, hkl, hql, hc, hwk2, hke2, hfi, hxe, hxe2, hgid]
                rw [hid]
        · have hC : commonE l a b = (ByteArray.empty, firstE l a) := by simp [commonE, hE]
          simp (config := {decide := true, implicitDefEqProofs := false}) [Tryz.f5, p_Few, p_awake, p_Way, p_Kids, p_Lost, p_Common, p_first, p_FindR, hf, hl, hlen, ha', hb', hE, hC]
      · have hb' : (100 < (b.size : Int)) := by omega
        simp (config := {decide := true, implicitDefEqProofs := false}) [Tryz.f5, p_Few, p_awake, hf, ha', hb']
    · have ha' : (100 < (a.size : Int)) := by omega
      simp (config := {decide := true, implicitDefEqProofs := false}) [Tryz.f5, p_Few, p_awake, hf, ha']
  · simp (config := {decide := true, implicitDefEqProofs := false}) [Tryz.f5, p_Few, p_awake, hf]
end Go.Proofs.YtmfgnajlkoafkaaGreatDoor
