/- trace.Yield. -/
import Derived.Test.YtmfgnajlkoafkaaGreatDoorZTzd
set_option linter.all false
set_option maxHeartbeats 2000000
namespace Go.Proofs.YtmfgnajlkoafkaaGreatDoor
open Go Go.AM Go.AM.Orient Go.AM.Lineage
open Go.AM.Enc (enc dec)
open Go.AM.Row (row ofRow)
set_option maxRecDepth 100000
set_option linter.unusedVariables false
set_option linter.unusedSimpArgs false
variable {gl : Gb}
/-- the block from which a piece comes -/
def rootE (l : List Piece) (i : Nat) : Str := (wayE l i).getLastD ByteArray.empty
noncomputable def yieldF (l : List Piece) (id : Str) (js : List Str) : Int := open Classical in js.foldl (fun a s => if s ≠ id ∧ rootE l (idxN l s) = id then w64 (a + volB (placeE l s).1) else a) 0
noncomputable def yieldE (l : List Piece) (id : Str) : Int × Int × Int :=
  open Classical in if firstE l id = 0 then (if (l.getD (idxN l id) zeroPiece).Parent = ByteArray.empty then (yieldF l id (presentE l), volB (boxAt l (idxN l id)), 0) else (0, 0, 1)) else (0, 0, firstE l id)
theorem wayE_pos {l : List Piece} (hc : checkE l = 0) {i : Nat} (hi : i < l.length) : 0 < (wayE l i).length := by
  rw [wayE_eq hc hi]; simp
theorem root_at {l : List Piece} (hc : checkE l = 0) {i : Nat} (hi : i < l.length) : (wayE l i)[(wayE l i).length - 1]? = some (rootE l i) := by
  have := wayE_pos hc hi
  unfold rootE
  rw [List.getLastD_eq_getLast?, List.getLast?_eq_getElem?, List.getElem?_eq_getElem (by omega)]; rfl
theorem yield_take {l : List Piece} {id : Str} {i : Nat} (hi : i < (presentE l).length) : yieldF l id ((presentE l).take (i + 1)) = (open Classical in if (presentE l)[i] ≠ id ∧ rootE l (idxN l (presentE l)[i]) = id then w64 (yieldF l id ((presentE l).take i) + volB (placeE l (presentE l)[i]).1) else yieldF l id ((presentE l).take i)) := by
  unfold yieldF
  rw [List.take_add_one, List.getElem?_eq_getElem hi, List.foldl_append]; rfl
noncomputable def p_Yield : List D → Option D := p2 fun (l : List Piece) (id : Str) => if shortIds l then some (.tuple [I (yieldE l id).1, I (yieldE l id).2.1, I (yieldE l id).2.2]) else none
theorem does_Yield : Does Tryz.prog (C49 gl) 46 p_Yield := Does.p2 fun l id d hd => by
  split at hd
  · rename_i hl
    cases hd
    refine ⟨_, pcall_of (k := 1000003) ?_⟩
    refine W_body (c := _) Tryz.func46 rfl (by simp [Tryz.f46]) ?_
    by_cases hc : checkE l = 0
    · obtain ⟨_, _, hnd, _⟩ := valid_of hc
      cases hk : idxK id (idsTo l l.length) with
      | none =>
        have hf : firstE l id = 3 := by simp [firstE, hc, hk]
        have hY : yieldE l id = (0, 0, 3) := by simp [yieldE, hf]
        simp (config := {decide := true, implicitDefEqProofs := false}) [Tryz.f46, p_Way, hl, hf, hY]
      | some k =>
        obtain ⟨hkl, hid⟩ := idxK_id hnd hk
        have hf : firstE l id = 0 := by simp [firstE, hc, hk]
        have hx : idxN l id = k := by simp [idxN, hk]
        have hF : findE l id = (l[k], 0) := by simp [findE, hf, hx, hkl]
        have hg : l.getD k zeroPiece = l[k] := by rw [List.getD_eq_getElem?_getD, List.getElem?_eq_getElem hkl]; rfl
        by_cases hp : l[k].Parent = ByteArray.empty
        · have hp' : l[k].Parent = ⟨#[]⟩ := hp
          have hY : yieldE l id = (yieldF l id (presentE l), volB (boxAt l k), 0) := by unfold yieldE; rw [if_pos hf, hx, hg, if_pos hp]
          simp (config := {decide := true, implicitDefEqProofs := false}) [Tryz.f46, p_Way, p_Find, p_presF, hl, hf, hF, hp', hY]
          refine (range_present hl hc (K := 1000001) (Nat.le_refl _) (fun i (h : Heap) => h.blk 27 = .cells [.d (I (yieldF l id ((presentE l).take i)))] ∧ h.blk 21 = .cells ((row l[k]).map .d) ∧ 27 < h.next) (fun _ _ => False) ?_ ?_ ?_ ?_).elim fun r hr' => ⟨r, hr'.1, ?_⟩
          · rintro i h1 h2 ⟨j1, j2, j3⟩ hx hn
            exact ⟨by rw [hx 27 j3 (by show 27 ≠ 31; decide)]; exact j1, by rw [hx 21 (by omega) (by show 21 ≠ 31; decide)]; exact j2, by omega⟩
          · exact fun _ _ _ h => h
          · rintro Lr Lb i hi h1 ⟨j1, j2, j3⟩ hn hb
            obtain ⟨k1, hm1, hx1⟩ := pres_at hc hi
            have hf1 : firstE l (presentE l)[i] = 0 := by simp [firstE, hc, hx1]
            have hxn : idxN l (presentE l)[i] = k1 := by simp [idxN, hx1]
            have hk1 := presI_lt hm1
            have hA := wayE_len hc hk1
            have hA0 := wayE_pos hc hk1
            have hroot := root_at hc hk1
            have hyt := yield_take (id := id) hi
            rw [hxn] at hyt
            simp only at hn hb
            generalize (placeE l (presentE l)[i]).1 = B at *
            generalize hs : (presentE l)[i] = s at *
            have hne : ∀ j : Nat, ¬ 27 = h1.next + j := fun j => by omega
            have hne0 : ¬ 27 = h1.next := by omega
            have hne' : ∀ j : Nat, ¬ 21 = h1.next + j := fun j => by omega
            have hne0' : ¬ 21 = h1.next := by omega
            have hnb : ∀ j : Nat, ¬ 31 = h1.next + j := fun j => by omega
            have hnb0 : ¬ 31 = h1.next := by omega
            have hAw : IntKind.i64.wrap (((wayE l k1).length : Int) - 1) = (((wayE l k1).length - 1 : Nat) : Int) := by rw [wrap_i64] <;> omega
            have hAl : (wayE l k1).length - 1 < (wayE l k1).length := by omega
            have hroot2 : (wayE l k1)[(wayE l k1).length - 1] = rootE l k1 := by rw [List.getElem?_eq_getElem hAl] at hroot; exact Option.some.inj hroot
            have hn30 : ¬ h1.next = 30 := by omega
            by_cases hsi : s = id
            · rw [if_neg (fun h => h.1 hsi)] at hyt
              simp (config := {decide := true, implicitDefEqProofs := false}) [putAll, p_Way, p_volume, hl, hf1, hxn, hroot2, hAw, hAl, hb, j1, j2, hne, hne0, hne', hne0', hnb, hnb0, hn30, hsi, hyt, hp', Nat.add_assoc]
              omega
            · by_cases hri : rootE l k1 = id
              · rw [if_pos ⟨hsi, hri⟩] at hyt
                simp (config := {decide := true, implicitDefEqProofs := false}) [putAll, p_Way, p_volume, hl, hf1, hxn, hroot2, hAw, hAl, hb, j1, j2, hne, hne0, hne', hne0', hnb, hnb0, hn30, hsi, hri, hyt, hp', Nat.add_assoc]
              · rw [if_neg (fun h => hri h.2)] at hyt
                simp (config := {decide := true, implicitDefEqProofs := false}) [putAll, p_Way, p_volume, hl, hf1, hxn, hroot2, hAw, hAl, hb, j1, j2, hne, hne0, hne', hne0', hnb, hnb0, hn30, hsi, hri, hyt, hp', Nat.add_assoc]
                omega
          · simp (config := {decide := true, implicitDefEqProofs := false}) [yieldF, hp']
          · obtain ⟨x, e2, h2⟩ := r
            obtain ⟨hq, rfl, ⟨rfl, j1, j2, j3⟩ | ⟨_, hF⟩⟩ := hr'
            · clear hq
              simp only at j1 j2 j3
              rw [List.take_length] at j1
              simp (config := {decide := true, implicitDefEqProofs := false}) [j1, j2, p_volume, boxAt_eq hkl]
              rw [hY, boxAt_eq hkl]
              exact ⟨rfl, rfl, rfl⟩
            · exact hF.elim
        · have hp' : ¬ l[k].Parent = ⟨#[]⟩ := hp
          have hY : yieldE l id = (0, 0, 1) := by unfold yieldE; rw [if_pos hf, hx, hg, if_neg hp]
          simp (config := {decide := true, implicitDefEqProofs := false}) [Tryz.f46, p_Way, p_Find, hl, hf, hF, hp', hY]
    · have hf : firstE l id = checkE l := by simp [firstE, hc]
      have hf0 : ¬ firstE l id = 0 := by rw [hf]; exact hc
      have hY : yieldE l id = (0, 0, checkE l) := by simp [yieldE, hf, hc]
      simp (config := {decide := true, implicitDefEqProofs := false}) [Tryz.f46, p_Way, hl, hf, hY, hc]
  · cases hd
end Go.Proofs.YtmfgnajlkoafkaaGreatDoor
