/- The law TraceYields at the machine: it answers true. -/
import Derived.Test.YtmfgnajlkoafkaaGreatDoorZTzf
import Derived.Test.YtmfgnajlkoafkaaGreatDoorZTzg
set_option linter.all false
set_option maxHeartbeats 2000000
namespace Go.Proofs.YtmfgnajlkoafkaaGreatDoor
open Go Go.AM Go.AM.Orient Go.AM.Lineage
open Go.AM.Enc (enc dec)
open Go.AM.Row (row ofRow)
set_option maxRecDepth 100000
set_option linter.unusedVariables false
set_option linter.unusedSimpArgs false
variable {gl : Gb}
noncomputable def prims_C52 (gl : Gb) (f : FuncId) : Option (List D → Option D) := match f with
  | 45 => some p_awake
  | _ => none
noncomputable def C52 (gl : Gb) : Cfg := (C51 gl).more (prims_C52 gl)
@[simp] theorem mutS_C52 (gl : Gb) (f s) : (C52 gl).mutS f s = mutTab f s := rfl
@[simp] theorem pureF_C52 (gl : Gb) (f) : (C52 gl).pureF f = true := rfl
@[simp] theorem glob_C52 (gl : Gb) : (C52 gl).glob = gl := rfl
@[simp] theorem C52_p37 (gl : Gb) : (C52 gl).primF 37 = some p_Volume := rfl
@[simp] theorem C52_p26 (gl : Gb) : (C52 gl).primF 26 = some p_FindR := rfl
@[simp] theorem C52_p46 (gl : Gb) : (C52 gl).primF 46 = some p_Yield := rfl
@[simp] theorem C52_p44 (gl : Gb) : (C52 gl).primF 44 = some p_few56 := rfl
@[simp] theorem C52_p47 (gl : Gb) : (C52 gl).primF 47 = some p_first := rfl
@[simp] theorem C52_p48 (gl : Gb) : (C52 gl).primF 48 = some p_RYield := rfl
@[simp] theorem C52_p45 (gl : Gb) : (C52 gl).primF 45 = some p_awake := rfl
theorem C52_ok {m : Int} (h : (C51 (Gl m)).Ok Tryz.prog) : (C52 (Gl m)).Ok Tryz.prog := h.lib (by
  intro f gf hf
  unfold prims_C52 at hf
  split at hf
  · simp only [Option.some.injEq] at hf; subst hf; exact prim_awake56 m
  · cases hf)
theorem does_Yields : Does Tryz.prog (C52 gl) 8 (p_law (List Piece) Str) := tot2 (fun _ _ => 10) fun l id ic => by
  refine W_body (c := _) Tryz.func8 rfl (by simp [Tryz.f8]) ?_
  by_cases hf : fewB l = true
  · have hl := (few_short hf).1
    have hlen := hl.1
    by_cases hn : id.size ≤ 100
    · by_cases hE : firstE l id = 0
      · have hc : checkE l = 0 := by
          unfold firstE at hE
          split at hE
          · assumption
          · exact hE
        cases hk : idxK id (idsTo l l.length) with
        | none => simp [firstE, hc, hk] at hE
        | some k =>
          obtain ⟨_, _, hnd, _, _, _, _⟩ := valid_of hc
          obtain ⟨hkl, hid⟩ := idxK_id hnd hk
          have hx : idxN l id = k := by simp [idxN, hk]
          have hr : indexR l l.length id = k := by rw [indexR_all, hk]
          have hg : l.getD k zeroPiece = l[k] := by rw [List.getD_eq_getElem?_getD, List.getElem?_eq_getElem hkl]; rfl
          by_cases hp : l[k].Parent = ByteArray.empty
          · have hp' : l[k].Parent = ⟨#[]⟩ := hp
            have hY : yieldE l id = (yieldF l id (presentE l), volB l[k].Box, 0) := by unfold yieldE; rw [if_pos hE, hx, hg, if_pos hp, boxAt_eq hkl]
            obtain ⟨y1, y2⟩ := yield_bound hc hk
            rw [boxAt_eq hkl] at y2
            simp (config := {decide := true, implicitDefEqProofs := false}) [Tryz.f8, p_few56, p_awake, p_Yield, p_first, p_FindR, p_RYield, p_Volume, hf, hl, hlen, hn, hE, hY, hr, hkl, hp', hc, y1, y2]
          · have hp' : ¬ l[k].Parent = ⟨#[]⟩ := hp
            have hY : yieldE l id = (0, 0, 1) := by unfold yieldE; rw [if_pos hE, hx, hg, if_neg hp]
            simp (config := {decide := true, implicitDefEqProofs := false}) [Tryz.f8, p_few56, p_awake, p_Yield, p_first, p_FindR, hf, hl, hlen, hn, hE, hY, hr, hkl, hp']
      · have hY : yieldE l id = (0, 0, firstE l id) := by unfold yieldE; rw [if_neg hE]
        simp (config := {decide := true, implicitDefEqProofs := false}) [Tryz.f8, p_few56, p_awake, p_Yield, p_first, hf, hl, hlen, hn, hE, hY]
    · simp (config := {decide := true, implicitDefEqProofs := false}) [Tryz.f8, p_few56, p_awake, hf, hn]
  · simp (config := {decide := true, implicitDefEqProofs := false}) [Tryz.f8, p_few56, p_awake, hf]
end Go.Proofs.YtmfgnajlkoafkaaGreatDoor
