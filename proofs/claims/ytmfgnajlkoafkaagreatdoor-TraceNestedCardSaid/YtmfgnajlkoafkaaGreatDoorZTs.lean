/- The law LineageInside at the machine: it answers true. -/
import Derived.Test.YtmfgnajlkoafkaaGreatDoorZTr
import Derived.Test.YtmfgnajlkoafkaaGreatDoorMe
set_option linter.all false
set_option maxHeartbeats 2000000
namespace Go.Proofs.YtmfgnajlkoafkaaGreatDoor
open Go Go.AM Go.AM.Orient Go.AM.Lineage
open Go.AM.Enc (enc dec)
open Go.AM.Row (row ofRow)
set_option maxRecDepth 100000
set_option linter.unusedVariables false
set_option linter.unusedSimpArgs false
variable {gl : Gb}
theorem few_short {l : List Piece} (h : fewB l = true) : shortIds l ∧ ∀ p ∈ l, p.Parent.size ≤ 100 := by
  unfold fewB at h
  simp only [Bool.and_eq_true, decide_eq_true_eq, List.all_eq_true, shortP] at h
  exact ⟨⟨by omega, fun p hp => by have := (h.2 p hp).1; omega⟩, fun p hp => (h.2 p hp).2⟩
theorem w64_congr {a b : Int} (h : a % 18446744073709551616 = b % 18446744073709551616) : w64 a = w64 b := by
  simp [w64, IntKind.wrap, IntKind.bits, IntKind.signed, h]
theorem w64_mod (a : Int) : w64 a % 18446744073709551616 = a % 18446744073709551616 := by
  simp [w64, IntKind.wrap, IntKind.bits, IntKind.signed]; omega
theorem w64_mul (a b : Int) : w64 (w64 a * b) = w64 (a * b) := w64_congr (by rw [Int.mul_emod, w64_mod, ← Int.mul_emod])
theorem volB_perm {n : Int} {a b : Box} (h : okTurn n = true) (hl : lengths b = perm n (lengths a)) : volB b = volB a := by
  unfold volB
  rw [hl, w64_mul, w64_mul]
  obtain ⟨h1, _⟩ := turn_cases h
  generalize lengths a = v
  obtain ⟨x, y, z⟩ := v
  rcases h1 with e | e | e | e | e | e <;> simp only [perm, e, co] <;> simp only [reduceIte, Int.one_ne_zero, show ¬ ((2 : Int) = 0) from by decide, show ¬ ((2 : Int) = 1) from by decide, show ¬ ((1 : Int) = 0) from by decide] <;> congr 1 <;> grind
theorem inside_run {l : List Piece} {id : Str} (hf : fewB l = true) (hn : id.size ≤ 100) {p : Piece} {b s : Box} {q : Pose} {t : Int} {v : Vec} (hF : findE l id = (p, 0)) (hP : placeE l id = (b, 0)) (hQ : poseE l id = (q, 0))
    (hV : volB b = volB p.Box) (hI : invertE p.Pose.Turn = (t, 0)) (hS : size t (sub p.Box.Max p.Box.Min) = (v, 0)) (hB : boxOf q ⟨⟨0, 0, 0⟩, v⟩ = (b, 0))
    (hT : p.Parent = ByteArray.empty → b = p.Box) (hO : p.Parent ≠ ByteArray.empty → placeE l p.Parent = (s, 0) ∧ inside b s = true) (ic : CallF) :
    W (bodyC Tryz.prog (C25 gl) (pickC (C25 gl) ic 10) 10 6 [.d (enc l), .d (enc id)] Heap.empty) (fun r => freezeV r.2 (10 + 1) r.1 = some (.bool true)) := by
  have hl := (few_short hf).1
  have hn' : ¬ (100 < (id.size : Int)) := by omega
  refine W_body (c := _) Tryz.func6 rfl (by simp [Tryz.f6]) ?_
  by_cases hp : p.Parent = ByteArray.empty
  · have hb := hT hp
    subst hb
    simp (config := {decide := true, implicitDefEqProofs := false}) [Tryz.f6, p_Few, p_awake, p_Find, p_PlaceL, p_PoseL, p_Volume, p_Invert, p_Minus, p_Size, p_Box, hf, hl, hn', hF, hP, hQ, hV, hI, hS, hB, hp]
  · obtain ⟨h1, h2⟩ := hO hp
    have hp2 : ¬ p.Parent = ⟨#[]⟩ := hp
    simp [inside] at h2
    obtain ⟨a1, a2, a3, a4, a5, a6⟩ := h2
    simp (config := {decide := true, implicitDefEqProofs := false}) [Tryz.f6, p_Few, p_awake, p_Find, p_PlaceL, p_PoseL, p_Volume, p_Invert, p_Minus, p_Size, p_Box, hf, hl, hn', hF, hP, hQ, hV, hI, hS, hB, hp2, h1, a1, a2, a3, a4, a5, a6]
theorem lengths_near {b : Box} (h1 : nearV b.Min = true) (h2 : nearV b.Max = true) : lengths b = vsub b.Max b.Min := lengths_eq ((nearV_iff.1 h1).le (by omega)) ((nearV_iff.1 h2).le (by omega))
theorem does_Inside : Does Tryz.prog (C25 gl) 6 (p_law (List Piece) Str) := tot2 (fun _ _ => 10) fun l id ic => by
  by_cases hf : fewB l = true
  · have hl := (few_short hf).1
    by_cases hn : id.size ≤ 100
    · have hn' : ¬ (100 < (id.size : Int)) := by omega
      by_cases hE : firstE l id = 0
      · have hc : checkE l = 0 := by
          unfold firstE at hE
          split at hE
          · assumption
          · exact hE
        cases hk : idxK id (idsTo l l.length) with
        | none => simp [firstE, hc, hk] at hE
        | some k =>
          obtain ⟨_, _, hnd, _, hright, _, _⟩ := valid_of hc
          obtain ⟨hkl, hid⟩ := idxK_id hnd hk
          have P := posed hc k hkl
          obtain ⟨r1, r2, r3, r4, r5, r6, r7, r8, r9, r10⟩ := right_spec (hright _ (List.getElem_mem hkl))
          have hx : idxN l id = k := by simp [idxN, hk]
          have hF : findE l id = (l[k], 0) := by simp [findE, hE, hx, hkl]
          have hP : placeE l id = (placeOf l k, 0) := by simp [placeE, hE, hx]
          have hQ : poseE l id = (poseOf l k, 0) := by simp [poseE, hE, hx]
          have hlen : lengths l[k].Box = vsub l[k].Box.Max l[k].Box.Min := lengths_near r2 r3
          have hsub : sub l[k].Box.Max l[k].Box.Min = lengths l[k].Box := rfl
          obtain ⟨i1, i2, i3⟩ := invert_ok r1
          have hI : invertE l[k].Pose.Turn = (invert l[k].Pose.Turn, 0) := by simp [invertE, r1]
          have hS : size (invert l[k].Pose.Turn) (sub l[k].Box.Max l[k].Box.Min) = ((Lineage.sizeOf l[k]).1, 0) := by
            rw [hsub, hlen, r6]
            obtain ⟨s0, s1, s2, s3⟩ := sizedV_iff.1 r5
            unfold size
            rw [if_neg (by simp [i1, r5]), turned_eq i1 s0 (by omega) (by omega) (by omega)]
          have hV : volB (placeOf l k) = volB l[k].Box := by
            have e1 : lengths (placeOf l k) = perm (poseOf l k).Turn (Lineage.sizeOf l[k]).1 := by
              rw [lengths_near P.pmin P.pmax, P.place, mv_len P.turn (bad_size r7)]
              simp [vsub, zeroV]
            have e2 : lengths ⟨zeroV, (Lineage.sizeOf l[k]).1⟩ = (Lineage.sizeOf l[k]).1 := by
              rw [lengths_near nearV_zero (nearV_iff.2 (sizedV_iff.1 r7).1)]
              simp [vsub, zeroV]
            rw [volB_perm (a := ⟨zeroV, (Lineage.sizeOf l[k]).1⟩) P.turn (by rw [e1, e2])]
            refine volB_perm i1 ?_
            rw [e2, hlen, r6]
          by_cases hp : l[k].Parent = ByteArray.empty
          · exact (inside_run (s := zeroB) hf hn hF hP hQ hV hI hS P.box (fun h => (P.top h).2) (fun h => absurd hp h) ic)
          · obtain ⟨j, hj, hjk⟩ := parent_of hc hkl hp
            obtain ⟨_, _, _, hin⟩ := P.kid hp j hj
            have hP2 : placeE l l[k].Parent = (placeOf l j, 0) := by simp [placeE, firstE, hc, hj, idxN]
            exact (inside_run (s := placeOf l j) hf hn hF hP hQ hV hI hS P.box (fun h => absurd h hp) (fun _ => ⟨hP2, hin⟩) ic)
      · refine W_body (c := _) Tryz.func6 rfl (by simp [Tryz.f6]) ?_
        have hF : findE l id = (zeroPiece, firstE l id) := by simp [findE, hE]
        have hP : placeE l id = (zeroB, firstE l id) := by simp [placeE, hE]
        have hQ : poseE l id = (zeroP, firstE l id) := by simp [poseE, hE]
        simp (config := {decide := true, implicitDefEqProofs := false}) [Tryz.f6, p_Few, p_awake, p_Find, p_PlaceL, p_PoseL, hf, hl, hn', hF, hP, hQ, hE, zeroPiece, zeroP, zeroB, zeroV]
    · have hn' : (100 < (id.size : Int)) := by omega
      refine W_body (c := _) Tryz.func6 rfl (by simp [Tryz.f6]) ?_
      simp (config := {decide := true, implicitDefEqProofs := false}) [Tryz.f6, p_Few, p_awake, hf, hn']
  · refine W_body (c := _) Tryz.func6 rfl (by simp [Tryz.f6]) ?_
    simp (config := {decide := true, implicitDefEqProofs := false}) [Tryz.f6, p_Few, p_awake, hf]
end Go.Proofs.YtmfgnajlkoafkaaGreatDoor
