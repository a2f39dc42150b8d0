/- The law TraceYields: the reference's yield; the yield is at most the volume. -/
import Derived.Test.YtmfgnajlkoafkaaGreatDoorZTze
import Derived.Test.YtmfgnajlkoafkaaGreatDoorZTvo
set_option linter.all false
set_option maxHeartbeats 2000000
namespace Go.Proofs.YtmfgnajlkoafkaaGreatDoor
open Go Go.AM Go.AM.Orient Go.AM.Lineage
open Go.AM.Enc (enc dec)
open Go.AM.Row (row ofRow)
set_option maxRecDepth 100000
set_option linter.unusedVariables false
set_option linter.unusedSimpArgs false
theorem volB_place {l : List Piece} (hc : checkE l = 0) {k : Nat} (hkl : k < l.length) : volB (placeOf l k) = volB l[k].Box := by
  obtain ⟨_, _, hnd, _, hright, _, _⟩ := valid_of hc
  have P := posed hc k hkl
  obtain ⟨r1, r2, r3, r4, r5, r6, r7, r8, r9, r10⟩ := right_spec (hright _ (List.getElem_mem hkl))
  have hlen : lengths l[k].Box = vsub l[k].Box.Max l[k].Box.Min := lengths_near r2 r3
  obtain ⟨i1, i2, i3⟩ := invert_ok r1
  have e1 : lengths (placeOf l k) = perm (poseOf l k).Turn (Lineage.sizeOf l[k]).1 := by
    rw [lengths_near P.pmin P.pmax, P.place, mv_len P.turn (bad_size r7)]
    simp [vsub, zeroV]
  have e2 : lengths ⟨zeroV, (Lineage.sizeOf l[k]).1⟩ = (Lineage.sizeOf l[k]).1 := by
    rw [lengths_near nearV_zero (nearV_iff.2 (sizedV_iff.1 r7).1)]
    simp [vsub, zeroV]
  rw [volB_perm (a := ⟨zeroV, (Lineage.sizeOf l[k]).1⟩) P.turn (by rw [e1, e2])]
  refine volB_perm i1 ?_
  rw [e2, hlen, r6]
theorem volB_volZ {b : Box} (hb : bad b = false) (h1 : nearV b.Min = true) (h2 : nearV b.Max = true) : volB b = volZ b ∧ volZ b < 9223372036854775808 := by
  obtain ⟨p1, p2, p3⟩ := pos_of hb
  have hl := lengths_near h1 h2
  have s1 := nearV_iff.1 h1
  have s2 := nearV_iff.1 h2
  unfold small at s1 s2
  unfold volB volZ
  rw [hl, w64_mul]
  simp only [vsub]
  have a1 : 0 ≤ b.Max.X - b.Min.X := by omega
  have a2 : 0 ≤ b.Max.Y - b.Min.Y := by omega
  have a3 : 0 ≤ b.Max.Z - b.Min.Z := by omega
  have b1 : b.Max.X - b.Min.X ≤ 2000000 := by omega
  have b2 : b.Max.Y - b.Min.Y ≤ 2000000 := by omega
  have b3 : b.Max.Z - b.Min.Z ≤ 2000000 := by omega
  generalize b.Max.X - b.Min.X = x at *
  generalize b.Max.Y - b.Min.Y = y at *
  generalize b.Max.Z - b.Min.Z = z at *
  have c1 : y * z ≤ 2000000 * 2000000 := Int.mul_le_mul b2 b3 a3 (by omega)
  have c0 : 0 ≤ y * z := Int.mul_nonneg a2 a3
  have c2 : x * (y * z) ≤ 2000000 * (2000000 * 2000000) := Int.mul_le_mul b1 c1 c0 (by omega)
  have c3 : 0 ≤ x * (y * z) := Int.mul_nonneg a1 c0
  have c4 : x * y * z = x * (y * z) := Int.mul_assoc ..
  rw [c4]
  refine ⟨?_, by omega⟩
  unfold w64
  rw [wrap_i64] <;> omega
theorem root_in {l : List Piece} (hc : checkE l = 0) : ∀ (n i : Nat) (hi : i < l.length), i ≤ n → ∃ r, ∃ hr : r < l.length, l[r].Id = rootE l i ∧ inside (placeOf l i) (placeOf l r) = true
  | n, i, hi, hn => by
    cases hp : parN l i with
    | none =>
      refine ⟨i, hi, ?_, inside_refl _⟩
      unfold rootE
      rw [wayE_eq hc hi, hp]; rfl
    | some p =>
      obtain ⟨_, _, _, hpi⟩ := parN_some hc hp
      cases n with
      | zero => omega
      | succ n =>
        obtain ⟨r, hr, h1, h2⟩ := root_in hc n p (by omega) (by omega)
        refine ⟨r, hr, ?_, inside_trans (place_par hc hp) h2⟩
        rw [h1]
        have hpos := wayE_pos hc (i := p) (by omega)
        unfold rootE
        rw [wayE_eq hc hi, hp]
        simp only
        cases hw : wayE l p with
        | nil => rw [hw] at hpos; simp at hpos
        | cons a b => simp [List.getLastD_cons]
open Classical in
theorem fold_sum {c : Str → Prop} {g : Str → Int} {V : Int} (hV : V < 9223372036854775808) (hg : ∀ s, 0 ≤ g s) : ∀ (js : List Str) (a : Int), 0 ≤ a → a + ((js.filter fun s => decide (c s)).map g).sum ≤ V →
    js.foldl (fun a s => if c s then w64 (a + g s) else a) a = a + ((js.filter fun s => decide (c s)).map g).sum
  | [], a, _, _ => by simp
  | s :: js, a, h0, h => by
    have hnn : ∀ js : List Str, 0 ≤ ((js.filter fun s => decide (c s)).map g).sum := by
      intro js
      induction js with
      | nil => simp
      | cons x js ih =>
        rw [List.filter_cons]
        split
        · rw [List.map_cons, List.sum_cons]
          have := hg x; omega
        · exact ih
    have hs := hnn js
    rw [List.foldl_cons]
    by_cases hc : c s
    · rw [List.filter_cons_of_pos (by simpa using hc), List.map_cons, List.sum_cons] at h ⊢
      have hgs := hg s
      have hw : w64 (a + g s) = a + g s := by unfold w64; rw [wrap_i64] <;> omega
      rw [if_pos hc, hw, fold_sum hV hg js (a + g s) (by omega) (by omega)]; omega
    · rw [List.filter_cons_of_neg (by simpa using hc)] at h ⊢
      rw [if_neg hc]
      exact fold_sum hV hg js a h0 h
theorem yield_bound {l : List Piece} (hc : checkE l = 0) {id : Str} {k : Nat} (hk : idxK id (idsTo l l.length) = some k) : 0 ≤ yieldF l id (presentE l) ∧ yieldF l id (presentE l) ≤ volB (boxAt l k) := by
  classical
  obtain ⟨_, _, hnd, _⟩ := valid_of hc
  obtain ⟨hkl, hid⟩ := idxK_id hnd hk
  have P := posed hc k hkl
  have hVk := volB_volZ P.notbad P.pmin P.pmax
  have hBk : volB (boxAt l k) = volZ (placeOf l k) := by rw [boxAt_eq hkl, ← volB_place hc hkl, hVk.1]
  -- a present piece
  have hmem : ∀ s ∈ presentE l, ∃ j, ∃ hj : j < l.length, idxN l s = j ∧ (placeE l s).1 = placeOf l j := by
    intro s hs
    obtain ⟨a, ha, rfl⟩ := List.getElem_of_mem hs
    obtain ⟨j, hm, hx⟩ := pres_at hc ha
    exact ⟨j, presI_lt hm, by simp [idxN, hx], by simp [placeE, firstE, hc, hx, idxN]⟩
  have hvol : ∀ s ∈ presentE l, volB (placeE l s).1 = volZ (placeE l s).1 ∧ bad (placeE l s).1 = false := by
    intro s hs
    obtain ⟨j, hj, _, e⟩ := hmem s hs
    rw [e]
    exact ⟨(volB_volZ (posed hc j hj).notbad (posed hc j hj).pmin (posed hc j hj).pmax).1, (posed hc j hj).notbad⟩
  obtain ⟨c, hcd⟩ : ∃ c : Str → Prop, ∀ s, c s ↔ (s ≠ id ∧ rootE l (idxN l s) = id) := ⟨_, fun _ => Iff.rfl⟩
  have hin : ∀ s ∈ presentE l, c s → inside (placeE l s).1 (placeOf l k) = true := by
    intro s hs hcs
    obtain ⟨j, hj, e1, e2⟩ := hmem s hs
    obtain ⟨r, hr, h1, h2⟩ := root_in hc j j hj (Nat.le_refl _)
    have hcs2 := ((hcd s).1 hcs).2
    rw [e1] at hcs2
    obtain rfl : r = k := ids_inj hnd hr hkl (by rw [h1, hcs2, hid])
    rw [e2]; exact h2
  have hpw : (presentE l).Pairwise fun a b => overlap (placeE l a).1 (placeE l b).1 = false := by
    rw [List.pairwise_iff_getElem]
    intro a b ha hb hab
    obtain ⟨i, hm1, hx1⟩ := pres_at hc ha
    obtain ⟨j, hm2, hx2⟩ := pres_at hc hb
    have := apart_present hc hm1 hm2 (pres_ne hc ha hb (by omega) hx1 hx2)
    simpa [placeE, firstE, hc, hx1, hx2, idxN] using this
  obtain ⟨g, hgd⟩ : ∃ g : Str → Int, ∀ s, g s = if s ∈ presentE l then volZ (placeE l s).1 else 0 := ⟨_, fun _ => rfl⟩
  have hg : ∀ s, 0 ≤ g s := by
    intro s
    rw [hgd]
    split
    · rename_i hs; exact volZ_nn (hvol s hs).2
    · omega
  have hsum : (((presentE l).filter fun s => decide (c s)).map g).sum ≤ volZ (placeOf l k) := by
    have e : ((presentE l).filter fun s => decide (c s)).map g = (((presentE l).filter fun s => decide (c s)).map fun s => (placeE l s).1).map volZ := by
      rw [List.map_map]
      refine List.map_congr_left fun s hs => ?_
      have := (List.mem_filter.1 hs).1
      rw [hgd, if_pos this]; rfl
    rw [e]
    refine vol_sum P.notbad ?_ ?_
    · intro b hb
      obtain ⟨s, hs, rfl⟩ := List.mem_map.1 hb
      obtain ⟨hs1, hs2⟩ := List.mem_filter.1 hs
      exact ⟨(hvol s hs1).2, hin s hs1 (by simpa using hs2)⟩
    · rw [List.pairwise_map]
      exact hpw.filter _
  have hfold : yieldF l id (presentE l) = (presentE l).foldl (fun a s => if c s then w64 (a + g s) else a) 0 := by
    unfold yieldF
    have key : ∀ (js : List Str) (a : Int), (∀ s ∈ js, s ∈ presentE l) → js.foldl (fun a s => if s ≠ id ∧ rootE l (idxN l s) = id then w64 (a + volB (placeE l s).1) else a) a = js.foldl (fun a s => if c s then w64 (a + g s) else a) a := by
      intro js
      induction js with
      | nil => intro a _; rfl
      | cons s js ih =>
        intro a h
        have hs := h s (List.mem_cons_self ..)
        rw [List.foldl_cons, List.foldl_cons, ih _ fun x hx => h x (List.mem_cons_of_mem _ hx)]
        congr 1
        have : g s = volB (placeE l s).1 := by rw [hgd, if_pos hs, (hvol s hs).1]
        rw [this]
        by_cases hcs : c s
        · rw [if_pos ((hcd s).1 hcs), if_pos hcs]
        · rw [if_neg fun h => hcs ((hcd s).2 h), if_neg hcs]
    exact key _ _ fun s hs => hs
  have hlt := hVk.2
  have := fold_sum (c := c) (g := g) hlt hg (presentE l) 0 (by omega) (by omega)
  rw [hfold, this, hBk]
  have hnn : 0 ≤ (((presentE l).filter fun s => decide (c s)).map g).sum := by
    have : ∀ js : List Str, 0 ≤ (js.map g).sum := by
      intro js
      induction js with
      | nil => simp
      | cons x js ih => rw [List.map_cons, List.sum_cons]; have := hg x; omega
    exact this _
  omega
variable {gl : Gb}
def p_few56 : List D → Option D := p2 fun (l : List Piece) (id : Str) => some (.bool (fewB l && decide (id.size ≤ 100)))
theorem does_few56 : Does Tryz.prog (C49 gl) 44 p_few56 := tot2 (fun _ _ => 10) fun l id ic => by
  refine W_body (c := _) Tryz.func44 rfl (by simp [Tryz.f44]) ?_
  by_cases hf : fewB l = true
  · by_cases hn : id.size ≤ 100
    · have hn' : (id.size : Int) ≤ 100 := by omega
      simp (config := {decide := true, implicitDefEqProofs := false}) [Tryz.f44, p_Few, hf, hn, hn']
    · have hn' : ¬ (id.size : Int) ≤ 100 := by omega
      simp (config := {decide := true, implicitDefEqProofs := false}) [Tryz.f44, p_Few, hf, hn, hn']
  · simp (config := {decide := true, implicitDefEqProofs := false}) [Tryz.f44, p_Few, hf]
theorem does_first56 : Does Tryz.prog (C49 gl) 47 p_first := con2 (fun _ _ => 10) fun l id hs ic => by
  have hlen := hs.1
  have hr := indexR_all l id
  refine W_body (c := _) Tryz.func47 rfl (by simp [Tryz.f47]) ?_
  by_cases hc : checkE l = 0
  · cases hk : idxK id (idsTo l l.length) with
    | none =>
      rw [hk] at hr
      have hf : firstE l id = 3 := by simp [firstE, hc, hk]
      simp (config := {decide := true, implicitDefEqProofs := false}) [Tryz.f47, p_Check, p_FindR, hs, hlen, hc, hr, hf]
    | some k =>
      rw [hk] at hr
      have hk0 : ¬ (k : Int) < 0 := by omega
      have hf : firstE l id = 0 := by simp [firstE, hc, hk]
      simp (config := {decide := true, implicitDefEqProofs := false}) [Tryz.f47, p_Check, p_FindR, hs, hlen, hc, hr, hk0, hf]
  · have hf : firstE l id = checkE l := by simp [firstE, hc]
    simp (config := {decide := true, implicitDefEqProofs := false}) [Tryz.f47, p_Check, hs, hc, hf]
noncomputable def p_Block : List D → Option D := p2 fun (l : List Piece) (i : Int) => open Classical in if checkE l = 0 ∧ l.length < 1000000 ∧ 0 ≤ i ∧ i < l.length then some (.str (rootE l i.toNat)) else none
theorem does_Block : Does Tryz.prog (C49 gl) 59 p_Block := con2 (fun _ _ => 10) fun l z hcond ic => by
  obtain ⟨hc, hlen, hi0, hil⟩ := hcond
  obtain ⟨i, rfl⟩ := Int.eq_ofNat_of_zero_le hi0
  have hi : i < l.length := by omega
  simp only [Int.toNat_natCast]
  have hA := wayE_len hc hi
  have hA0 := wayE_pos hc hi
  have hroot := root_at hc hi
  have hAl : (wayE l i).length - 1 < (wayE l i).length := by omega
  have hroot2 : (wayE l i)[(wayE l i).length - 1] = rootE l i := by rw [List.getElem?_eq_getElem hAl] at hroot; exact Option.some.inj hroot
  have hAw : IntKind.i64.wrap (((wayE l i).length : Int) - 1) = (((wayE l i).length - 1 : Nat) : Int) := by rw [wrap_i64] <;> omega
  refine W_body (c := _) Tryz.func59 rfl (by simp [Tryz.f59]) ?_
  simp (config := {decide := true, implicitDefEqProofs := false}) [Tryz.f59, p_RWay, hc, hlen, hi, hAw, hAl, hroot2]
noncomputable def prims_C50 (gl : Gb) (f : FuncId) : Option (List D → Option D) := match f with
  | 46 => some p_Yield
  | 44 => some p_few56
  | 47 => some p_first
  | 59 => some p_Block
  | _ => none
noncomputable def C50 (gl : Gb) : Cfg := (C49 gl).more (prims_C50 gl)
@[simp] theorem mutS_C50 (gl : Gb) (f s) : (C50 gl).mutS f s = mutTab f s := rfl
@[simp] theorem pureF_C50 (gl : Gb) (f) : (C50 gl).pureF f = true := rfl
@[simp] theorem glob_C50 (gl : Gb) : (C50 gl).glob = gl := rfl
@[simp] theorem C50_p37 (gl : Gb) : (C50 gl).primF 37 = some p_Volume := rfl
@[simp] theorem C50_p26 (gl : Gb) : (C50 gl).primF 26 = some p_FindR := rfl
@[simp] theorem C50_p21 (gl : Gb) : (C50 gl).primF 21 = some p_RPresent := rfl
@[simp] theorem C50_p59 (gl : Gb) : (C50 gl).primF 59 = some p_Block := rfl
theorem C50_ok {gl : Gb} (h : (C49 gl).Ok Tryz.prog) : (C50 gl).Ok Tryz.prog := h.more (by
  intro f gf hf
  unfold prims_C50 at hf
  split at hf
  · simp only [Option.some.injEq] at hf; subst hf; exact does_Yield
  · simp only [Option.some.injEq] at hf; subst hf; exact does_few56
  · simp only [Option.some.injEq] at hf; subst hf; exact does_first56
  · simp only [Option.some.injEq] at hf; subst hf; exact does_Block
  · cases hf)
noncomputable def p_RYield : List D → Option D := p2 fun (l : List Piece) (id : Str) => open Classical in if checkE l = 0 ∧ l.length < 1000000 then some (I (yieldF l id (presentE l))) else none
theorem does_RYield : Does Tryz.prog (C50 gl) 48 p_RYield := con2 (fun _ _ => 1000001) fun l id hcond ic => by
  obtain ⟨hc, hlen⟩ := hcond
  have hpl := presentE_len l
  refine W_body (c := _) Tryz.func48 rfl (by simp [Tryz.f48]) ?_
  simp (config := {decide := true, implicitDefEqProofs := false}) [Tryz.f48, p_RPresent, hlen]
  refine W_loop rfl (fun (i : Nat) e h => e 7 = .d (I i) ∧ e 6 = .d (.list ((presentE l).map row)) ∧ e 0 = .d (.list (l.map row)) ∧ e 1 = .d (.str id) ∧ i ≤ (presentE l).length ∧ e 5 = .d (I (yieldF l id ((presentE l).take i)))) (fun i => (presentE l).length - i) 0 (by omega) (by simp (config := {decide := true, implicitDefEqProofs := false}) [yieldF]) ?_
  rintro i e h ⟨g1, g2, g3, g4, g5, g6⟩
  by_cases hlt : i < (presentE l).length
  · have hw : IntKind.i64.wrap ((i : Int) + 1) = ((i + 1 : Nat) : Int) := by rw [wrap_i64] <;> omega
    obtain ⟨k1, hm1, hx1⟩ := pres_at hc hlt
    have hk1 := presI_lt hm1
    have hxn : idxN l (presentE l)[i] = k1 := by simp [idxN, hx1]
    have hr : indexR l l.length (presentE l)[i] = k1 := by rw [indexR_all, hx1]
    have hyt := yield_take (id := id) hlt
    have hpz : (placeE l (presentE l)[i]).1 = placeOf l k1 := by simp [placeE, firstE, hc, hx1, idxN]
    rw [hxn, hpz, volB_place hc hk1] at hyt
    generalize hs : (presentE l)[i] = s at *
    by_cases hsi : s = id
    · rw [if_neg (fun h => h.1 hsi)] at hyt
      simp (config := {decide := true, implicitDefEqProofs := false}) [g1, g2, g3, g4, g6, hlt, hs, p_FindR, hlen, hr, hsi, hw]
      exact ⟨i + 1, by omega, rfl, by omega, by rw [hyt]⟩
    · by_cases hri : rootE l k1 = id
      · rw [if_pos ⟨hsi, hri⟩] at hyt
        simp (config := {decide := true, implicitDefEqProofs := false}) [g1, g2, g3, g4, g6, hlt, hs, p_FindR, p_Block, p_Volume, hlen, hc, hk1, hr, hsi, hri, hw]
        exact ⟨i + 1, by omega, rfl, by omega, by rw [hyt]⟩
      · rw [if_neg (fun h => hri h.2)] at hyt
        simp (config := {decide := true, implicitDefEqProofs := false}) [g1, g2, g3, g4, g6, hlt, hs, p_FindR, p_Block, p_Volume, hlen, hc, hk1, hr, hsi, hri, hw]
        exact ⟨i + 1, by omega, rfl, by omega, by rw [hyt]⟩
  · obtain rfl : i = (presentE l).length := by omega
    rw [List.take_length] at g6
    simp (config := {decide := true, implicitDefEqProofs := false}) [g1, g2, g6]
noncomputable def prims_C51 (gl : Gb) (f : FuncId) : Option (List D → Option D) := match f with
  | 48 => some p_RYield
  | _ => none
noncomputable def C51 (gl : Gb) : Cfg := (C50 gl).more (prims_C51 gl)
@[simp] theorem mutS_C51 (gl : Gb) (f s) : (C51 gl).mutS f s = mutTab f s := rfl
@[simp] theorem pureF_C51 (gl : Gb) (f) : (C51 gl).pureF f = true := rfl
@[simp] theorem glob_C51 (gl : Gb) : (C51 gl).glob = gl := rfl
theorem C51_ok {gl : Gb} (h : (C50 gl).Ok Tryz.prog) : (C51 gl).Ok Tryz.prog := h.more (by
  intro f gf hf
  unfold prims_C51 at hf
  split at hf
  · simp only [Option.some.injEq] at hf; subst hf; exact does_RYield
  · cases hf)
end Go.Proofs.YtmfgnajlkoafkaaGreatDoor
