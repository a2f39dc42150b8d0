/- Strings put in order, one by one; the reference's Sorted, Kids, Present, SameNames; the law LineageChecks. -/
import Derived.Test.YtmfgnajlkoafkaaGreatDoorMl
set_option linter.all false
set_option maxHeartbeats 2000000
namespace Go.AM.Lineage
open Go Go.AM Go.AM.Orient Go.Sort
open Go.AM.Enc (enc dec)
open Go.AM.Row (row ofRow)
set_option linter.unusedVariables false
def leS (a b : Str) : Prop := a.data.toList ≤ b.data.toList
def ltS (a b : Str) : Bool := Op.bytesLess a.toList b.toList
theorem ltS_eq (a b : Str) : ltS a b = decide (a.data.toList < b.data.toList) := by unfold ltS; rw [Go.Proofs.bytesLess_eq, Lib.toList_data, Lib.toList_data]
theorem leS_anti {a b : Str} (h1 : leS a b) (h2 : leS b a) : a = b := by
  have := List.le_antisymm h1 h2
  have h := congrArg ofBytes this
  rwa [ofBytes_data, ofBytes_data] at h
theorem sortS_pair (l : List Str) : (sortS l).Pairwise leS := by
  unfold sortS
  rw [List.pairwise_map]
  have h := List.pairwise_mergeSort (le := fun x y : List UInt8 => decide (x ≤ y)) (fun a b c h1 h2 => by simp at *; exact List.le_trans h1 h2) (fun a b => by simp; exact List.le_total a b) (l.map fun s => s.data.toList)
  refine h.imp ?_
  intro a b hab
  simp only [decide_eq_true_eq] at hab
  simpa [leS, ofBytes] using hab
theorem sortS_uniq {l l' : List Str} (hp : l.Perm l') (hs : l.Pairwise leS) : l = sortS l' :=
  List.Perm.eq_of_pairwise (fun a b _ _ h1 h2 => leS_anti h1 h2) hs (sortS_pair l') (hp.trans (sortS_perm l').symm)
def insS (x : Str) (out : List Str) : List Str := out.takeWhile (fun y => ltS y x) ++ x :: out.dropWhile (fun y => ltS y x)
def sortR (l : List Str) : List Str := l.foldl (fun o x => insS x o) []
theorem insS_perm (x : Str) (out : List Str) : (insS x out).Perm (x :: out) := by
  unfold insS
  refine List.perm_middle.trans ?_
  rw [List.takeWhile_append_dropWhile]
theorem insS_pair {x : Str} : ∀ {out : List Str}, out.Pairwise leS → (insS x out).Pairwise leS
  | [], _ => by simp [insS]
  | y :: out, h => by
    obtain ⟨h1, h2⟩ := List.pairwise_cons.1 h
    unfold insS
    cases hy : ltS y x with
    | true =>
      rw [List.takeWhile_cons_of_pos (p := fun y => ltS y x) hy, List.dropWhile_cons_of_pos (p := fun y => ltS y x) hy, List.cons_append, List.pairwise_cons]
      refine ⟨fun z hz => ?_, insS_pair h2⟩
      have hz2 : z ∈ insS x out := hz
      rcases List.mem_cons.1 ((insS_perm x out).mem_iff.1 hz2) with rfl | hz3
      · rw [ltS_eq, decide_eq_true_eq] at hy
        exact List.le_of_lt hy
      · exact h1 z hz3
    | false =>
      rw [List.takeWhile_cons_of_neg (p := fun y => ltS y x) (by simp [hy]), List.dropWhile_cons_of_neg (p := fun y => ltS y x) (by simp [hy]), List.nil_append, List.pairwise_cons]
      rw [ltS_eq, decide_eq_false_iff_not, List.not_lt] at hy
      refine ⟨fun z hz => ?_, h⟩
      rcases List.mem_cons.1 hz with rfl | hz
      · exact hy
      · exact List.le_trans hy (h1 z hz)
theorem sortR_spec : ∀ (l o : List Str), o.Pairwise leS → (l.foldl (fun o x => insS x o) o).Pairwise leS ∧ (l.foldl (fun o x => insS x o) o).Perm (o ++ l)
  | [], o, h => by simpa using h
  | x :: l, o, h => by
    obtain ⟨h1, h2⟩ := sortR_spec l (insS x o) (insS_pair h)
    refine ⟨h1, h2.trans ?_⟩
    refine ((insS_perm x o).append_right l).trans ?_
    exact List.perm_middle.symm
theorem sortR_eq (l : List Str) : sortR l = sortS l := by
  obtain ⟨h1, h2⟩ := sortR_spec l [] .nil
  exact sortS_uniq h2 h1
theorem sortR_take {l : List Str} {i : Nat} (hi : i < l.length) : sortR (l.take (i + 1)) = insS l[i] (sortR (l.take i)) := by
  unfold sortR
  rw [List.take_add_one, List.getElem?_eq_getElem hi, List.foldl_append]; rfl
theorem sortR_len (l : List Str) : (sortR l).length = l.length := by
  rw [sortR_eq, sortS_length]
theorem takeWhile_at {p : Str → Bool} : ∀ {l : List Str} {k : Nat}, k ≤ l.length → (∀ j (h : j < l.length), j < k → p l[j] = true) → (∀ h : k < l.length, p l[k] = false) → l.takeWhile p = l.take k ∧ l.dropWhile p = l.drop k
  | [], k, _, _, _ => by simp
  | x :: l, 0, _, _, h => by
    have := h (by simp)
    simp at this
    simp [this]
  | x :: l, k + 1, hk, h1, h2 => by
    have hx := h1 0 (by simp) (by omega)
    simp at hx
    have := takeWhile_at (p := p) (l := l) (k := k) (by simpa using hk) (fun j h hj => h1 (j + 1) (by simpa using h) (by omega)) (fun h => h2 (by simpa using h))
    simp [hx, this]
theorem insS_at {l : List Str} {x : Str} {k : Nat} (hk : k ≤ l.length) (h1 : ∀ j (h : j < l.length), j < k → ltS l[j] x = true) (h2 : ∀ h : k < l.length, ltS l[k] x = false) : insS x l = l.take k ++ x :: l.drop k := by
  obtain ⟨e1, e2⟩ := takeWhile_at (p := fun y => ltS y x) hk h1 h2
  unfold insS; rw [e1, e2]
end Go.AM.Lineage
namespace Go.Proofs.YtmfgnajlkoafkaaGreatDoor
open Go Go.AM Go.AM.Orient Go.AM.Lineage
open Go.AM.Enc (enc dec)
open Go.AM.Row (row ofRow)
set_option maxRecDepth 100000
set_option linter.unusedVariables false
set_option linter.unusedSimpArgs false
variable {gl : Gb}
noncomputable def p_Sorted : List D → Option D := p1 fun (l : List Str) => open Classical in if l.length < 1000000 then some (.list ((sortS l).map row)) else none
theorem does_Sorted : Does Tryz.prog (C42 gl) 83 p_Sorted := con1 (fun _ => 1000001) fun l hlen ic => by
  refine W_body (c := _) Tryz.func83 rfl (by simp [Tryz.f83]) ?_
  simp (config := {decide := true, implicitDefEqProofs := false}) [Tryz.f83]
  refine W_loop rfl (fun (i : Nat) e h => e 4 = .d (I i) ∧ e 0 = .d (.list (l.map row)) ∧ i ≤ l.length ∧ ∃ t, e 3 = .own t ((sortR (l.take i)).map row) ∧ h.blk t = .tok 9 1 ∧ t < h.next) (fun i => l.length - i) 0 (by omega) (by simp (config := {decide := true, implicitDefEqProofs := false}) [sortR]) ?_
  rintro i e h ⟨g1, g2, g3, t, g4, g5, g6⟩
  by_cases hlt : i < l.length
  · have hw : IntKind.i64.wrap ((i : Int) + 1) = ((i + 1 : Nat) : Int) := by rw [wrap_i64] <;> omega
    have hol : (sortR (l.take i)).length = i := by rw [sortR_len]; simp; omega
    have htk := sortR_take hlt
    generalize sortR (l.take i) = o at *
    simp (config := {decide := true, implicitDefEqProofs := false}) [g1, g2, hlt]
    refine W_loop rfl (fun (k : Nat) e' h' => e' 5 = .d (I k) ∧ e' 4 = .d (I i) ∧ e' 0 = .d (.list (l.map row)) ∧ k ≤ i ∧ e' 3 = .own t (o.map row) ∧ h'.blk t = .tok 9 1 ∧ t < h'.next ∧
      ∀ j (hj : j < o.length), j < k → ltS o[j] l[i] = true) (fun k => i - k) 0 (by omega) (by simp (config := {decide := true, implicitDefEqProofs := false}) [g1, g2, g4, g5]; omega) ?_
    rintro k e' h' ⟨d1, d2, d3, d4, d5, d6, d7, d8⟩
    have hne : ∀ j : Nat, ¬ t = h'.next + j := fun j => by omega
    have hne0 : ¬ t = h'.next := by omega
    have hh : headLen 1 (o.map row) = true := headLen_str o
    by_cases hk : k < i
    · have hkw : IntKind.i64.wrap ((k : Int) + 1) = ((k + 1 : Nat) : Int) := by rw [wrap_i64] <;> omega
      have hko : k < o.length := by omega
      cases hx : ltS o[k] l[i] with
      | true =>
        have hx' := hx
        unfold ltS at hx'
        simp (config := {decide := true, implicitDefEqProofs := false}) [d1, d2, d3, d5, d6, hol, hk, hko, hlt, hkw, hx', strOpD, hne, hne0, Nat.add_assoc]
        exact ⟨k + 1, by omega, rfl, by omega, by omega, fun j hj hjk => by
          by_cases e : j = k
          · subst e; exact hx
          · exact d8 j (by omega) (by omega)⟩
      | false =>
        have hx' := hx
        unfold ltS at hx'
        have hin := insS_at (l := o) (x := l[i]) (k := k) (by omega) d8 (fun _ => hx)
        have hA : List.take k (o.map row) = (o.take k).map row := List.map_take.symm
        have hB : List.take (i - k) (List.drop k (o.map row)) = (o.drop k).map row := by rw [List.take_of_length_le (by simp; omega), List.map_drop]
        have hdl : (o.drop k).length = i - k := by simp; omega
        have htl : (o.take k).length = k := by simp; omega
        rw [hin] at htk
        generalize o.take k = A at *
        generalize o.drop k = B at *
        have hki : k ≤ i := d4
        have hh2 := hh
        unfold headLen at hh2
        rcases A with _ | ⟨a, A⟩ <;> rcases B with _ | ⟨b, B⟩ <;> simp only [List.length_cons, List.length_nil, List.map_cons, List.map_nil] at htl hdl hA hB <;> simp (config := {decide := true, implicitDefEqProofs := false}) [hki, hh2, hA, hB, d1, d2, d3, d5, d6, hol, hk, hko, hlt, hkw, hx', strOpD, hw, hne, hne0, Nat.add_assoc]
        · exact ⟨i + 1, by omega, rfl, by omega, _, ⟨rfl, by rw [htk]; rfl⟩, fun h => absurd rfl h, by omega⟩
        · exact ⟨fun _ _ => ⟨i + 1, by omega, rfl, by omega, _, ⟨rfl, by rw [htk]; rfl⟩, fun h => absurd rfl h, by omega⟩, by omega, by omega⟩
        · exact ⟨fun _ _ => ⟨fun _ _ => ⟨i + 1, by omega, rfl, by omega, _, ⟨rfl, by rw [htk]; simp⟩, fun h => absurd rfl h, by omega⟩, by omega, by omega⟩, by omega, by omega⟩
        · exact ⟨fun _ _ => ⟨fun _ _ => ⟨fun _ _ => ⟨i + 1, by omega, rfl, by omega, _, ⟨rfl, by rw [htk]; simp⟩, fun h => absurd rfl h, by omega⟩, by omega, by omega⟩, by omega, by omega⟩, by omega, by omega⟩
    · obtain rfl : k = i := by omega
      have hin := insS_at (l := o) (x := l[k]) (k := k) (by omega) d8 (fun h => by omega)
      have hA : List.take k (o.map row) = (o.take k).map row := List.map_take.symm
      have hB : List.drop k (o.map row) = [] := List.drop_of_length_le (by simp; omega)
      have hB2 : List.drop k o = [] := List.drop_of_length_le (by omega)
      have htl : (o.take k).length = k := by simp; omega
      rw [hin, hB2] at htk
      generalize o.take k = A at *
      have hh2 := hh
      unfold headLen at hh2
      rcases A with _ | ⟨a, A⟩ <;> simp only [List.length_cons, List.length_nil, List.map_cons, List.map_nil] at htl hA <;> simp (config := {decide := true, implicitDefEqProofs := false}) [hh2, hA, hB, d1, d2, d3, d5, d6, hol, hlt, hw, hne, hne0, Nat.add_assoc]
      · exact ⟨k + 1, by omega, rfl, by omega, _, ⟨rfl, by rw [htk]; rfl⟩, fun h => absurd rfl h, by omega⟩
      · exact ⟨fun _ _ => ⟨fun _ _ => ⟨k + 1, by omega, rfl, by omega, _, ⟨rfl, by rw [htk]; simp⟩, fun h => absurd rfl h, by omega⟩, by omega, by omega⟩, by omega, by omega⟩
  · obtain rfl : i = l.length := by omega
    rw [List.take_length, sortR_eq] at g4
    simp (config := {decide := true, implicitDefEqProofs := false}) [g1, g2, g4, g5]
noncomputable def prims_C43 (gl : Gb) (f : FuncId) : Option (List D → Option D) := match f with
  | 83 => some p_Sorted
  | _ => none
noncomputable def C43 (gl : Gb) : Cfg := (C42 gl).more (prims_C43 gl)
@[simp] theorem mutS_C43 (gl : Gb) (f s) : (C43 gl).mutS f s = mutTab f s := rfl
@[simp] theorem pureF_C43 (gl : Gb) (f) : (C43 gl).pureF f = true := rfl
@[simp] theorem glob_C43 (gl : Gb) : (C43 gl).glob = gl := rfl
@[simp] theorem C43_p83 (gl : Gb) : (C43 gl).primF 83 = some p_Sorted := rfl
theorem C43_ok {gl : Gb} (h : (C42 gl).Ok Tryz.prog) : (C43 gl).Ok Tryz.prog := h.more (by
  intro f gf hf
  unfold prims_C43 at hf
  split at hf
  · simp only [Option.some.injEq] at hf; subst hf; exact does_Sorted
  · cases hf)
/-- the kids among the first pieces -/
def kidTo (l : List Piece) (id : Str) (i : Nat) : List Nat := (List.range i).filter fun j => decide ((l.getD j zeroPiece).Parent = id)
def kidI (l : List Piece) (id : Str) : List Nat := kidTo l id l.length
def kidsE (l : List Piece) (id : Str) : List Str := sortS (idsAt l (kidI l id))
theorem kidTo_succ {l : List Piece} {id : Str} {i : Nat} (hi : i < l.length) : idsAt l (kidTo l id (i + 1)) = if l[i].Parent = id then idsAt l (kidTo l id i) ++ [l[i].Id] else idsAt l (kidTo l id i) := by
  unfold kidTo idsAt
  have e : l.getD i zeroPiece = l[i] := by rw [List.getD_eq_getElem?_getD, List.getElem?_eq_getElem hi]; rfl
  rw [List.range_succ, List.filter_append, List.filter_cons, List.filter_nil, e]
  by_cases h : l[i].Parent = id
  · simp [h, List.getElem?_eq_getElem hi]
  · simp [h]
theorem kidTo_len (l : List Piece) (id : Str) (i : Nat) : (idsAt l (kidTo l id i)).length ≤ i := by
  unfold kidTo idsAt
  have := List.length_filter_le (fun j => decide ((l.getD j zeroPiece).Parent = id)) (List.range i)
  simpa using this
theorem kidsE_len (l : List Piece) (id : Str) : (kidsE l id).length ≤ l.length := by
  unfold kidsE kidI
  rw [sortS_length]; exact kidTo_len l id l.length
theorem kidsE_nil {l : List Piece} {id : Str} : (kidsE l id).length = 0 ↔ hasKid l id = false := by
  unfold kidsE kidI
  rw [sortS_length]
  unfold idsAt kidTo hasKid
  rw [List.length_map, List.length_eq_zero_iff, List.filter_eq_nil_iff, List.any_eq_false]
  constructor
  · intro h p hp
    obtain ⟨j, hj, rfl⟩ := List.getElem_of_mem hp
    have := h j (by simpa using hj)
    rwa [List.getD_eq_getElem?_getD, List.getElem?_eq_getElem hj] at this
  · intro h j hj
    have hj' : j < l.length := by simpa using hj
    rw [List.getD_eq_getElem?_getD, List.getElem?_eq_getElem hj']
    exact h _ (List.getElem_mem hj')
noncomputable def p_RKids : List D → Option D := p2 fun (l : List Piece) (id : Str) => open Classical in if l.length < 1000000 then some (.list ((kidsE l id).map row)) else none
theorem does_RKids : Does Tryz.prog (C43 gl) 35 p_RKids := con2 (fun _ _ => 1000001) fun l id hlen ic => by
  refine W_body (c := _) Tryz.func35 rfl (by simp [Tryz.f35]) ?_
  simp (config := {decide := true, implicitDefEqProofs := false}) [Tryz.f35]
  refine W_loop rfl (fun (i : Nat) e h => e 6 = .d (I i) ∧ e 0 = .d (.list (l.map row)) ∧ e 1 = .d (.str id) ∧ i ≤ l.length ∧ ∃ t, e 5 = .own t ((idsAt l (kidTo l id i)).map row) ∧ h.blk t = .tok 9 1 ∧ t < h.next) (fun i => l.length - i) 0 (by omega) (by simp (config := {decide := true, implicitDefEqProofs := false}) [kidTo, idsAt]) ?_
  rintro i e h ⟨g1, g2, g3, g4, t, g5, g6, g7⟩
  have hol := kidTo_len l id i
  by_cases hlt : i < l.length
  · have hw : IntKind.i64.wrap ((i : Int) + 1) = ((i + 1 : Nat) : Int) := by rw [wrap_i64] <;> omega
    have hne : ∀ j : Nat, ¬ t = h.next + j := fun j => by omega
    have hne0 : ¬ t = h.next := by omega
    have hs := kidTo_succ (id := id) hlt
    by_cases hp : l[i].Parent = id
    · rw [if_pos hp] at hs
      simp (config := {decide := true, implicitDefEqProofs := false}) [g1, g2, g3, g5, g6, hlt, hp, hw, hne, hne0, Nat.add_assoc]
      exact ⟨fun _ _ => ⟨i + 1, by omega, rfl, by omega, _, ⟨rfl, by rw [hs]; simp⟩, fun h => absurd rfl h, by omega⟩, by omega, by omega⟩
    · rw [if_neg hp] at hs
      simp (config := {decide := true, implicitDefEqProofs := false}) [g1, g2, g3, g5, g6, hlt, hp, hw, hne, hne0, Nat.add_assoc]
      exact ⟨i + 1, by omega, rfl, by omega, t, ⟨rfl, by rw [hs]⟩, g6, by omega⟩
  · obtain rfl : i = l.length := by omega
    have hk : (idsAt l (kidTo l id l.length)).length < 1000000 := by omega
    have hE : sortS (idsAt l (kidTo l id l.length)) = kidsE l id := rfl
    simp (config := {decide := true, implicitDefEqProofs := false}) [g1, g2, g5, g6, p_Sorted, hk, hE]
noncomputable def prims_C44 (gl : Gb) (f : FuncId) : Option (List D → Option D) := match f with
  | 35 => some p_RKids
  | _ => none
noncomputable def C44 (gl : Gb) : Cfg := (C43 gl).more (prims_C44 gl)
@[simp] theorem mutS_C44 (gl : Gb) (f s) : (C44 gl).mutS f s = mutTab f s := rfl
@[simp] theorem pureF_C44 (gl : Gb) (f) : (C44 gl).pureF f = true := rfl
@[simp] theorem glob_C44 (gl : Gb) : (C44 gl).glob = gl := rfl
@[simp] theorem C44_p83 (gl : Gb) : (C44 gl).primF 83 = some p_Sorted := rfl
@[simp] theorem C44_p35 (gl : Gb) : (C44 gl).primF 35 = some p_RKids := rfl
theorem C44_ok {gl : Gb} (h : (C43 gl).Ok Tryz.prog) : (C44 gl).Ok Tryz.prog := h.more (by
  intro f gf hf
  unfold prims_C44 at hf
  split at hf
  · simp only [Option.some.injEq] at hf; subst hf; exact does_RKids
  · cases hf)
theorem presAt_succ {l : List Piece} {i : Nat} (hi : i < l.length) : idsAt l (presTo l (i + 1)) = if hasKid l l[i].Id = false then idsAt l (presTo l i) ++ [l[i].Id] else idsAt l (presTo l i) := by
  rw [presTo_succ hi]
  split
  · unfold idsAt
    rw [List.map_append, List.map_cons, List.map_nil, List.getD_eq_getElem?_getD, List.getElem?_eq_getElem hi]; rfl
  · rfl
noncomputable def p_RPresent : List D → Option D := p1 fun (l : List Piece) => open Classical in if l.length < 1000000 then some (.list ((presentE l).map row)) else none
theorem does_RPresent : Does Tryz.prog (C44 gl) 21 p_RPresent := con1 (fun _ => 1000001) fun l hlen ic => by
  refine W_body (c := _) Tryz.func21 rfl (by simp [Tryz.f21]) ?_
  simp (config := {decide := true, implicitDefEqProofs := false}) [Tryz.f21]
  refine W_loop rfl (fun (i : Nat) e h => e 4 = .d (I i) ∧ e 0 = .d (.list (l.map row)) ∧ i ≤ l.length ∧ ∃ t, e 3 = .own t ((idsAt l (presTo l i)).map row) ∧ h.blk t = .tok 9 1 ∧ t < h.next) (fun i => l.length - i) 0 (by omega) (by simp (config := {decide := true, implicitDefEqProofs := false}) [presTo, idsAt]) ?_
  rintro i e h ⟨g1, g2, g4, t, g5, g6, g7⟩
  have hol : (idsAt l (presTo l i)).length ≤ i := by simp only [idsAt, List.length_map]; exact presTo_len l i
  by_cases hlt : i < l.length
  · have hw : IntKind.i64.wrap ((i : Int) + 1) = ((i + 1 : Nat) : Int) := by rw [wrap_i64] <;> omega
    have hne : ∀ j : Nat, ¬ t = h.next + j := fun j => by omega
    have hne0 : ¬ t = h.next := by omega
    have hs := presAt_succ hlt
    have hkn := kidsE_nil (l := l) (id := l[i].Id)
    cases hp : hasKid l l[i].Id with
    | false =>
      rw [if_pos hp] at hs
      have hz : kidsE l l[i].Id = [] := List.length_eq_zero_iff.1 (hkn.2 hp)
      simp (config := {decide := true, implicitDefEqProofs := false}) [g1, g2, g5, g6, hlt, p_RKids, hlen, hz, hw, hne, hne0, Nat.add_assoc]
      exact ⟨fun _ _ => ⟨i + 1, by omega, rfl, by omega, _, ⟨rfl, by rw [hs]; simp⟩, fun h => absurd rfl h, by omega⟩, by omega, by omega⟩
    | true =>
      rw [if_neg (by simp [hp])] at hs
      have hz : ¬ (kidsE l l[i].Id).length = 0 := fun h => by rw [hkn.1 h] at hp; cases hp
      have hz2 : ¬ kidsE l l[i].Id = [] := fun h => hz (by rw [h]; rfl)
      simp (config := {decide := true, implicitDefEqProofs := false}) [g1, g2, g5, g6, hlt, p_RKids, hlen, hz, hz2, hw, hne, hne0, Nat.add_assoc]
      exact ⟨i + 1, by omega, rfl, by omega, t, ⟨rfl, by rw [hs]⟩, g6, by omega⟩
  · obtain rfl : i = l.length := by omega
    have hk : (idsAt l (presTo l l.length)).length < 1000000 := by omega
    have hE : sortS (idsAt l (presTo l l.length)) = presentE l := rfl
    simp (config := {decide := true, implicitDefEqProofs := false}) [g1, g2, g5, g6, p_Sorted, hk, hE]
noncomputable def p_SameNames : List D → Option D := p2 fun (a b : List Str) => open Classical in if a.length < 1000000 then some (.bool (decide (a = b))) else none
theorem does_SameNames : Does Tryz.prog (C44 gl) 20 p_SameNames := con2 (fun _ _ => 1000001) fun a b hlen ic => by
  refine W_body (c := _) Tryz.func20 rfl (by simp [Tryz.f20]) ?_
  by_cases hl : a.length = b.length
  · simp (config := {decide := true, implicitDefEqProofs := false}) [Tryz.f20, hl]
    refine W_loop rfl (fun (i : Nat) e h => e 5 = .d (I i) ∧ e 0 = .d (.list (a.map row)) ∧ e 1 = .d (.list (b.map row)) ∧ i ≤ a.length ∧ a.take i = b.take i) (fun i => a.length - i) 0 (by omega) (by simp (config := {decide := true, implicitDefEqProofs := false}) []) ?_
    rintro i e h ⟨g1, g2, g3, g4, g5⟩
    by_cases hlt : i < a.length
    · have hltb : i < b.length := by omega
      have hw : IntKind.i64.wrap ((i : Int) + 1) = ((i + 1 : Nat) : Int) := by rw [wrap_i64] <;> omega
      by_cases hx : a[i] = b[i]
      · simp (config := {decide := true, implicitDefEqProofs := false}) [g1, g2, g3, hlt, hltb, hx, hw]
        exact ⟨i + 1, by omega, rfl, by omega, by rw [List.take_add_one, List.take_add_one, g5, List.getElem?_eq_getElem hlt, List.getElem?_eq_getElem hltb, hx]⟩
      · have hab : ¬ a = b := fun e => hx (by subst e; rfl)
        simp (config := {decide := true, implicitDefEqProofs := false}) [g1, g2, g3, hlt, hltb, hx, hab]
    · obtain rfl : i = a.length := by omega
      rw [List.take_length, hl, List.take_length] at g5
      subst g5
      simp (config := {decide := true, implicitDefEqProofs := false}) [g1, g2]
  · have hab : ¬ a = b := fun e => hl (by rw [e])
    have hl' : ¬ (a.length : Int) = b.length := by omega
    simp (config := {decide := true, implicitDefEqProofs := false}) [Tryz.f20, hl, hl', hab]
noncomputable def prims_C45 (gl : Gb) (f : FuncId) : Option (List D → Option D) := match f with
  | 21 => some p_RPresent
  | 20 => some p_SameNames
  | _ => none
noncomputable def C45 (gl : Gb) : Cfg := (C44 gl).more (prims_C45 gl)
@[simp] theorem mutS_C45 (gl : Gb) (f s) : (C45 gl).mutS f s = mutTab f s := rfl
@[simp] theorem pureF_C45 (gl : Gb) (f) : (C45 gl).pureF f = true := rfl
@[simp] theorem glob_C45 (gl : Gb) : (C45 gl).glob = gl := rfl
@[simp] theorem C45_p145 (gl : Gb) : (C45 gl).primF 145 = some p_lengths := rfl
@[simp] theorem C45_p19 (gl : Gb) : (C45 gl).primF 19 = some p_Check := rfl
@[simp] theorem C45_p16 (gl : Gb) : (C45 gl).primF 16 = some p_awake := rfl
@[simp] theorem C45_p15 (gl : Gb) : (C45 gl).primF 15 = some p_Few := rfl
@[simp] theorem C45_p26 (gl : Gb) : (C45 gl).primF 26 = some p_FindR := rfl
@[simp] theorem C45_p17 (gl : Gb) : (C45 gl).primF 17 = some p_Check := rfl
@[simp] theorem C45_p18 (gl : Gb) : (C45 gl).primF 18 = some p_Present := rfl
@[simp] theorem C45_p21 (gl : Gb) : (C45 gl).primF 21 = some p_RPresent := rfl
@[simp] theorem C45_p20 (gl : Gb) : (C45 gl).primF 20 = some p_SameNames := rfl
theorem C45_ok {gl : Gb} (h : (C44 gl).Ok Tryz.prog) : (C45 gl).Ok Tryz.prog := h.more (by
  intro f gf hf
  unfold prims_C45 at hf
  split at hf
  · simp only [Option.some.injEq] at hf; subst hf; exact does_RPresent
  · simp only [Option.some.injEq] at hf; subst hf; exact does_SameNames
  · cases hf)
theorem does_Checks : Does Tryz.prog (C45 gl) 3 (p_law1 (List Piece)) := tot1 (fun _ => 1000) fun l ic => by
  refine W_body (c := _) Tryz.func3 rfl (by simp [Tryz.f3]) ?_
  by_cases hf : fewB l = true
  · have hl := (few_short hf).1
    have hlen := hl.1
    have hpl := presentE_len l
    have hpm : (presentE l).length < 1000000 := by omega
    by_cases hc : checkE l = 0
    · simp (config := {decide := true, implicitDefEqProofs := false}) [Tryz.f3, p_Few, p_awake, p_Check, p_Present, p_RPresent, p_SameNames, hf, hl, hlen, hc, hpm]
    · simp (config := {decide := true, implicitDefEqProofs := false}) [Tryz.f3, p_Few, p_awake, p_Check, p_Present, hf, hl, hlen, hc]
  · simp (config := {decide := true, implicitDefEqProofs := false}) [Tryz.f3, p_Few, p_awake, hf]
end Go.Proofs.YtmfgnajlkoafkaaGreatDoor
