/- slices.Backward's loop; trace.History. -/
import Derived.Test.YtmfgnajlkoafkaaGreatDoorZTzh
set_option linter.all false
set_option maxHeartbeats 2000000
namespace Go.Proofs.YtmfgnajlkoafkaaGreatDoor
open Go Go.AM Go.AM.Orient Go.AM.Lineage
open Go.AM.Enc (enc dec)
open Go.AM.Row (row ofRow)
set_option maxRecDepth 100000
set_option linter.unusedVariables false
set_option linter.unusedSimpArgs false
variable {gl : Gb}
@[simp] theorem tyT_75 : tyT Tryz.prog 75 = some (false, 1) := by kernel_rfl
@[simp] theorem sizeT_75 : sizeT Tryz.prog 75 = some 1 := by kernel_rfl
@[simp] theorem bytesT_75 : bytesT Tryz.prog 75 = some 24 := by kernel_rfl
@[simp] theorem zeroT_75 : zeroT Tryz.prog 75 = some (.nils) := by kernel_rfl
@[simp] theorem under_75 : Program.underlying Tryz.prog 75 = some (.slice 79) := by kernel_rfl
@[simp] theorem tyT_79 : tyT Tryz.prog 79 = some (true, 7) := by kernel_rfl
@[simp] theorem sizeT_79 : sizeT Tryz.prog 79 = some 7 := by kernel_rfl
@[simp] theorem bytesT_79 : bytesT Tryz.prog 79 = some 64 := by kernel_rfl
@[simp] theorem zeroT_79 : zeroT Tryz.prog 79 = some (.d (.agg [.str ByteArray.empty, .int .i64 0, .int .i64 0, .int .i64 0, .int .i64 0, .int .i64 0, .int .i64 0])) := by kernel_rfl
@[simp] theorem fieldOff_79_0 : fieldOff Tryz.prog 79 0 = some (0, 9) := by kernel_rfl
@[simp] theorem fieldOff_79_1 : fieldOff Tryz.prog 79 1 = some (1, 37) := by kernel_rfl
@[simp] theorem placesT_79 : placesT Tryz.prog 79 = some [(0, 1), (1, 6)] := by kernel_rfl
theorem eqV_79 (c : Bool) (d : Nat) (x0 y0 : ByteArray) (x1 y1 : Int) (x2 y2 : Int) (x3 y3 : Int) (x4 y4 : Int) (x5 y5 : Int) (x6 y6 : Int) : eqV Tryz.prog c (d + 4) 79 (.d (.agg [.str x0, .int .i64 x1, .int .i64 x2, .int .i64 x3, .int .i64 x4, .int .i64 x5, .int .i64 x6])) (.d (.agg [.str y0, .int .i64 y1, .int .i64 y2, .int .i64 y3, .int .i64 y4, .int .i64 y5, .int .i64 y6])) = some (decide (x0 = y0) && decide (x1 = y1) && decide (x2 = y2) && decide (x3 = y3) && decide (x4 = y4) && decide (x5 = y5) && decide (x6 = y6)) := by
  rw [eqV_struct Tryz.underlying79 (by kernel_rfl)]; simp [eqFieldsV_cons, eqFieldsV_nil, eqV_37, eqV_str under_9, Bool.and_assoc]
@[simp] theorem eql_79 (c : Bool) (x0 y0 : ByteArray) (x1 y1 : Int) (x2 y2 : Int) (x3 y3 : Int) (x4 y4 : Int) (x5 y5 : Int) (x6 y6 : Int) : eqOpV Tryz.prog c .eql 79 (.d (.agg [.str x0, .int .i64 x1, .int .i64 x2, .int .i64 x3, .int .i64 x4, .int .i64 x5, .int .i64 x6])) (.d (.agg [.str y0, .int .i64 y1, .int .i64 y2, .int .i64 y3, .int .i64 y4, .int .i64 y5, .int .i64 y6])) = some (.d (.bool (decide (x0 = y0) && decide (x1 = y1) && decide (x2 = y2) && decide (x3 = y3) && decide (x4 = y4) && decide (x5 = y5) && decide (x6 = y6)))) := eqOpV_eql (.inl (by kernel_rfl)) (eqV_79 ..)
@[simp] theorem neq_79 (c : Bool) (x0 y0 : ByteArray) (x1 y1 : Int) (x2 y2 : Int) (x3 y3 : Int) (x4 y4 : Int) (x5 y5 : Int) (x6 y6 : Int) : eqOpV Tryz.prog c .neq 79 (.d (.agg [.str x0, .int .i64 x1, .int .i64 x2, .int .i64 x3, .int .i64 x4, .int .i64 x5, .int .i64 x6])) (.d (.agg [.str y0, .int .i64 y1, .int .i64 y2, .int .i64 y3, .int .i64 y4, .int .i64 y5, .int .i64 y6])) = some (.d (.bool !(decide (x0 = y0) && decide (x1 = y1) && decide (x2 = y2) && decide (x3 = y3) && decide (x4 = y4) && decide (x5 = y5) && decide (x6 = y6)))) := eqOpV_neq (.inl (by kernel_rfl)) (eqV_79 ..)
theorem does_has : Does Tryz.prog (C52 gl) 52 p_Contains := con2 (fun _ _ => 1000001) fun a s hlen ic => by
  refine W_body (c := _) Tryz.func52 rfl (by simp [Tryz.f52]) ?_
  simp (config := {decide := true, implicitDefEqProofs := false}) [Tryz.f52]
  refine W_loop rfl (fun (i : Nat) e h => e 5 = .d (I i) ∧ e 0 = .d (.list (a.map row)) ∧ e 1 = .d (.str s) ∧ i ≤ a.length ∧ ∀ j (hj : j < a.length), j < i → a[j] ≠ s) (fun i => a.length - i) 0 (by omega) (by simp (config := {decide := true, implicitDefEqProofs := false}) []) ?_
  rintro i e h ⟨g1, g3, g4, g5, g6⟩
  by_cases hlt : i < a.length
  · have hw : IntKind.i64.wrap ((i : Int) + 1) = ((i + 1 : Nat) : Int) := by rw [wrap_i64] <;> omega
    by_cases hx : a[i] = s
    · have hm : s ∈ a := by rw [← hx]; exact List.getElem_mem hlt
      simp (config := {decide := true, implicitDefEqProofs := false}) [g1, g3, g4, hlt, hx, hm]
    · simp (config := {decide := true, implicitDefEqProofs := false}) [g1, g3, g4, hlt, hx, hw]
      refine ⟨i + 1, by omega, rfl, by omega, fun j hj hji => ?_⟩
      by_cases e : j = i
      · subst e; exact hx
      · exact g6 j hj (by omega)
  · obtain rfl : i = a.length := by omega
    have hm : s ∉ a := fun hm => by
      obtain ⟨j, hj, e⟩ := List.getElem_of_mem hm
      exact g6 j hj hj e
    simp (config := {decide := true, implicitDefEqProofs := false}) [g1, g3, hm]
noncomputable def prims_C53 (gl : Gb) (f : FuncId) : Option (List D → Option D) := match f with
  | 52 => some p_Contains
  | _ => none
noncomputable def C53 (gl : Gb) : Cfg := (C52 gl).more (prims_C53 gl)
@[simp] theorem mutS_C53 (gl : Gb) (f s) : (C53 gl).mutS f s = mutTab f s := rfl
@[simp] theorem pureF_C53 (gl : Gb) (f) : (C53 gl).pureF f = true := rfl
@[simp] theorem glob_C53 (gl : Gb) : (C53 gl).glob = gl := rfl
@[simp] theorem C53_p24 (gl : Gb) : (C53 gl).primF 24 = some p_PlaceL := rfl
@[simp] theorem C53_p101 (gl : Gb) : (C53 gl).primF 101 = some p_Way := rfl
@[simp] theorem C53_p104 (gl : Gb) : (C53 gl).primF 104 = some p_backF := rfl
theorem C53_ok {gl : Gb} (h : (C52 gl).Ok Tryz.prog) : (C53 gl).Ok Tryz.prog := h.more (by
  intro f gf hf
  unfold prims_C53 at hf
  split at hf
  · simp only [Option.some.injEq] at hf; subst hf; exact does_has
  · cases hf)
theorem back_walk {xs : List Str} (hlen : xs.length < 1000000) {ic : CallF} {k b : Nat} (hk : 1000001 ≤ k) (J : Nat → Heap → Prop) (Q : Heap → Prop)
    (hJ : ∀ i h h', J i h → (∀ x, x < h.next → h'.blk x = h.blk x) → h.next ≤ h'.next → J i h')
    (hr : ∀ i (hi : i < xs.length) h1, J (i + 1) h1 → W (ic (.yld b) [.d (I i), .d (.str xs[i])] h1) (fun r => (r.1 = .d (.bool true) ∧ J i r.2 ∧ h1.next ≤ r.2.next) ∨ (r.1 = .d (.bool false) ∧ Q r.2)))
    (hend : ∀ h1, J 0 h1 → Q h1) {h : Heap} (h0 : J xs.length h) :
    W (bodyC Tryz.prog (C53 gl) (pickC (C53 gl) ic k) k 152 [.yld b, .d (.ptr [.list (xs.map row)] 0)] h) (fun r => Q r.2) := by
  have hw0 : IntKind.i64.wrap ((xs.length : Int) - 1) = (xs.length : Int) - 1 := by rw [wrap_i64] <;> omega
  refine W_body (c := _) Tryz.func152 rfl (by simp [Tryz.f152]) ?_
  simp (config := {decide := true, implicitDefEqProofs := false}) [Tryz.f152, hw0]
  refine W_loop rfl (fun (i : Nat) e h' => e 3 = .d (I ((i : Int) - 1)) ∧ e 0 = .yld b ∧ e 1 = .d (.ptr [.list (xs.map row)] 0) ∧ i ≤ xs.length ∧ J i h') (fun i => i) xs.length (by omega)
    (by simp (config := {decide := true, implicitDefEqProofs := false}) [hw0]; exact hJ _ h _ h0 (fun _ _ => rfl) (by simp)) ?_
  rintro i e h1 ⟨g1, g2, g3, g4, g5⟩
  cases i with
  | zero =>
    simp (config := {decide := true, implicitDefEqProofs := false}) [g1, g2, g3]
    exact hend _ (hJ _ _ _ g5 (fun _ _ => rfl) (by simp))
  | succ i =>
    have hlt : i < xs.length := by omega
    have e1 : (((i + 1 : Nat) : Int) - 1) = (i : Int) := by omega
    rw [e1] at g1
    have hw : IntKind.i64.wrap ((i : Int) - 1) = (i : Int) - 1 := by rw [wrap_i64] <;> omega
    have hr' := hr i hlt
    have h0i : (0 : Int) ≤ (i : Int) := by omega
    simp (config := {decide := true, implicitDefEqProofs := false}) [g1, g2, g3, hlt, h0i, Nat.add_assoc]
    refine (hr' _ ?_).elim fun r hq => ⟨r, hq.1, ?_⟩
    · exact hJ _ _ _ g5 (fun x hx => rfl) (by simp)
    obtain ⟨q1, q2⟩ := hq
    obtain ⟨v, h2⟩ := r
    simp only at q2
    rcases q2 with ⟨rfl, q3, q4⟩ | ⟨rfl, q3⟩
    · simp (config := {decide := true, implicitDefEqProofs := false}) [g1, g2, g3, hw]
      exact ⟨i, by omega, rfl, by omega, hJ _ _ _ q3 (fun _ _ => rfl) (by simp)⟩
    · simp (config := {decide := true, implicitDefEqProofs := false}) [g1, g2, g3, hw]
      exact q3
theorem range_back {xs : List Str} (hlen : xs.length < 1000000) {K : Nat} (hk : 1000001 ≤ K) {f : FuncId} {e : Env} {p1 p2 : Nat} {a c : Code} {h : Heap} (J : Nat → Heap → Prop) (Z : Ex → Heap → Prop)
    (hJ : ∀ i h1 h2, J i h1 → (∀ x, x < h1.next → x ≠ h.next → h2.blk x = h1.blk x) → h1.next ≤ h2.next → J i h2)
    (hZ : ∀ x h1 v, Z x h1 → Z x (h1.upd h.next v))
    (hr : ∀ (Lr Lb : Block) i (hi : i < xs.length) h1, J (i + 1) h1 → h.next < h1.next → h1.blk h.next = Lr →
      W (denC Tryz.prog (C53 gl) (pickC (C53 gl) (icall Tryz.prog (C53 gl) K) K) K f a false (putAll [p1, p2] [.d (I i), .d (.str xs[i])] e) h1) (fun r => r.1 = .normal ∧ r.2.2.blk h.next = Lr ∧
        W (denC Tryz.prog (C53 gl) (pickC (C53 gl) (icall Tryz.prog (C53 gl) K) K) K f c false r.2.1 (r.2.2.upd h.next Lb)) (fun r' => r'.2.2.blk h.next = Lb ∧ h1.next ≤ r'.2.2.next ∧
          (r'.1 = .normal → J i r'.2.2) ∧ (r'.1 ≠ .normal → Z r'.1 r'.2.2))))
    (h0 : J xs.length h) :
    W (rangeC (pickC (C53 gl) (icall Tryz.prog (C53 gl) (K + 2)) (K + 2)) f (.d (backF xs)) [p1, p2] a c e h) (fun r => r.2.1 = e ∧ ((r.1 = .normal ∧ J 0 r.2.2) ∨ (r.1 ≠ .normal ∧ Z r.1 r.2.2))) := by
  have hw := back_walk (gl := gl) hlen (ic := icall Tryz.prog (C53 gl) (K + 1)) (k := K + 1) (b := h.next) (by omega)
    (fun i h1 => J i h1 ∧ h.next < h1.next ∧ h1.blk h.next = .loopb f e [p1, p2] a c .ready)
    (fun h1 => (h1.blk h.next = .loopb f e [p1, p2] a c .ready ∧ J 0 h1) ∨ ∃ x, x ≠ .normal ∧ h1.blk h.next = .loopb f e [p1, p2] a c (.done x) ∧ Z x h1)
    (by
      rintro i h1 h2 ⟨j1, j2, j3⟩ hx hn
      exact ⟨hJ i h1 h2 j1 (fun x h _ => hx x h) hn, by omega, by rw [hx _ j2]; exact j3⟩)
    (by
      rintro i hi h1 ⟨j1, j2, j3⟩
      refine round_of j3 rfl ?_
      refine (hr _ (.loopb f e [p1, p2] a c .busy) i hi h1 j1 j2 j3).elim fun r hq => ⟨r, hq.1, hq.2.1, hq.2.2.1, ?_⟩
      refine hq.2.2.2.elim fun r' hq' => ⟨r', hq'.1, hq'.2.1, fun hx => .inl ⟨rfl, ⟨?_, ?_, ?_⟩, ?_⟩, fun hx => .inr ⟨rfl, .inr ⟨r'.1, hx, ?_, ?_⟩⟩⟩
      · exact hJ _ _ _ (hq'.2.2.2.1 hx) (fun x _ h => by simp [Heap.upd, h]) (Nat.le_refl _)
      · have := hq'.2.2.1
        show h.next < r'.2.2.next
        omega
      · simp [Heap.upd]
      · exact hq'.2.2.1
      · simp [Heap.upd]
      · exact hZ _ _ _ (hq'.2.2.2.2 hx))
    (by
      rintro h1 ⟨j1, j2, j3⟩
      exact .inl ⟨j3, j1⟩)
    (h := ⟨(h.upd h.next (.loopb f e [p1, p2] a c .ready)).blk, h.next + 1⟩)
    ⟨hJ _ _ _ h0 (fun x _ h => by simp [Heap.upd, h]) (by simp), by simp, by simp [Heap.upd]⟩
  obtain ⟨⟨v, h2⟩, q1, q2⟩ := hw
  simp only at q2
  have e1 : pickC (C53 gl) (icall Tryz.prog (C53 gl) (K + 2)) (K + 2) (.fn 152) [.yld h.next, .d (.ptr [.list (xs.map row)] 0)] ⟨(h.upd h.next (.loopb f e [p1, p2] a c .ready)).blk, h.next + 1⟩ = some (v, h2) := q1
  unfold rangeC backF
  simp only [targetV]
  show W (match pickC (C53 gl) (icall Tryz.prog (C53 gl) (K + 2)) (K + 2) (.fn 152) [.yld h.next, .d (.ptr [.list (xs.map row)] 0)] ⟨(h.upd h.next (.loopb f e [p1, p2] a c .ready)).blk, h.next + 1⟩ with
    | some (_, h2) => match h2.blk h.next with
      | .loopb f2 e2 ps2 a2 c2 .ready => some (.normal, e, h2.upd h.next (.loopb f2 e2 ps2 a2 c2 .over))
      | .loopb f2 e2 ps2 a2 c2 (.done x) => some (x, e, h2.upd h.next (.loopb f2 e2 ps2 a2 c2 .over))
      | _ => none
    | none => none) _
  rw [e1]
  simp only
  rcases q2 with ⟨q3, q4⟩ | ⟨x, q3, q4, q5⟩
  · rw [q3]
    exact ⟨_, rfl, rfl, .inl ⟨rfl, hJ _ _ _ q4 (fun x _ h => by simp [Heap.upd, h]) (Nat.le_refl _)⟩⟩
  · rw [q4]
    exact ⟨_, rfl, rfl, .inr ⟨q3, hZ _ _ _ q5⟩⟩
noncomputable def stepRow (l : List Piece) (s : Str) : List D := .str s :: row (placeE l s).1
noncomputable def histE (l : List Piece) (id : Str) : List (List D) := open Classical in if firstE l id = 0 then (wayE l (idxN l id)).reverse.map (stepRow l) else []
noncomputable def p_History : List D → Option D := p2 fun (l : List Piece) (id : Str) => if shortIds l then some (.tuple [.list (histE l id), I (firstE l id)]) else none
theorem way_known {l : List Piece} (hc : checkE l = 0) {k : Nat} (hk : k < l.length) {s : Str} (hs : s ∈ wayE l k) : ∃ j, ∃ hj : j < l.length, l[j].Id = s ∧ idxK s (idsTo l l.length) = some j ∧ placeE l s = (placeOf l j, 0) := by
  obtain ⟨_, _, hnd, _⟩ := valid_of hc
  unfold wayE idsAt at hs
  obtain ⟨j, hj, rfl⟩ := List.mem_map.1 hs
  have hjl : j < l.length := by have := wayI_lt hc k k (Nat.le_refl _) j hj; omega
  have hg : l.getD j zeroPiece = l[j] := by rw [List.getD_eq_getElem?_getD, List.getElem?_eq_getElem hjl]; rfl
  rw [hg]
  have hx := idx_get hnd hjl
  exact ⟨j, hjl, rfl, hx, by simp [placeE, firstE, hc, hx, idxN]⟩
/-- the steps so far -/
noncomputable def histRows (l : List Piece) (xs : List Str) (i : Nat) : List (List D) := ((xs.drop i).reverse).map (stepRow l)
theorem histRows_succ {l : List Piece} {xs : List Str} {i : Nat} (hi : i < xs.length) : histRows l xs i = histRows l xs (i + 1) ++ [stepRow l xs[i]] := by
  unfold histRows
  rw [List.drop_eq_getElem_cons hi, List.reverse_cons, List.map_append]; rfl
theorem histRows_end (l : List Piece) (xs : List Str) : histRows l xs xs.length = [] := by unfold histRows; simp
theorem histRows_len (l : List Piece) (xs : List Str) (i : Nat) : (histRows l xs i).length = xs.length - i := by unfold histRows; simp
theorem does_History : Does Tryz.prog (C53 gl) 49 p_History := Does.p2 fun l id d hd => by
  split at hd
  · rename_i hl
    cases hd
    refine ⟨_, pcall_of (k := 1000003) ?_⟩
    refine W_body (c := _) Tryz.func49 rfl (by simp [Tryz.f49]) ?_
    by_cases hf : firstE l id = 0
    · have hc : checkE l = 0 := by
        unfold firstE at hf
        split at hf
        · assumption
        · exact hf
      obtain ⟨_, _, hnd, _⟩ := valid_of hc
      cases hk : idxK id (idsTo l l.length) with
      | none => simp [firstE, hc, hk] at hf
      | some k =>
        obtain ⟨hkl, hid⟩ := idxK_id hnd hk
        have hx : idxN l id = k := by simp [idxN, hk]
        have hwl := wayE_len hc hkl
        have hlen : (wayE l k).length < 1000000 := by have := hl.1; omega
        have hkn := fun s (hs : s ∈ wayE l k) => way_known hc hkl hs
        have hH : histE l id = (wayE l k).reverse.map (stepRow l) := by unfold histE; rw [if_pos hf, hx]
        have hpos := wayE_pos hc hkl
        rw [hH]
        generalize hxs : wayE l k = xs at *
        simp (config := {decide := true, implicitDefEqProofs := false}) [Tryz.f49, p_Way, p_backF, hl, hf, hx, hxs]
        refine (range_back hlen (K := 1000001) (Nat.le_refl _) (fun i (h : Heap) => i ≤ xs.length ∧ 13 < h.next ∧ ((i = xs.length ∧ h.blk 13 = .cells [.nils]) ∨ (i < xs.length ∧ ∃ t, h.blk 13 = .cells [.own t (histRows l xs i)] ∧ h.blk t = .tok 79 7 ∧ t < h.next ∧ t ≠ 13 ∧ t ≠ 16)))
          (fun _ _ => False) ?_ ?_ ?_ ?_).elim fun r hr' => ⟨r, hr'.1, ?_⟩
        · rintro i h1 h2 ⟨j0, j3, j1⟩ hx hn
          have e13 := hx 13 j3 (by show 13 ≠ 16; decide)
          refine ⟨j0, by omega, ?_⟩
          rcases j1 with ⟨j1, j2⟩ | ⟨j1, t, j2, j4, j5, j6, j7⟩
          · exact .inl ⟨j1, by rw [e13]; exact j2⟩
          · exact .inr ⟨j1, t, by rw [e13]; exact j2, by rw [hx t j5 j7]; exact j4, by omega, j6, j7⟩
        · exact fun _ _ _ h => h
        · rintro Lr Lb i hi h1 ⟨j0, j3, j1⟩ hn hb
          obtain ⟨j, hj, _, hxj, hP⟩ := hkn _ (List.getElem_mem hi)
          have hd := histRows_succ (l := l) hi
          have hsr : stepRow l xs[i] = .str xs[i] :: row (placeOf l j) := by unfold stepRow; rw [hP]
          simp only at hn hb
          generalize xs[i] = s at *
          rw [hsr] at hd
          have hne' : ∀ j : Nat, ¬ 13 = h1.next + j := fun j => by omega
          have hne0' : ¬ 13 = h1.next := by omega
          have hnb : ∀ j : Nat, ¬ 16 = h1.next + j := fun j => by omega
          have hnb0 : ¬ 16 = h1.next := by omega
          rcases j1 with ⟨j1, j2⟩ | ⟨j1, t, j2, j4, j5, j6, j7⟩
          · simp (config := {decide := true, implicitDefEqProofs := false}) [putAll, p_PlaceL, hl, hP, hb, j2, hne', hne0', hnb, hnb0, Nat.add_assoc]
            refine ⟨by omega, by omega, _, ⟨rfl, by rw [hd, j1, histRows_end]; rfl⟩, ?_, by omega, by omega, by omega⟩
            rw [if_neg (by omega), if_pos rfl]
          · have hne : ∀ j : Nat, ¬ t = h1.next + j := fun j => by omega
            have hne0 : ¬ t = h1.next := by omega
            have hlen2 := histRows_len l xs (i + 1)
            have j6' : ¬ 13 = t := fun e => j6 e.symm
            have j7' : ¬ 16 = t := fun e => j7 e.symm
            simp (config := {decide := true, implicitDefEqProofs := false}) [putAll, p_PlaceL, hl, hP, hb, j2, j4, j6, j7, j6', j7', hlen2, hne, hne0, hne', hne0', hnb, hnb0, Nat.add_assoc]
            refine ⟨fun _ _ => ⟨by omega, by omega, _, ⟨rfl, by rw [hd]; rfl⟩, ?_, by omega, by omega, by omega⟩, by omega, by omega⟩
            rw [if_neg (by omega), if_pos rfl]
        · simp (config := {decide := true, implicitDefEqProofs := false}) []
        · obtain ⟨x, e2, h2⟩ := r
          obtain ⟨hq, rfl, ⟨rfl, j0, j3, j1⟩ | ⟨_, hF⟩⟩ := hr'
          · clear hq
            simp only at j1 j3
            rcases j1 with ⟨j1, _⟩ | ⟨_, t, j2, j4, j5, j6, j7⟩
            · omega
            · simp (config := {decide := true, implicitDefEqProofs := false}) [j2, j4, hf]
              unfold histRows
              rw [List.drop_zero, List.map_reverse]
          · exact hF.elim
    · have hH : histE l id = [] := by unfold histE; rw [if_neg hf]
      simp (config := {decide := true, implicitDefEqProofs := false}) [Tryz.f49, p_Way, hl, hf, hH]
  · cases hd
noncomputable def prims_C54 (gl : Gb) (f : FuncId) : Option (List D → Option D) := match f with
  | 49 => some p_History
  | _ => none
noncomputable def C54 (gl : Gb) : Cfg := (C53 gl).more (prims_C54 gl)
@[simp] theorem mutS_C54 (gl : Gb) (f s) : (C54 gl).mutS f s = mutTab f s := rfl
@[simp] theorem pureF_C54 (gl : Gb) (f) : (C54 gl).pureF f = true := rfl
@[simp] theorem glob_C54 (gl : Gb) : (C54 gl).glob = gl := rfl
@[simp] theorem C54_p24 (gl : Gb) : (C54 gl).primF 24 = some p_PlaceL := rfl
@[simp] theorem C54_p29 (gl : Gb) : (C54 gl).primF 29 = some p_Way := rfl
@[simp] theorem C54_p44 (gl : Gb) : (C54 gl).primF 44 = some p_few56 := rfl
@[simp] theorem C54_p45 (gl : Gb) : (C54 gl).primF 45 = some p_awake := rfl
@[simp] theorem C54_p49 (gl : Gb) : (C54 gl).primF 49 = some p_History := rfl
theorem C54_ok {gl : Gb} (h : (C53 gl).Ok Tryz.prog) : (C54 gl).Ok Tryz.prog := h.more (by
  intro f gf hf
  unfold prims_C54 at hf
  split at hf
  · simp only [Option.some.injEq] at hf; subst hf; exact does_History
  · cases hf)
theorem hist_some {l : List Piece} {id : Str} (hf : firstE l id = 0) : ∃ k, ∃ hk : k < l.length, checkE l = 0 ∧ l[k].Id = id ∧ idxK id (idsTo l l.length) = some k ∧ idxN l id = k ∧ placeE l id = (placeOf l k, 0) ∧ histE l id = (wayE l k).reverse.map (stepRow l) := by
  have hc : checkE l = 0 := by
    unfold firstE at hf
    split at hf
    · assumption
    · exact hf
  obtain ⟨_, _, hnd, _⟩ := valid_of hc
  cases hk : idxK id (idsTo l l.length) with
  | none => simp [firstE, hc, hk] at hf
  | some k =>
    obtain ⟨hkl, hid⟩ := idxK_id hnd hk
    have hx : idxN l id = k := by simp [idxN, hk]
    exact ⟨k, hkl, hc, hid, rfl, hx, by simp [placeE, hf, hx], by unfold histE; rw [if_pos hf, hx]⟩
/-- a step's place lies in that of the step before -/
theorem way_next {l : List Piece} (hc : checkE l = 0) : ∀ (n i : Nat), i ≤ n → i < l.length → ∀ a (ha : a + 1 < (wayI l i).length), ∃ p q, (wayI l i)[a]? = some p ∧ (wayI l i)[a + 1]? = some q ∧ parN l p = some q ∧ p < l.length ∧ q < l.length
  | n, i, hn, hi, a, ha => by
    rw [wayI_eq hc] at ha ⊢
    cases hp : parN l i with
    | none => rw [hp] at ha; simp at ha
    | some p =>
      rw [hp] at ha
      simp only at ha ⊢
      obtain ⟨_, _, _, hpi⟩ := parN_some hc hp
      cases a with
      | zero =>
        refine ⟨i, p, rfl, ?_, hp, hi, by omega⟩
        rw [List.getElem?_cons_succ, wayI_eq hc]; rfl
      | succ a =>
        cases n with
        | zero => omega
        | succ n =>
          have := way_next hc n p (by omega) (by omega) a (by simpa using ha)
          simpa using this
theorem step_rows {l : List Piece} (hc : checkE l = 0) {k : Nat} (hk : k < l.length) : ∃ (R : List (List D)) (st : Nat → Str) (pl : Nat → Box), (wayE l k).reverse.map (stepRow l) = R ∧ R.length = (wayE l k).length ∧
    (∀ a, a < R.length → R[a]? = some (.str (st a) :: row (pl a))) ∧ (∀ a, a + 1 < R.length → inside (pl (a + 1)) (pl a) = true) ∧ st (R.length - 1) = l[k].Id ∧ pl (R.length - 1) = placeOf l k := by
  have hpos := wayE_pos hc hk
  have hlen : (wayE l k).length = (wayI l k).length := by simp [wayE, idsAt]
  have hget : ∀ b (hb : b < (wayI l k).length), ∃ hj : (wayI l k)[b] < l.length, (wayE l k)[b]? = some l[(wayI l k)[b]].Id ∧ (placeE l l[(wayI l k)[b]].Id).1 = placeOf l (wayI l k)[b] := by
    intro b hb
    obtain ⟨_, _, hnd, _⟩ := valid_of hc
    have hj : (wayI l k)[b] < l.length := by have := wayI_lt hc k k (Nat.le_refl _) _ (List.getElem_mem hb); omega
    refine ⟨hj, ?_, ?_⟩
    · unfold wayE idsAt
      rw [List.getElem?_map, List.getElem?_eq_getElem hb, Option.map_some, List.getD_eq_getElem?_getD, List.getElem?_eq_getElem hj]; rfl
    · have hx := idx_get hnd hj
      simp [placeE, firstE, hc, hx, idxN]
  refine ⟨_, fun a => (l.getD ((wayI l k).getD ((wayI l k).length - 1 - a) 0) zeroPiece).Id, fun a => placeOf l ((wayI l k).getD ((wayI l k).length - 1 - a) 0), rfl, by simp, ?_, ?_, ?_, ?_⟩
  · intro a ha
    rw [List.length_map, List.length_reverse, hlen] at ha
    have hb : (wayI l k).length - 1 - a < (wayI l k).length := by omega
    obtain ⟨hj, g1, g2⟩ := hget _ hb
    rw [List.getElem?_map, List.getElem?_reverse (by rw [hlen]; exact ha), hlen, g1, Option.map_some]
    have e : (wayI l k).getD ((wayI l k).length - 1 - a) 0 = (wayI l k)[(wayI l k).length - 1 - a] := by rw [List.getD_eq_getElem?_getD, List.getElem?_eq_getElem hb]; rfl
    simp only [e]
    rw [List.getD_eq_getElem?_getD, List.getElem?_eq_getElem hj]
    unfold stepRow
    rw [g2]; rfl
  · intro a ha
    rw [List.length_map, List.length_reverse, hlen] at ha
    have hb : (wayI l k).length - 1 - (a + 1) + 1 < (wayI l k).length := by omega
    obtain ⟨p, q, h1, h2, h3, _, _⟩ := way_next hc k k (Nat.le_refl _) hk _ hb
    rw [show (wayI l k).length - 1 - (a + 1) + 1 = (wayI l k).length - 1 - a by omega] at h2
    simp only [List.getD_eq_getElem?_getD, h1, h2, Option.getD_some]
    exact place_par hc h3
  · have e : (wayI l k).getD ((wayI l k).length - 1 - ((wayI l k).length - 1)) 0 = k := by
      rw [Nat.sub_self, wayI_eq hc]; rfl
    simp only [List.length_map, List.length_reverse, hlen, e]
    rw [List.getD_eq_getElem?_getD, List.getElem?_eq_getElem hk]; rfl
  · have e : (wayI l k).getD ((wayI l k).length - 1 - ((wayI l k).length - 1)) 0 = k := by
      rw [Nat.sub_self, wayI_eq hc]; rfl
    simp only [List.length_map, List.length_reverse, hlen, e]
theorem does_Nested : Does Tryz.prog (C54 gl) 9 (p_law (List Piece) Str) := tot2 (fun _ _ => 1000001) fun l id ic => by
  refine W_body (c := _) Tryz.func9 rfl (by simp [Tryz.f9]) ?_
  by_cases hf : fewB l = true
  · have hl := (few_short hf).1
    have hlen := hl.1
    by_cases hn : id.size ≤ 100
    · by_cases hE : firstE l id = 0
      · obtain ⟨k, hkl, hc, hid, hk, hx, hP, hH⟩ := hist_some hE
        have hwl := wayE_len hc hkl
        have hpos := wayE_pos hc hkl
        obtain ⟨R, st, pl, hR, hRl, hRg, hRi, hRs, hRp⟩ := step_rows hc hkl
        rw [hR] at hH
        rw [hid] at hRs
        have hwne : ¬ wayE l k = [] := fun e => by rw [e] at hpos; simp at hpos
        have hRne : ¬ R = [] := fun e => by rw [e] at hRl; simp at hRl; omega
        have hAw : IntKind.i64.wrap ((R.length : Int) - 1) = ((R.length - 1 : Nat) : Int) := by rw [wrap_i64] <;> omega
        have hlast := hRg (R.length - 1) (by omega)
        rw [hRs, hRp] at hlast
        have hAl : R.length - 1 < R.length := by omega
        have hRl' : (wayE l k).length = R.length := hRl.symm
        have hlastE : R[R.length - 1] = .str id :: row (placeOf l k) := by rw [List.getElem?_eq_getElem hAl] at hlast; exact Option.some.inj hlast
        simp (config := {decide := true, implicitDefEqProofs := false}) [hwne, hRne, hAw, hlastE, hAl, hRl', Tryz.f9, p_few56, p_awake, p_History, p_PlaceL, p_Way, hf, hl, hlen, hn, hE, hx, hP, hH]
        refine W_loop rfl (fun (i : Nat) e h => e 11 = .d (I i) ∧ e 5 = .d (.list R) ∧ 1 ≤ i ∧ i ≤ R.length) (fun i => R.length - i) 1 (by omega) (by simp (config := {decide := true, implicitDefEqProofs := false}) []; omega) ?_
        rintro i e h ⟨g1, g2, g3, g4⟩
        by_cases hlt : i < R.length
        · have hw : IntKind.i64.wrap ((i : Int) + 1) = ((i + 1 : Nat) : Int) := by rw [wrap_i64] <;> omega
          obtain ⟨a, hai⟩ : ∃ a, i = a + 1 := ⟨i - 1, by omega⟩
          have hw1 : IntKind.i64.wrap ((i : Int) - 1) = (a : Int) := by rw [wrap_i64] <;> omega
          have hin := hRi a (by omega)
          rw [← hai] at hin
          have hA := hRg a (by omega)
          have hB := hRg i hlt
          have ha : a < R.length := by omega
          rw [List.getElem?_eq_getElem ha] at hA
          rw [List.getElem?_eq_getElem hlt] at hB
          replace hA := Option.some.inj hA
          replace hB := Option.some.inj hB
          simp [inside] at hin
          obtain ⟨i1, i2, i3, i4, i5, i6⟩ := hin
          generalize pl a = A at *
          generalize pl i = B at *
          simp (config := {decide := true, implicitDefEqProofs := false}) [g1, g2, hlt, ha, hw1, hA, hB, i1, i2, i3, i4, i5, i6, hw, Nat.add_assoc]
          exact ⟨i + 1, by omega, rfl, by omega, by omega⟩
        · obtain rfl : i = R.length := by omega
          simp (config := {decide := true, implicitDefEqProofs := false}) [g1, g2, p_awake]
      · simp (config := {decide := true, implicitDefEqProofs := false}) [Tryz.f9, p_few56, p_awake, p_History, p_PlaceL, p_Way, hf, hl, hlen, hn, hE]
    · simp (config := {decide := true, implicitDefEqProofs := false}) [Tryz.f9, p_few56, p_awake, hf, hn]
  · simp (config := {decide := true, implicitDefEqProofs := false}) [Tryz.f9, p_few56, p_awake, hf]
end Go.Proofs.YtmfgnajlkoafkaaGreatDoor
