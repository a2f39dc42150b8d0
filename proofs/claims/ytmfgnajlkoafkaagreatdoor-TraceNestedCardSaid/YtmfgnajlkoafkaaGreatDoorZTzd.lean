/- trace: the small functions, and the loop over the present pieces. -/
import Derived.Test.YtmfgnajlkoafkaaGreatDoorZTzc
set_option linter.all false
set_option maxHeartbeats 2000000
namespace Go.Proofs.YtmfgnajlkoafkaaGreatDoor
open Go Go.AM Go.AM.Orient Go.AM.Lineage
open Go.AM.Enc (enc dec)
open Go.AM.Row (row ofRow)
set_option maxRecDepth 100000
set_option linter.unusedVariables false
set_option linter.unusedSimpArgs false
variable {gl : Gb}
theorem does_toverlap : Does Tryz.prog (C48 gl) 108 p_overlap := tot2 (fun _ _ => 1) fun a b ic => by
  refine W_body (c := _) Tryz.func108 rfl (by simp [Tryz.f108]) ?_
  simp [Tryz.f108, overlap]
  grind
theorem does_tvolume : Does Tryz.prog (C48 gl) 103 p_volume := tot1 (fun _ => 1) fun b ic => by
  refine W_body (c := _) Tryz.func103 rfl (by simp [Tryz.f103]) ?_
  simp [Tryz.f103, buildV, volB, lengths]
theorem does_known : Does Tryz.prog (C48 gl) 101 p_Way := con2 (fun _ _ => 10) fun l id hl ic => by
  refine W_body (c := _) Tryz.func101 rfl (by simp [Tryz.f101]) ?_
  by_cases hc : checkE l = 0
  · simp (config := {decide := true, implicitDefEqProofs := false}) [Tryz.f101, p_Check, p_Way, hl, hc]
  · have hf : firstE l id = checkE l := by simp [firstE, hc]
    simp (config := {decide := true, implicitDefEqProofs := false}) [Tryz.f101, p_Check, hl, hc, hf]
/-- the loop over the present pieces -/
def presF (l : List Piece) : D := .fn 151 [] [.ptr [.list (l.map row)] 0]
def p_presF : List D → Option D := p1 fun (l : List Piece) => some (presF l)
theorem does_presF : Does Tryz.prog (C48 gl) 102 p_presF := tot1 (fun _ => 10) fun l ic => by
  refine W_body (c := _) Tryz.func102 rfl (by simp [Tryz.f102]) ?_
  simp (config := {decide := true, implicitDefEqProofs := false}) [Tryz.f102, presF]
def backF (l : List Str) : D := .fn 152 [] [.ptr [.list (l.map row)] 0]
def p_backF : List D → Option D := p1 fun (l : List Str) => some (backF l)
theorem does_backF : Does Tryz.prog (C48 gl) 104 p_backF := tot1 (fun _ => 10) fun l ic => by
  refine W_body (c := _) Tryz.func104 rfl (by simp [Tryz.f104]) ?_
  simp (config := {decide := true, implicitDefEqProofs := false}) [Tryz.f104, backF]
noncomputable def prims_C49 (gl : Gb) (f : FuncId) : Option (List D → Option D) := match f with
  | 108 => some p_overlap
  | 103 => some p_volume
  | 101 => some p_Way
  | 102 => some p_presF
  | 104 => some p_backF
  | _ => none
noncomputable def C49 (gl : Gb) : Cfg := (C48 gl).more (prims_C49 gl)
@[simp] theorem mutS_C49 (gl : Gb) (f s) : (C49 gl).mutS f s = mutTab f s := rfl
@[simp] theorem pureF_C49 (gl : Gb) (f) : (C49 gl).pureF f = true := rfl
@[simp] theorem glob_C49 (gl : Gb) : (C49 gl).glob = gl := rfl
@[simp] theorem C49_p22 (gl : Gb) : (C49 gl).primF 22 = some p_Find := rfl
@[simp] theorem C49_p24 (gl : Gb) : (C49 gl).primF 24 = some p_PlaceL := rfl
@[simp] theorem C49_p15 (gl : Gb) : (C49 gl).primF 15 = some p_Few := rfl
@[simp] theorem C49_p26 (gl : Gb) : (C49 gl).primF 26 = some p_FindR := rfl
@[simp] theorem C49_p17 (gl : Gb) : (C49 gl).primF 17 = some p_Check := rfl
@[simp] theorem C49_p18 (gl : Gb) : (C49 gl).primF 18 = some p_Present := rfl
@[simp] theorem C49_p34 (gl : Gb) : (C49 gl).primF 34 = some p_RWay := rfl
@[simp] theorem C49_p29 (gl : Gb) : (C49 gl).primF 29 = some p_Way := rfl
@[simp] theorem C49_p103 (gl : Gb) : (C49 gl).primF 103 = some p_volume := rfl
@[simp] theorem C49_p101 (gl : Gb) : (C49 gl).primF 101 = some p_Way := rfl
@[simp] theorem C49_p102 (gl : Gb) : (C49 gl).primF 102 = some p_presF := rfl
theorem C49_ok {gl : Gb} (h : (C48 gl).Ok Tryz.prog) : (C49 gl).Ok Tryz.prog := h.more (by
  intro f gf hf
  unfold prims_C49 at hf
  split at hf
  · simp only [Option.some.injEq] at hf; subst hf; exact does_toverlap
  · simp only [Option.some.injEq] at hf; subst hf; exact does_tvolume
  · simp only [Option.some.injEq] at hf; subst hf; exact does_known
  · simp only [Option.some.injEq] at hf; subst hf; exact does_presF
  · simp only [Option.some.injEq] at hf; subst hf; exact does_backF
  · cases hf)
theorem present_walk {l : List Piece} (hl : shortIds l) (hc : checkE l = 0) {ic : CallF} {k b : Nat} (hk : 1000001 ≤ k) (J : Nat → Heap → Prop) (Q : Heap → Prop)
    (hJ : ∀ i h h', J i h → (∀ x, x < h.next → h'.blk x = h.blk x) → h.next ≤ h'.next → J i h')
    (hr : ∀ i (hi : i < (presentE l).length) h1, J i h1 → W (ic (.yld b) [.d (.str (presentE l)[i]), .d (enc (placeE l (presentE l)[i]).1)] h1) (fun r => (r.1 = .d (.bool true) ∧ J (i + 1) r.2 ∧ h1.next ≤ r.2.next) ∨ (r.1 = .d (.bool false) ∧ Q r.2)))
    (hend : ∀ h1, J (presentE l).length h1 → Q h1) {h : Heap} (h0 : J 0 h) :
    W (bodyC Tryz.prog (C49 gl) (pickC (C49 gl) ic k) k 151 [.yld b, .d (.ptr [.list (l.map row)] 0)] h) (fun r => Q r.2) := by
  have hlen := hl.1
  have hpl := presentE_len l
  refine W_body (c := _) Tryz.func151 rfl (by simp [Tryz.f151]) ?_
  simp (config := {decide := true, implicitDefEqProofs := false}) [Tryz.f151, p_Present, hl, hc]
  refine W_loop rfl (fun (i : Nat) e h' => e 16 = .d (I i) ∧ e 15 = .d (I (presentE l).length) ∧ e 14 = .d (.list ((presentE l).map row)) ∧ e 0 = .yld b ∧ e 1 = .d (.ptr [.list (l.map row)] 0) ∧ i ≤ (presentE l).length ∧ J i h') (fun i => (presentE l).length - i) 0 (by omega)
    (by simp (config := {decide := true, implicitDefEqProofs := false}) []; exact hJ 0 h _ h0 (fun _ _ => rfl) (by simp; omega)) ?_
  rintro i e h1 ⟨g1, g2, g3, g4, g5, g6, g7⟩
  by_cases hlt : i < (presentE l).length
  · have hw : IntKind.i64.wrap ((i : Int) + 1) = ((i + 1 : Nat) : Int) := by rw [wrap_i64] <;> omega
    have hr' := hr i hlt
    have hpz : placeE l (presentE l)[i] = ((placeE l (presentE l)[i]).1, 0) := by
      obtain ⟨k1, hm1, hx1⟩ := pres_at hc hlt
      simp [placeE, firstE, hc, hx1]
    generalize hp1 : (placeE l (presentE l)[i]).1 = B at *
    simp (config := {decide := true, implicitDefEqProofs := false}) [g1, g2, g3, g4, g5, hlt, p_PlaceL, hl, hpz, Nat.add_assoc]
    refine (hr' _ ?_).elim fun r hq => ⟨r, hq.1, ?_⟩
    · refine hJ _ _ _ g7 (fun x hx => ?_) ?_
      · have : ¬ x = h1.next + 10 := by omega
        show (if x = h1.next + 10 then _ else if x = h1.next + 10 then _ else h1.blk x) = h1.blk x
        rw [if_neg this, if_neg this]
      · show h1.next ≤ h1.next + 18; omega
    obtain ⟨q1, q2⟩ := hq
    obtain ⟨v, h2⟩ := r
    simp only at q2
    rcases q2 with ⟨rfl, q3, q4⟩ | ⟨rfl, q3⟩
    · simp (config := {decide := true, implicitDefEqProofs := false}) [g1, g2, g3, g4, g5, hw]
      exact ⟨i + 1, by omega, rfl, by omega, hJ _ _ _ q3 (fun _ _ => rfl) (by simp)⟩
    · simp (config := {decide := true, implicitDefEqProofs := false}) [g1, g2, g3, g4, g5, hw]
      exact q3
  · obtain rfl : i = (presentE l).length := by omega
    simp (config := {decide := true, implicitDefEqProofs := false}) [g1, g2]
    exact hend _ (hJ _ _ _ g7 (fun _ _ => rfl) (by simp))
theorem round_of {P : Program} {C : Cfg} {callF : CallF} {n b : Nat} {f : FuncId} {e : Env} {ps : List Nat} {a c : Code} {vs : List V} {h : Heap} {S : V × Heap → Prop} (hb : h.blk b = .loopb f e ps a c .ready) (hn : vs.length = ps.length)
    (ha : W (denC P C callF n f a false (putAll ps vs e) h) (fun r => r.1 = .normal ∧ r.2.2.blk b = .loopb f e ps a c .ready ∧
      W (denC P C callF n f c false r.2.1 (r.2.2.upd b (.loopb f e ps a c .busy))) (fun r' => r'.2.2.blk b = .loopb f e ps a c .busy ∧
        (r'.1 = .normal → S (.d (.bool true), r'.2.2.upd b (.loopb f e ps a c .ready))) ∧ (r'.1 ≠ .normal → S (.d (.bool false), r'.2.2.upd b (.loopb f e ps a c (.done r'.1))))))) :
    W (roundC P C callF n b vs h) S := by
  obtain ⟨⟨x, e2, h2⟩, q1, q2, q3, q4⟩ := ha
  simp only at q2 q3 q4
  subst q2
  obtain ⟨⟨y, e3, h3⟩, r1, r2, r3, r4⟩ := q4
  simp only at r1 r2 r3 r4
  unfold roundC
  rw [hb]
  simp only [hn, reduceIte]
  rw [q1]
  simp only
  rw [q3]
  simp only
  rw [r1]
  simp only
  rw [r2]
  cases y with
  | normal => exact ⟨_, rfl, r3 rfl⟩
  | exit i => exact ⟨_, rfl, r4 (by simp)⟩
  | ret => exact ⟨_, rfl, r4 (by simp)⟩
theorem range_present {l : List Piece} (hl : shortIds l) (hc : checkE l = 0) {K : Nat} (hk : 1000001 ≤ K) {f : FuncId} {e : Env} {p1 p2 : Nat} {a c : Code} {h : Heap} (J : Nat → Heap → Prop) (Z : Ex → Heap → Prop)
    (hJ : ∀ i h1 h2, J i h1 → (∀ x, x < h1.next → x ≠ h.next → h2.blk x = h1.blk x) → h1.next ≤ h2.next → J i h2)
    (hZ : ∀ x h1 v, Z x h1 → Z x (h1.upd h.next v))
    (hr : ∀ (Lr Lb : Block) i (hi : i < (presentE l).length) h1, J i h1 → h.next < h1.next → h1.blk h.next = Lr →
      W (denC Tryz.prog (C49 gl) (pickC (C49 gl) (icall Tryz.prog (C49 gl) K) K) K f a false (putAll [p1, p2] [.d (.str (presentE l)[i]), .d (enc (placeE l (presentE l)[i]).1)] e) h1) (fun r => r.1 = .normal ∧ r.2.2.blk h.next = Lr ∧
        W (denC Tryz.prog (C49 gl) (pickC (C49 gl) (icall Tryz.prog (C49 gl) K) K) K f c false r.2.1 (r.2.2.upd h.next Lb)) (fun r' => r'.2.2.blk h.next = Lb ∧ h1.next ≤ r'.2.2.next ∧
          (r'.1 = .normal → J (i + 1) r'.2.2) ∧ (r'.1 ≠ .normal → Z r'.1 r'.2.2))))
    (h0 : J 0 h) :
    W (rangeC (pickC (C49 gl) (icall Tryz.prog (C49 gl) (K + 2)) (K + 2)) f (.d (presF l)) [p1, p2] a c e h) (fun r => r.2.1 = e ∧ ((r.1 = .normal ∧ J (presentE l).length r.2.2) ∨ (r.1 ≠ .normal ∧ Z r.1 r.2.2))) := by
  have hw := present_walk (gl := gl) hl hc (ic := icall Tryz.prog (C49 gl) (K + 1)) (k := K + 1) (b := h.next) (by omega)
    (fun i h1 => J i h1 ∧ h.next < h1.next ∧ h1.blk h.next = .loopb f e [p1, p2] a c .ready)
    (fun h1 => (h1.blk h.next = .loopb f e [p1, p2] a c .ready ∧ J (presentE l).length h1) ∨ ∃ x, x ≠ .normal ∧ h1.blk h.next = .loopb f e [p1, p2] a c (.done x) ∧ Z x h1)
    (by
      rintro i h1 h2 ⟨j1, j2, j3⟩ hx hn
      exact ⟨hJ i h1 h2 j1 (fun x h _ => hx x h) hn, by omega, by rw [hx _ j2]; exact j3⟩)
    (by
      rintro i hi h1 ⟨j1, j2, j3⟩
      refine round_of j3 rfl ?_
      refine (hr _ (.loopb f e [p1, p2] a c .busy) i hi h1 j1 j2 j3).elim fun r hq => ⟨r, hq.1, hq.2.1, hq.2.2.1, ?_⟩
      refine hq.2.2.2.elim fun r' hq' => ⟨r', hq'.1, hq'.2.1, fun hx => .inl ⟨rfl, ⟨?_, ?_, ?_⟩, ?_⟩, fun hx => .inr ⟨rfl, .inr ⟨r'.1, hx, ?_, ?_⟩⟩⟩
      · exact hJ _ _ _ (hq'.2.2.2.1 hx) (fun x _ h => by simp [Heap.upd, h]) (Nat.le_refl _)
      · have := hq'.2.2.1
        show h.next < r'.2.2.next
        omega
      · simp [Heap.upd]
      · exact hq'.2.2.1
      · simp [Heap.upd]
      · exact hZ _ _ _ (hq'.2.2.2.2 hx))
    (by
      rintro h1 ⟨j1, j2, j3⟩
      exact .inl ⟨j3, j1⟩)
    (h := ⟨(h.upd h.next (.loopb f e [p1, p2] a c .ready)).blk, h.next + 1⟩)
    ⟨hJ _ _ _ h0 (fun x _ h => by simp [Heap.upd, h]) (by simp), by simp, by simp [Heap.upd]⟩
  obtain ⟨⟨v, h2⟩, q1, q2⟩ := hw
  simp only at q2
  have e1 : pickC (C49 gl) (icall Tryz.prog (C49 gl) (K + 2)) (K + 2) (.fn 151) [.yld h.next, .d (.ptr [.list (l.map row)] 0)] ⟨(h.upd h.next (.loopb f e [p1, p2] a c .ready)).blk, h.next + 1⟩ = some (v, h2) := q1
  unfold rangeC presF
  simp only [targetV]
  show W (match pickC (C49 gl) (icall Tryz.prog (C49 gl) (K + 2)) (K + 2) (.fn 151) [.yld h.next, .d (.ptr [.list (l.map row)] 0)] ⟨(h.upd h.next (.loopb f e [p1, p2] a c .ready)).blk, h.next + 1⟩ with
    | some (_, h2) => match h2.blk h.next with
      | .loopb f2 e2 ps2 a2 c2 .ready => some (.normal, e, h2.upd h.next (.loopb f2 e2 ps2 a2 c2 .over))
      | .loopb f2 e2 ps2 a2 c2 (.done x) => some (x, e, h2.upd h.next (.loopb f2 e2 ps2 a2 c2 .over))
      | _ => none
    | none => none) _
  rw [e1]
  simp only
  rcases q2 with ⟨q3, q4⟩ | ⟨x, q3, q4, q5⟩
  · rw [q3]
    exact ⟨_, rfl, rfl, .inl ⟨rfl, hJ _ _ _ q4 (fun x _ h => by simp [Heap.upd, h]) (Nat.le_refl _)⟩⟩
  · rw [q4]
    exact ⟨_, rfl, rfl, .inr ⟨q3, hZ _ _ _ q5⟩⟩
end Go.Proofs.YtmfgnajlkoafkaaGreatDoor
