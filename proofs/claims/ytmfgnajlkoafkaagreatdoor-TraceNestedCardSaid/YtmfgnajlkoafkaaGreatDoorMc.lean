/- Regions whose order is open, whole. A loop over a function: the machine's and the model's. What code leaves alone; a state that is taken back. A state that is taken back: what is known of the elder names, in the newer world. Small facts for loops over maps. A loop over a map whose rounds leave what there is alone: the machine's and the model's. A loop over a map, whole. -/
import Derived.Test.YtmfgnajlkoafkaaGreatDoorMb
import Derived.Orders
set_option linter.all false
set_option maxHeartbeats 2000000
section
namespace Go.AM
open Go Go.RowKit
section
variable {P : Program} {C : Cfg} {callF : CallF} {B : Base} {N : Nat} {ds : Fr}

theorem Inv.bump {h : Heap} {g : G} {w : World} (I : Inv B h g w) (k : Nat) : Inv B ⟨h.blk, h.next + k⟩ g w :=
  ⟨I.below, I.m0, I.blk, I.inj, I.lt, fun i hi => Nat.lt_of_lt_of_le (I.nxt i hi) (Nat.le_add_right _ _), I.dead, I.glob, I.dfr, I.lps⟩
theorem not_common {a b : List Nat} (h : noCommon a b = true) {x : Nat} (ha : x ∈ a) (hb : x ∈ b) : False := by
  have := List.all_eq_true.1 (List.all_eq_true.1 h x ha) x hb
  simp at this
theorem compat_apart {a b : Fp} (h : compat a b = true) {x : Nat} (ha : x ∈ a.writes) (hb : x ∈ b.all) : False := by
  cases a <;> simp only [Fp.writes, List.not_mem_nil] at ha
  cases b <;> simp only [Fp.all, List.not_mem_nil] at hb <;> exact not_common h ha hb
theorem compat_apart' {a b : Fp} (h : compat a b = true) {x : Nat} (ha : x ∈ a.all) (hb : x ∈ b.writes) : False := by
  cases b <;> simp only [Fp.writes, List.not_mem_nil] at hb
  cases a <;> simp only [Fp.all, List.not_mem_nil] at ha <;> exact not_common h ha hb
theorem writes_all {a : Fp} {x : Nat} (h : x ∈ a.writes) : x ∈ a.all := by
  cases a <;> simp only [Fp.writes, List.not_mem_nil] at h; exact h

section
variable {f : FuncId} {ops : Array Oper} {base : Nat} {E : Nat → Env} {H : Nat → Heap} {U : Nat → V} {F : Nat → Fp} {T : List (List Nat)}
/-- the operation that is ready sees what it saw in the text's order, and leads on alike -/
theorem ready_step (hR : Run P C callF f ops base 0 E H U F) (hA : CallApart C callF) (hbad : ∀ k, k < ops.size → notBad (F k) = true) (hO : Ordered ops T)
    (hT : ∀ i j, i < j → j < ops.size → i ∈ T.getD j [] ∨ compat (F i) (F j) = true) {L : Nat → Bool} (hL' : Closed ops L) {i : Nat} {o : Oper} (ho : ops[i]? = some o) (hLi : L i = false)
    (hpre : ∀ d, d ∈ o.after → Region.binds .any d = true → L d.on = true) {nx : Nat} :
    wantedV ops (eL ops E U L ops.size) o = wantedV ops (E i) o ∧
    (wantedV ops (E i) o = some true → stepC P C callF f o (eL ops E U L ops.size) (base + i) ⟨hL H F L ops.size, nx⟩ = some (U i, ⟨hL H F (fun k => if k = i then true else L k) ops.size, nx⟩)) ∧
    (eL ops E U L ops.size).put o.dst (U i) = eL ops E U (fun k => if k = i then true else L k) ops.size ∧
    (wantedV ops (E i) o = some false → hL H F (fun k => if k = i then true else L k) ops.size = hL H F L ops.size) := by
  have hi : i < ops.size := (Array.getElem?_eq_some_iff.1 ho).1
  have hpreds : ∀ k, k ∈ T.getD i [] → L k = true ∧ k < i := by
    intro k hk
    obtain ⟨d, h1, h2, h3⟩ := hO.cert i o k ho hk
    have hlt := hO.back i o d ho h1 h2
    have hd := hpre d h1 h2
    rcases h3 with rfl | h3
    · exact ⟨hd, hlt⟩
    · obtain ⟨h4, h5⟩ := closed_preds hO hL' d.on k _ (Array.getElem?_eq_getElem (by omega)) hd h3
      exact ⟨h4, by omega⟩
  have hord : ∀ k, k < ops.size → k ≠ i → (k ∈ T.getD i [] ∨ i ∈ T.getD k []) → (L k = true ↔ k < i) := by
    intro k hk hne h
    rcases h with h | h
    · have := hpreds k h; simp [this.1, this.2]
    · have h1 : L k = false := by
        cases hLk : L k with
        | false => rfl
        | true =>
          have := (closed_preds hO hL' k i _ (Array.getElem?_eq_getElem hk) hLk h).1
          rw [hLi] at this; cases this
      have h2 : ¬ k < i := by
        obtain ⟨d, q1, q2, q3⟩ := hO.cert k _ i (Array.getElem?_eq_getElem hk) h
        have key : ∀ m j, j ≤ m → ∀ o', ops[j]? = some o' → ∀ x, x ∈ T.getD j [] → x < j := by
          intro m
          induction m with
          | zero =>
            intro j hj o' ho' x hx
            obtain ⟨d, q1, q2, q3⟩ := hO.cert j o' x ho' hx
            have := hO.back j o' d ho' q1 q2
            omega
          | succ m ih =>
            intro j hj o' ho' x hx
            obtain ⟨d, q1, q2, q3⟩ := hO.cert j o' x ho' hx
            have hb := hO.back j o' d ho' q1 q2
            rcases q3 with rfl | q3
            · exact hb
            · have := ih d.on (by omega) _ (Array.getElem?_eq_getElem (Nat.lt_trans hb (Array.getElem?_eq_some_iff.1 ho').1)) x q3
              omega
        have := key k k (Nat.le_refl _) _ (Array.getElem?_eq_getElem hk) i h
        omega
      simp [h1, h2]
  have hslot : ∀ t, (t ∈ Oper.looksAt ops o ∨ o.dst = some t) → ∀ k, k < ops.size → k ≠ i → writesSlot ops k t → (L k = true ↔ k < i) := by
    rintro t ht k hk hne ⟨p, hp, hpd⟩
    rcases hO.slot k i p o t hp ho hne hpd with h | h | ⟨h1, h2⟩
    · exact hord k hk hne (.inl h)
    · exact hord k hk hne (.inr h)
    · rcases ht with h | h
      · exact absurd h h1
      · exact absurd h h2
  have hlook : ∀ t, t ∈ Oper.looksAt ops o → eL ops E U L ops.size t = E i t := by
    intro t ht
    have := eL_agree hR (L := L) (i := i) (t := t) ops.size (Nat.le_refl _) (fun k hk hw => by
      by_cases hne : k = i
      · subst hne; simp [hLi]
      · exact hslot t (.inl ht) k hk hne hw)
    rw [this, Nat.min_eq_left (by omega)]
  have hheap : ∀ b, b ∈ (F i).all → ∀ k, k < ops.size → k ≠ i → b ∈ (F k).writes → (L k = true ↔ k < i) := by
    intro b hb k hk hne hw
    rcases Nat.lt_or_ge k i with h | h
    · rcases hT k i h hi with h1 | h1
      · exact hord k hk hne (.inl h1)
      · exact (compat_apart h1 hw hb).elim
    · rcases hT i k (by omega) hk with h1 | h1
      · exact hord k hk hne (.inr h1)
      · exact (compat_apart' h1 hb hw).elim
  have hblk : ∀ b, b ∈ (F i).all → hL H F L ops.size b = (H i).blk b := by
    intro b hb
    have := hL_agree hR hA hbad (L := L) (i := i) (b := b) ops.size (Nat.le_refl _) (fun k hk hw => by
      by_cases hne : k = i
      · subst hne; simp [hLi]
      · exact hheap b hb k hk hne hw)
    rw [this, Nat.min_eq_left (by omega)]
  have hop : ∀ t, Operand.tmp t ∈ o.op.operands → eL ops E U L ops.size t = E i t := fun t ht => hlook t (by
    simp only [Oper.looksAt, List.mem_append, List.mem_filterMap]
    exact .inl ⟨.tmp t, by simpa using ht, rfl⟩)
  have hwant : wantedV ops (eL ops E U L ops.size) o = wantedV ops (E i) o := wantedV_congr fun j x d hg hd => hlook d (by
    simp only [Oper.looksAt, List.mem_append, hg, hd]
    exact .inr (by simp))
  have hstep := hR.step i o (Nat.zero_le _) ho
  have hnew : ∀ b, b ∈ (F i).writes → hL H F (fun k => if k = i then true else L k) ops.size b = (H (i + 1)).blk b := by
    intro b hb
    have := hL_agree hR hA hbad (L := fun k => if k = i then true else L k) (i := i + 1) (b := b) ops.size (Nat.le_refl _) (fun k hk hw => by
      by_cases hne : k = i
      · subst hne; simp
      · have := hheap b (writes_all hb) k hk hne hw
        simp only [if_neg hne]
        rw [this]; omega)
    rw [this, Nat.min_eq_left (by omega)]
  refine ⟨hwant, fun hw => ?_, ?_, fun hw => ?_⟩
  · rcases hstep.2 with ⟨_, h1, h2⟩ | ⟨h1, _⟩
    · have hnb := hbad i hi
      rw [h2] at hnb
      obtain ⟨l1, l2⟩ := stepC_local (P := P) (f := f) (e2 := eL ops E U L ops.size) (h := H i) hA hop hnb
      obtain ⟨_, _, l3⟩ := l1 _ _ h1
      obtain ⟨h2', m1, m2, m3⟩ := l3 ⟨hL H F L ops.size, nx⟩ (fun b hb => hblk b (by rw [h2]; exact hb))
      rw [l2]
      refine Eq.trans m1 ?_
      congr 2
      obtain ⟨blk, nxt⟩ := h2'
      simp only at m2 m3
      subst m2
      congr 1
      funext b
      rw [m3 b]
      by_cases hb : b ∈ (footC C o (E i) (base + i)).writes
      · rw [if_pos hb]; exact (hnew b (by rw [h2]; exact hb)).symm
      · rw [if_neg hb]; exact (hL_other (by rw [h2]; exact hb) _).symm
    · rw [hw] at h1; cases h1
  · funext t
    by_cases ht : o.dst = some t
    · have h1 := eL_agree hR (L := fun k => if k = i then true else L k) (i := i + 1) (t := t) ops.size (Nat.le_refl _) (fun k hk hw => by
        by_cases hne : k = i
        · subst hne; simp
        · have := hslot t (.inr ht) k hk hne hw
          simp only [if_neg hne]
          rw [this]; omega)
      rw [h1, Nat.min_eq_left (by omega), hstep.1, ht]
      simp [Env.put]
    · have hnw : ¬ writesSlot ops i t := by
        rintro ⟨p, hp, hd⟩
        rw [ho] at hp
        obtain rfl := Option.some.inj hp
        exact ht hd
      rw [eL_other hnw]
      cases hd : o.dst with
      | none => rfl
      | some s =>
        simp only [Env.put]
        rw [if_neg]
        rintro rfl
        exact ht hd
  · rcases hstep.2 with ⟨h1, _⟩ | ⟨_, _, _, h2⟩
    · rw [hw] at h1; cases h1
    · funext b
      exact hL_other (by rw [h2]; simp [Fp.writes]) _

end
/-- a rule for regions whose order is open: what holds of the set that has run -/
theorem wpAny_inv {rd : Option Nat} {ops : Array Oper} {Q : Exit → Act → World → Prop} {T : List (List Nat)} (hO : Ordered ops T) (I : (Nat → Bool) → Act → World → Prop)
    (hstep : ∀ (L : Nat → Bool) i o a w, Closed ops L → I L a w → ops[i]? = some o → L i = false → (∀ d, d ∈ o.after → Region.binds .any d = true → L d.on = true) →
      wpOpIn (Fe rd) 0 P ops Q i (I fun k => if k = i then true else L k) a w)
    (hdone : ∀ (L : Nat → Bool) a w, I L a w → (∀ k, k < ops.size → L k = true) → Q .normal a w) :
    ∀ (fuel : Nat) (listed : Array Bool) (a : Act) (w : World), listed.size = ops.size → ((List.range ops.size).countP fun k => !listed.getD k false) ≤ fuel → Closed ops (fun k => listed.getD k false) →
      I (fun k => listed.getD k false) a w → wpAnyIn (Fe rd) 0 P .any ops Q fuel listed a w := by
  have alldone : ∀ (listed : Array Bool), listed.size = ops.size → Region.ready .any ops listed = [] → ∀ k, k < ops.size → listed.getD k false = true := by
    intro listed hs hr k
    induction k using Nat.strongRecOn with
    | _ k ih =>
      intro hk
      cases hl : listed.getD k false with
      | true => rfl
      | false =>
        exfalso
        have hm : k ∈ Region.ready .any ops listed := by
          rw [mem_ready]
          refine ⟨?_, ops[k], Array.getElem?_eq_getElem hk, fun d hd hb => ?_⟩
          · have : k < listed.size := by omega
            simp [this] at hl ⊢; exact hl
          · have hlt := hO.back k _ d (Array.getElem?_eq_getElem hk) hd hb
            exact ih d.on hlt (by omega)
        rw [hr] at hm; cases hm
  intro fuel
  induction fuel with
  | zero =>
    intro listed a w hs hc hcl hI
    have hall : ∀ k, k < ops.size → listed.getD k false = true := by
      intro k hk
      have h0 := List.countP_eq_zero.1 (Nat.le_zero.1 hc) k (List.mem_range.2 hk)
      simpa using h0
    refine ⟨?_, hdone _ a w hI hall⟩
    rw [List.eq_nil_iff_forall_not_mem]
    intro k hk
    obtain ⟨h1, o, ho, _⟩ := mem_ready.1 hk
    have hlt := (Array.getElem?_eq_some_iff.1 ho).1
    have := hall k hlt
    have hls : k < listed.size := by omega
    simp [hls] at h1 this
    rw [this] at h1; cases h1
  | succ fuel ih =>
    intro listed a w hs hc hcl hI
    refine ⟨fun hr => hdone _ a w hI (alldone listed hs hr), fun i hi => ?_⟩
    obtain ⟨h1, o, ho, hpre⟩ := mem_ready.1 hi
    have hlt := (Array.getElem?_eq_some_iff.1 ho).1
    have hls : i < listed.size := by omega
    have hLi : listed.getD i false = false := by simp [hls] at h1 ⊢; exact h1
    have hfun : (fun k => (listed.setIfInBounds i true).getD k false) = fun k => if k = i then true else listed.getD k false := by
      funext k
      by_cases hk : k = i
      · subst hk; simp [hls]
      · simp only [if_neg hk]
        rw [getD_set_ne false (Ne.symm hk)]
    refine wpOpIn_mono (fun a' w' hI' => ih (listed.setIfInBounds i true) a' w' (by simpa using hs) ?_ ?_ ?_) (hstep _ i o a w hcl hI ho hLi (fun d hd hb => hpre d hd hb))
    · have hcount : ((List.range ops.size).countP fun k => !(listed.setIfInBounds i true).getD k false) + 1 ≤ (List.range ops.size).countP fun k => !listed.getD k false := by
        have hfun' : ∀ k, (listed.setIfInBounds i true).getD k false = if k = i then true else listed.getD k false := fun k => congrFun hfun k
        have key : ∀ (l : List Nat), l.Nodup → i ∈ l → (l.countP fun k => !(listed.setIfInBounds i true).getD k false) + 1 = l.countP fun k => !listed.getD k false := by
          intro l
          induction l with
          | nil => intro _ h; cases h
          | cons x l ihl =>
            intro hnd hmem
            obtain ⟨hx, hnd'⟩ := List.nodup_cons.1 hnd
            simp only [List.countP_cons, hfun']
            by_cases hxi : x = i
            · subst hxi
              have : (l.countP fun k => !if k = x then true else listed.getD k false) = l.countP fun k => !listed.getD k false := by
                apply List.countP_congr
                intro y hy
                have : y ≠ x := fun e => hx (e ▸ hy)
                simp [this]
              rw [this, hLi]; simp
            · have hm : i ∈ l := by
                rcases List.mem_cons.1 hmem with h | h
                · exact absurd h.symm hxi
                · exact h
              have := ihl hnd' hm
              simp only [hfun'] at this
              rw [← this]
              simp only [if_neg hxi]
              omega
        exact Nat.le_of_eq (key _ List.nodup_range (List.mem_range.2 hlt))
      omega
    · rw [hfun]
      intro j o' d hj ho' hd hb
      by_cases hji : j = i
      · subst hji
        rw [ho] at ho'
        obtain rfl := Option.some.inj ho'
        have := hpre d hd hb
        by_cases hdi : d.on = j
        · simp [hdi]
        · simp only [if_neg hdi]; exact this
      · simp only [if_neg hji] at hj
        have := hcl j o' d hj ho' hd hb
        by_cases hdi : d.on = i
        · simp [hdi]
        · simp only [if_neg hdi]; exact this
    · rw [hfun]; exact hI'

theorem draw_sim (hmix : P.follows .mixedOrders = true) (hC : CallOk P C.glob callF) (hA : CallApart C callF) (hB : B.glob = C.glob) {f : FuncId} {ops : Array Oper} {rid : Nat} (hok : opsOk N ops = true) (hdo : drawOk ops = true)
    {e : Env} {h : Heap} {g : G} {w : World} {a : Act} {fps : List Fp} {e' : Env} {h' : Heap} (s : St B N ds e h g w a)
    (hr : runOpsF P C callF f ops h.next ops.toList 0 e ⟨h.blk, h.next + ops.size⟩ = some (fps, e', h')) (ht : touchOk (predsOf ops) fps = true) {Q : Exit → Act → World → Prop}
    (hQ : ∀ a' w' g', St B N ds e' h' g' w' a' → Ext w (Mut B.M0 h g) w' (Mut B.M0 h' g') → GLe g g' → (∀ b, g'.dom b → g.dom b ∨ h.next ≤ b) → h.next ≤ h'.next → Q .normal a' w') :
    (Code.region rid ops true).wpIn (Fe ds.rd) 0 P Q a w := by
  obtain ⟨E, H, U, F, hR, e1, e2, e3, e4, e5⟩ := run_of ops.toList 0 e _ fps e' h' rfl hr
  simp only [Nat.zero_add, Array.length_toList] at e3 e4 e5
  have hO := ordered_of hdo
  have hlen : fps.length = ops.size := by rw [e5]; simp
  have hget : ∀ k, k < ops.size → fps.getD k .bad = F k := by
    intro k hk
    rw [e5]
    simp [hk]
  simp only [touchOk, Bool.and_eq_true] at ht
  have hbad : ∀ k, k < ops.size → notBad (F k) = true := by
    intro k hk
    refine List.all_eq_true.1 ht.1 (F k) ?_
    rw [e5]
    exact List.mem_map.2 ⟨k, List.mem_range.2 hk, rfl⟩
  have hT : ∀ i j, i < j → j < ops.size → i ∈ (predsOf ops).getD j [] ∨ compat (F i) (F j) = true := by
    intro i j hij hj
    have := List.all_eq_true.1 (List.all_eq_true.1 ht.2 j (List.mem_range.2 (by rw [hlen]; exact hj))) i (List.mem_range.2 hij)
    simp only [Bool.or_eq_true, List.contains_iff_mem, hget i (by omega), hget j hj] at this
    exact this
  have hnx : ∀ k, k ≤ ops.size → (H k).next = h.next + ops.size := by
    intro k
    induction k with
    | zero => intro _; rw [e2]
    | succ k ih =>
      intro hk
      have ho : ops[k]? = some ops[k] := Array.getElem?_eq_getElem (by omega)
      rcases (hR.step k _ (Nat.zero_le _) ho).2 with ⟨_, h1, h2⟩ | ⟨_, _, h1, _⟩
      · have hb := hbad k (by omega)
        rw [h2] at hb
        rw [((stepC_local (P := P) (f := f) (e2 := E k) (h := H k) hA (fun _ _ => rfl) hb).1 _ _ h1).1]
        exact ih (by omega)
      · rw [h1]; exact ih (by omega)
  refine wpIn_region_any hmix ?_
  have hdraw : Below w.heap.size w { w with drawn := w.drawn + 1 } := ⟨rfl, rfl, rfl, Nat.le_refl _, fun _ _ => rfl⟩
  obtain ⟨I1, x1⟩ := (s.inv.bump ops.size).same hdraw
  let Ist : (Nat → Bool) → Act → World → Prop := fun L a' w' => ∃ g', St B N ds (eL ops E U L ops.size) ⟨hL H F L ops.size, h.next + ops.size⟩ g' w' a' ∧
    Ext w (Mut B.M0 h g) w' (Mut B.M0 ⟨hL H F L ops.size, h.next + ops.size⟩ g') ∧ GLe g g' ∧ (∀ b, g'.dom b → g.dom b ∨ h.next ≤ b) ∧ (∀ j, j < ops.size → L j = false → ¬ g'.dom (h.next + j))
  have nodom : ∀ j, ¬ g.dom (h.next + j) := fun j hj => by have := s.inv.nxt _ hj; omega
  have emp : ∀ n, eL ops E U (fun k => (Array.replicate ops.size false).getD k false) n = e ∧ hL H F (fun k => (Array.replicate ops.size false).getD k false) n = h.blk := by
    intro n
    have hf : ∀ k, (Array.replicate ops.size false).getD k false = false := by
      intro k
      by_cases hk : k < ops.size <;> simp [hk]
    induction n with
    | zero => exact ⟨e1, by rw [hL, e2]⟩
    | succ n ih =>
      simp only [eL, hL, hf, Bool.false_eq_true, if_false] at ih ⊢
      exact ih
  refine wpAny_inv hO Ist ?_ ?_ ops.size _ a _ (by simp) (by
    refine Nat.le_trans List.countP_le_length ?_
    simp) ?_ ?_
  · intro L i o a' w' hcl hI ho hLi hpre
    obtain ⟨g', s', x', y', hdm, hfr⟩ := hI
    have hi : i < ops.size := (Array.getElem?_eq_some_iff.1 ho).1
    obtain ⟨r1, r2, r3, r4⟩ := ready_step (base := h.next) (nx := h.next + ops.size) hR hA hbad hO hT hcl ho hLi hpre
    unfold wpOpIn
    simp only [ho]
    have hdst : ∀ t, o.dst = some t → t < N := fun t ht => opsOk_spec hok ho ht
    have hstep := hR.step i o (Nat.zero_le _) ho
    rcases hstep.2 with ⟨hw, h1, h2⟩ | ⟨hw, h1, h2, h3⟩
    · have hww := wanted_sim s' (b := true) (by rw [r1]; exact hw) (fun j x _ oj d q1 q2 => opsOk_spec hok q1 q2)
      rw [hww]
      simp only [if_true]
      refine op_sim hC hB s' (hfr i hi hLi) (by show h.next + i < h.next + ops.size; omega) hdst (r2 hw) ?_
      intro a2 w2 g2 s2 x2 y2 hd2 _
      rw [r3] at s2
      refine ⟨g2, s2, x'.trans x2, y'.trans y2, fun b hb => ?_, fun j hj hLj hdj => ?_⟩
      · rcases hd2 b hb with q | q | q
        · exact hdm b q
        · exact .inr (by omega)
        · exact .inr (by have : h.next + ops.size ≤ b := q; omega)
      · have hji : j ≠ i := by rintro rfl; simp at hLj
        simp only [if_neg hji] at hLj
        rcases hd2 _ hdj with q | q | q
        · exact hfr j hj hLj q
        · omega
        · have : h.next + ops.size ≤ h.next + j := q; omega
    · have hww := wanted_sim s' (b := false) (by rw [r1]; exact hw) (fun j x _ oj d q1 q2 => opsOk_spec hok q1 q2)
      rw [hww]
      simp only [Bool.false_eq_true, if_false]
      refine ⟨fun _ _ => trivial, ?_⟩
      rw [h1] at r3
      have hst : St B N ds ((eL ops E U L ops.size).put o.dst undefV) ⟨hL H F L ops.size, h.next + ops.size⟩ g' w' (a'.put o.dst undef) :=
        ⟨s'.inv, put_env s'.env (fun t ht => by rw [s'.size]; exact hdst t ht) undef_sim, by rw [(put_size _ _ _).1]; exact s'.size, s'.defers.mono (GLe.refl g') (put_size _ _ _).2⟩
      rw [r3, ← r4 hw] at hst
      rw [← r4 hw] at x'
      refine ⟨g', hst, x', y', hdm, fun j hj hLj => ?_⟩
      have hji : j ≠ i := by rintro rfl; simp at hLj
      simp only [if_neg hji] at hLj
      exact hfr j hj hLj
  · intro L a' w' hI hall
    obtain ⟨g', s', x', y', hdm, _⟩ := hI
    have he : eL ops E U L ops.size = e' := by
      funext t
      rw [eL_agree hR (L := L) (i := ops.size) ops.size (Nat.le_refl _) (fun k hk _ => by simp [hall k hk, hk]), Nat.min_self, e3]
    have hh : (⟨hL H F L ops.size, h.next + ops.size⟩ : Heap) = h' := by
      have hb : hL H F L ops.size = h'.blk := by
        funext b
        rw [hL_agree hR hA hbad (L := L) (i := ops.size) ops.size (Nat.le_refl _) (fun k hk _ => by simp [hall k hk, hk]), Nat.min_self, e4]
      have hn := hnx ops.size (Nat.le_refl _)
      rw [e4] at hn
      rw [hb, ← hn]
    rw [he, hh] at s'
    rw [hh] at x'
    have hn := hnx ops.size (Nat.le_refl _)
    rw [e4] at hn
    exact hQ a' w' g' s' x' y' hdm (by omega)
  · intro j o d hj ho
    by_cases hk : j < ops.size <;> simp [hk] at hj
  · refine ⟨g, ?_, ?_, GLe.refl g, fun b hb => .inl hb, fun j _ _ => nodom j⟩
    · rw [(emp ops.size).1, (emp ops.size).2]
      exact ⟨I1, fun t => VR.mono x1 (GLe.refl g) _ _ (s.env t), s.size, s.defers⟩
    · rw [(emp ops.size).2]
      exact x1
end
end Go.AM
end
section
namespace Go.AM
open Go Go.RowKit
section
variable {P : Program} {C : Cfg} {callF : CallF} {B : Base} {N : Nat} {ds : Fr}

def Ex.toExit : Ex → Exit
  | .normal => .normal
  | .exit id => .exit id
  | .ret => .ret
/-- what is known where the machine has come from one state to another -/
def Post (B : Base) (N : Nat) (ds : Fr) (h0 : Heap) (g0 : G) (w0 : World) (e : Env) (h : Heap) (K : Act → World → Prop) : Prop :=
  ∀ a' w' g', St B N ds e h g' w' a' → Ext w0 (Mut B.M0 h0 g0) w' (Mut B.M0 h g') → GLe g0 g' → (∀ b, g'.dom b → g0.dom b ∨ h0.next ≤ b) → h0.next ≤ h.next → K a' w'
theorem Post.of {h0 h1 : Heap} {g0 g1 : G} {w0 w1 : World} {e : Env} {h : Heap} {K : Act → World → Prop} (x : Ext w0 (Mut B.M0 h0 g0) w1 (Mut B.M0 h1 g1)) (y : GLe g0 g1) (hd : ∀ b, g1.dom b → g0.dom b ∨ h0.next ≤ b) (hn : h0.next ≤ h1.next)
    (hp : Post B N ds h0 g0 w0 e h K) : Post B N ds h1 g1 w1 e h K := by
  intro a' w' g' s x' y' hd' hn'
  refine hp a' w' g' s (x.trans x') (y.trans y') (fun b hb => ?_) (by omega)
  rcases hd' b hb with q | q
  · exact hd b q
  · exact .inr (by omega)

def G.addDfr (g : G) (d : Nat) : G := { g with dfr := fun x => g.dfr x ∨ x = d }
def G.addLps (g : G) (l : Nat) : G := { g with lps := fun x => g.lps x ∨ x = l }
theorem GLe.addDfr (g : G) (d : Nat) : GLe g (g.addDfr d) := ⟨fun _ h => h, fun _ _ => rfl, fun _ _ => rfl, fun _ _ => rfl, fun _ _ => rfl, fun _ _ => rfl, fun _ _ => rfl, fun _ h => .inl h, fun _ h => h⟩
theorem GLe.addLps (g : G) (d : Nat) : GLe g (g.addLps d) := ⟨fun _ h => h, fun _ _ => rfl, fun _ _ => rfl, fun _ _ => rfl, fun _ _ => rfl, fun _ _ => rfl, fun _ _ => rfl, fun _ h => h, fun _ h => .inl h⟩
theorem Inv.addDfr {h : Heap} {g : G} {w : World} (I : Inv B h g w) {d : Nat} (h1 : B.w0.heap.size ≤ d) (h2 : w.heap[d]? = some (.deferred (some []))) : Inv B h (g.addDfr d) w := by
  have y := GLe.addDfr g d
  refine ⟨I.below, I.m0, fun i => BlkOk.mono (Ext.refl _ _) y rfl (I.blk i), I.inj, I.lt, I.nxt, I.dead, fun n => VR.mono (Ext.refl _ _) y _ _ (I.glob n), fun x hx => ?_, I.lps⟩
  rcases hx with hx | rfl
  · exact I.dfr x hx
  · exact ⟨h1, h2⟩
theorem Inv.addLps {h : Heap} {g : G} {w : World} (I : Inv B h g w) {d : Nat} (h1 : B.w0.heap.size ≤ d) {r : Loop} (h2 : w.heap[d]? = some (.loop r)) : Inv B h (g.addLps d) w := by
  have y := GLe.addLps g d
  refine ⟨I.below, I.m0, fun i => BlkOk.mono (Ext.refl _ _) y rfl (I.blk i), I.inj, I.lt, I.nxt, I.dead, fun n => VR.mono (Ext.refl _ _) y _ _ (I.glob n), I.dfr, fun x hx => ?_⟩
  rcases hx with hx | rfl
  · exact I.lps x hx
  · exact ⟨h1, r, h2⟩
theorem heap_putObj_other {w : World} {r k : Nat} {o : Obj} (h : k ≠ r) : (w.putObj r o).heap[k]? = w.heap[k]? := World.putObj_heap_other h

variable {e : Env} {h : Heap} {g : G} {w : World} {a : Act}
/-- the loop's record is laid -/
theorem enter_sim (s : St B N ds e h g w a) (f : FuncId) {ps : Array Tmp} {x y : Code} (hps : ∀ p ∈ ps.toList, p < N) (hx : codeOk N x = true) (hy : codeOk N y = true) (fn : FuncId) :
    ∃ l mk W g1, (Instr.enterLoop fn a.tmps ps x y ds.rd).run P w = .ok (l, mk) W ∧ Inv B ⟨(h.upd h.next (.loopb f e ps.toList x y .ready)).blk, h.next + 1⟩ g1 W ∧
      Ext w (Mut B.M0 h g) W (Mut B.M0 ⟨(h.upd h.next (.loopb f e ps.toList x y .ready)).blk, h.next + 1⟩ g1) ∧ GLe g g1 ∧ (∀ b, g1.dom b → g.dom b ∨ h.next ≤ b) ∧
      g1.dom h.next ∧ g1.rho h.next = l ∧ DefOk ds g1 { a with defers := mk ++ a.defers } := by
  have nodom : ¬ g.dom h.next := fun hd => by have := s.inv.nxt _ hd; omega
  -- one block is laid in any case
  have lay : ∀ (W0 : World) (g0 : G) (D : Nat), Inv B h g0 W0 → Ext w (Mut B.M0 h g) W0 (Mut B.M0 h g0) → GLe g g0 → ¬ g0.dom h.next → (∀ b, g0.dom b → g.dom b) →
      ∃ g1, Inv B ⟨(h.upd h.next (.loopb f e ps.toList x y .ready)).blk, h.next + 1⟩ g1 (W0.alloc (.loop { state := .ready, pending := none, fn, tmps := a.tmps, params := ps, assign := x, body := y, defers := D })) ∧
      Ext w (Mut B.M0 h g) (W0.alloc (.loop { state := .ready, pending := none, fn, tmps := a.tmps, params := ps, assign := x, body := y, defers := D })) (Mut B.M0 ⟨(h.upd h.next (.loopb f e ps.toList x y .ready)).blk, h.next + 1⟩ g1) ∧ GLe g g1 ∧ GLe g0 g1 ∧ (∀ b, g1.dom b → g.dom b ∨ h.next ≤ b) ∧
      g1.dom h.next ∧ g1.rho h.next = W0.heap.size := by
    intro W0 g0 D I0 x0 y0 hn hd
    obtain ⟨h1, h2, h3⟩ := alloc_step (I0.bump 1) (id := h.next) hn (by show h.next < h.next + 1; omega) (.loopb f e ps.toList x y .ready)
      (.loop { state := .ready, pending := none, fn, tmps := a.tmps, params := ps, assign := x, body := y, defers := D }) 0 0 0 0 (w' := W0.alloc (.loop { state := .ready, pending := none, fn, tmps := a.tmps, params := ps, assign := x, body := y, defers := D })) (Below.of_alloc W0 _) (by simp) (heap_alloc_new W0 _)
      (fun ex yy => ⟨.inr rfl, by simp [G.add]; exact I0.below.size, _, by simp only [G.add, if_true]; exact heap_alloc_new W0 _, ⟨rfl, rfl, rfl, by simpa [s.size] using hx, by simpa [s.size] using hy, by simpa [s.size] using hps, rfl, rfl⟩,
        fun t => VR.mono (x0.trans ex) (y0.trans yy) _ _ (s.env t)⟩)
    refine ⟨_, h1.addLps (d := W0.heap.size) I0.below.size (heap_alloc_new W0 _), (x0.trans h2).trans (Ext.refl _ _), (y0.trans h3).trans (GLe.addLps _ _), h3.trans (GLe.addLps _ _), fun b hb => ?_, .inr rfl, by simp [G.add, G.addLps]⟩
    rcases hb with hb | rfl
    · exact .inl (hd b hb)
    · exact .inr (Nat.le_refl _)
  obtain ⟨⟨Ds, d1, d2, d3⟩, d4, d5⟩ := s.defers
  cases hrd : ds.rd with
  | none =>
    have hb := Below.of_alloc w (.deferred (some []))
    obtain ⟨I', x'⟩ := s.inv.same hb
    have I2 := I'.addDfr (d := w.heap.size) s.inv.below.size (heap_alloc_new w _)
    obtain ⟨g1, q1, q2, q3, q4, q5, q6, q7⟩ := lay _ _ w.heap.size I2 (x'.trans (Ext.refl _ _)) (GLe.addDfr _ _) nodom (fun b hb => hb)
    refine ⟨_, _, _, g1, run_enterLoop_outer fn a.tmps ps x y, q1, q2, q3, q5, q6, by rw [q7]; simp, ⟨w.heap.size :: Ds, by simp [d1, mark], List.nodup_cons.2 ⟨fun hm => ?_, d2⟩, fun d hd => ?_⟩, (fun l hl => by rw [hrd] at hl; cases hl), fun d hd => q3.dfr d (d5 d hd)⟩
    · have := (s.inv.dfr _ (d3 _ hm).1).2
      have := (Array.getElem?_eq_some_iff.1 this).1
      omega
    · rcases List.mem_cons.1 hd with rfl | hd
      · refine ⟨q4.dfr _ (.inr rfl), fun h0 => ?_⟩
        have := (s.inv.dfr _ (d5 _ h0)).2
        have := (Array.getElem?_eq_some_iff.1 this).1
        omega
      · exact ⟨q3.dfr d (d3 d hd).1, (d3 d hd).2⟩
  | some l0 =>
    obtain ⟨_, r0, hr0⟩ := s.inv.lps l0 (d4 l0 hrd)
    obtain ⟨g1, q1, q2, q3, q4, q5, q6, q7⟩ := lay w g r0.defers s.inv (Ext.refl _ _) (GLe.refl g) nodom (fun b hb => hb)
    refine ⟨w.heap.size, [], _, g1, ?_, q1, q2, q3, q5, q6, q7, ⟨Ds, by simp [d1], d2, fun d hd => ⟨q3.dfr d (d3 d hd).1, (d3 d hd).2⟩⟩, fun l hl => q3.lps l (d4 l (hrd ▸ hl)), fun d hd => q3.dfr d (d5 d hd)⟩
    simp only [Instr.enterLoop, Sem.run_bind, run_getLoop hr0, Result.andThen_ok, run_newObj_alloc, Sem.run_pure]
theorem target_sim {M : Muts} {v : V} {val : Value} (hv : VR w M g v val) {xs : List V} {vals : Array Value} (hxs : VRL w M g xs vals.toList) {f : FuncId} {us : List V} (ht : targetV v xs = some (.fn f, us)) :
    ∃ av bv, val = .func (.func f) av bv ∧ VRL w M g us (av ++ vals ++ bv).toList := by
  unfold targetV at ht
  split at ht
  · rename_i g1 a b
    obtain ⟨av, bv, e1, h1, h2⟩ := hv
    simp only [Option.some.injEq, Prod.mk.injEq, Tgt.fn.injEq] at ht
    obtain ⟨rfl, rfl⟩ := ht
    refine ⟨av, bv, e1, ?_⟩
    simp only [Array.toList_append]
    exact VRL.append (VRL.append (RDL.toVRL h1) hxs) (RDL.toVRL h2)
  · rename_i g1 a b
    obtain ⟨av, bv, e1, h1, h2⟩ := hv
    simp only [Option.some.injEq, Prod.mk.injEq, Tgt.fn.injEq] at ht
    obtain ⟨rfl, rfl⟩ := ht
    refine ⟨av, bv, e1, ?_⟩
    simp only [Array.toList_append]
    exact VRL.append (VRL.append h1 hxs) h2
  · simp at ht
  · cases ht
theorem wpIn_code {x : Ex} {rd : Option Nat} {Q : Exit → Act → World → Prop} (h : Q x.toExit a w) : x.code.wpIn (Fe rd) 0 P Q a w := by
  cases x with
  | normal => exact wpIn_skip h
  | exit id => exact wpIn_exit h
  | ret => exact wpIn_ret h
theorem rangeC_sim (hC : CallOk P C.glob callF) (hB : B.glob = C.glob) (s : St B N ds e h g w a) {f : FuncId} {gO : Operand} {ps : Array Tmp} {x y : Code} (hps : ∀ p ∈ ps.toList, p < N) (hx : codeOk N x = true) (hy : codeOk N y = true)
    {ex : Ex} {e' : Env} {h' : Heap} {Q : Exit → Act → World → Prop} (hr : rangeC callF f (evO C.glob e gO) ps.toList x y e h = some (ex, e', h')) (hp : Post B N ds h g w e' h' (Q ex.toExit)) :
    (Code.rangeFunc gO ps x y).wpIn (Fe ds.rd) 0 P Q a w := by
  refine wpIn_rangeFunc ?_
  intro fn _
  obtain ⟨l, mk, W, g1, q1, I1, x1, y1, dm1, hd1, hl1, df1⟩ := enter_sim (P := P) s f hps hx hy fn
  unfold rangeC at hr
  split at hr
  · rename_i f' us ht
    have hev := VR.mono x1 y1 _ _ (s.eval gO)
    rw [hB] at hev
    obtain ⟨av, bv, e1, hvs⟩ := target_sim (xs := [.yld h.next]) (vals := #[.func (.yield l) #[] #[]]) hev ⟨_, _, rfl, ⟨hd1, by rw [hl1]⟩, rfl⟩ ht
    split at hr
    · rename_i v2 h2 hcall
      obtain ⟨c1, c2⟩ := hC B _ g1 W (.fn f') us _ v2 h2 hB I1 hvs hcall
      refine ⟨l, mk, W, { target := .fn (.func f') bv, args := av ++ #[.func (.yield l) #[] #[]] }, W, f', av ++ #[.func (.yield l) #[] #[]] ++ bv, W, q1, ?_, fun _ _ => trivial, ?_, (fun hq => by cases hq), ?_⟩
      · simp only [resolve, e1, Deferred.ofValue, Sem.run_pure]
        simp [Act.eval]
      · exact c1
      · refine CallsIn.mono (callsIn_fe c2) ?_
        rintro en W2 ⟨v', g3, rfl, I3, _, x3, y3, dm3, nx3⟩
        have hd3 := y3.dom _ hd1
        have hl3 : g3.rho h.next = l := (y3.rho _ hd1).trans hl1
        have hbk := I3.blk h.next
        -- what is left of the record
        have main : ∀ (f2 : FuncId) (e2 : Env) (ps2 : List Nat) (a2 c2 : Code) (st : LSt) (jump : Option Code), h2.blk h.next = .loopb f2 e2 ps2 a2 c2 st →
            (∀ r : Loop, st.ok r → r.state ≠ .busy ∧ r.pending = jump) → e' = e → h' = h2.upd h.next (.loopb f2 e2 ps2 a2 c2 .over) →
            (∀ W4, Q ex.toExit { a with defers := mk ++ a.defers } W4 → match jump with | none => Q .normal { a with defers := mk ++ a.defers } W4 | some c => c.wpIn (Fe ds.rd) 0 P Q { a with defers := mk ++ a.defers } W4) →
            rangePost (Fe ds.rd) 0 P l Q { a with defers := mk ++ a.defers } (.returned v') W2 := by
          intro f2 e2 ps2 a2 c2 st jump hb hst he hh hfin
          rw [hb] at hbk
          obtain ⟨_, hge, r, ho, ⟨z1, z2, z3, z4, z5, z6, z7⟩, henv⟩ := hbk
          obtain ⟨s1, s2⟩ := hst r z7
          rw [hl3] at ho
          have hlt : l < W2.heap.size := (Array.getElem?_eq_some_iff.1 ho).1
          refine ⟨jump, W2.putObj l (.loop { r with state := .exhausted }), by rw [← s2]; exact run_endLoop ho s1, ?_⟩
          have ho4 : (W2.putObj l (.loop { r with state := .exhausted })).heap[l]? = some (.loop { r with state := .exhausted }) := World.putObj_heap_same hlt
          obtain ⟨I4, x4⟩ := turn_step I3 (id := h.next) (.loopb f2 e2 ps2 a2 c2 .over) (w' := W2.putObj l (.loop { r with state := .exhausted }))
            (fun o => by rw [hb]; trivial) (fun _ _ => trivial) rfl (by rw [hb]; rfl) (fun _ => rfl) (fun k hk => World.putObj_heap_other (by rw [← hl3]; exact hk)) (by simp) rfl rfl rfl
            (fun ex4 => ⟨hd3, hge, { r with state := .exhausted }, by rw [hl3]; exact ho4, ⟨z1, z2, z3, z4, z5, z6, trivial⟩, fun t => VR.mono ex4 (GLe.refl g3) _ _ (henv t)⟩)
          refine hfin _ ?_
          subst he hh
          refine hp _ _ g3 ⟨I4, fun t => VR.mono (x1.trans (x3.trans x4)) (y1.trans y3) _ _ (s.env t), s.size, df1.mono y3 rfl⟩ (x1.trans (x3.trans x4)) (y1.trans y3) (fun b hb2 => ?_) ?_
          · rcases dm3 b hb2 with q | q
            · exact dm1 b q
            · exact .inr (by have : h.next + 1 ≤ b := q; omega)
          · have : h.next + 1 ≤ h2.next := nx3
            show h.next ≤ h2.next
            omega
        split at hr
        · rename_i f2 e2 ps2 a2 c2 hb
          simp only [Option.some.injEq, Prod.mk.injEq] at hr
          obtain ⟨rfl, rfl, rfl⟩ := hr
          exact main f2 e2 ps2 a2 c2 .ready none hb (fun r hr => ⟨by rw [hr.1]; decide, hr.2⟩) rfl rfl (fun W4 hq => hq)
        · rename_i f2 e2 ps2 a2 c2 xx hb
          simp only [Option.some.injEq, Prod.mk.injEq] at hr
          obtain ⟨rfl, rfl, rfl⟩ := hr
          exact main f2 e2 ps2 a2 c2 (.done xx) (some xx.code) hb (fun r hr => ⟨by rw [hr.1]; decide, hr.2⟩) rfl rfl (fun W4 hq => wpIn_code hq)
        · cases hr
    · cases hr
  · cases hr
end
end Go.AM
end
section
namespace Go.AM
open Go Go.RowKit
section
variable {P : Program} {C : Cfg} {callF : CallF}

theorem put_ne {e : Env} {d : Option Nat} {v : V} {t : Nat} (h : d ≠ some t) : e.put d v t = e t := by
  cases d with
  | none => rfl
  | some s => simp only [Env.put]; rw [if_neg]; rintro rfl; exact h rfl
theorem runOps_keep {f : FuncId} {all : Array Oper} {base : Nat} {t : Nat} : ∀ (ops : List Oper) (i : Nat) (e : Env) (h : Heap) (e' : Env) (h' : Heap), (∀ o ∈ ops, o.dst ≠ some t) →
    runOps P C callF f all base ops i e h = some (e', h') → e' t = e t
  | [], i, e, h, e', h', _, hr => by simp [runOps] at hr; rw [hr.1]
  | o :: os, i, e, h, e', h', hn, hr => by
    have h1 : o.dst ≠ some t := hn o (List.mem_cons_self ..)
    have h2 : ∀ o ∈ os, o.dst ≠ some t := fun x hx => hn x (List.mem_cons_of_mem _ hx)
    simp only [runOps] at hr
    split at hr
    · cases hr
    · rw [runOps_keep os _ _ _ _ _ h2 hr, put_ne h1]
    · split at hr
      · cases hr
      · rw [runOps_keep os _ _ _ _ _ h2 hr, put_ne h1]
theorem runOpsF_runOps {f : FuncId} {all : Array Oper} {base : Nat} : ∀ (ops : List Oper) (i : Nat) (e : Env) (h : Heap) (fps : List Fp) (e' : Env) (h' : Heap),
    runOpsF P C callF f all base ops i e h = some (fps, e', h') → runOps P C callF f all base ops i e h = some (e', h')
  | [], i, e, h, fps, e', h', hr => by simp [runOpsF] at hr; simp [runOps, hr]
  | o :: os, i, e, h, fps, e', h', hr => by
    simp only [runOpsF] at hr
    simp only [runOps]
    split at hr
    · cases hr
    · rename_i hw
      obtain ⟨⟨a, b, c⟩, h1, h2⟩ := Option.map_eq_some_iff.1 hr
      simp only [Prod.mk.injEq] at h2
      obtain ⟨rfl, rfl, rfl⟩ := h2
      exact runOpsF_runOps os _ _ _ _ _ _ h1
    · rename_i hw
      split at hr
      · cases hr
      · rename_i v h1 hs
        obtain ⟨⟨a, b, c⟩, h1, h2⟩ := Option.map_eq_some_iff.1 hr
        simp only [Prod.mk.injEq] at h2
        obtain ⟨rfl, rfl, rfl⟩ := h2
        exact runOpsF_runOps os _ _ _ _ _ _ h1
theorem dst_mem {ops : Array Oper} {t : Nat} (h : (ops.toList.filterMap (·.dst)).contains t = false) : ∀ o ∈ ops.toList, o.dst ≠ some t := by
  intro o ho hd
  have : t ∈ ops.toList.filterMap (·.dst) := List.mem_filterMap.2 ⟨o, ho, hd⟩
  rw [List.contains_iff_mem.2 this] at h
  cases h
theorem contains_append {l l' : List Nat} {t : Nat} (h : (l ++ l').contains t = false) : l.contains t = false ∧ l'.contains t = false := by
  simp only [List.contains_eq_mem, List.mem_append, decide_eq_false_iff_not, not_or] at h ⊢
  exact h
/-- code leaves the slots alone that it does not name as a goal -/
theorem den_keep (n : Nat) (f : FuncId) {t : Nat} : ∀ (c : Code) (ro : Bool) (e : Env) (h : Heap) (x : Ex) (e' : Env) (h' : Heap), (dstsC c).contains t = false → denC P C callF n f c ro e h = some (x, e', h') → e' t = e t := by
  intro c
  induction c with
  | skip => intro ro e h x e' h' _ hd; simp only [denC, Option.some.injEq, Prod.mk.injEq] at hd; rw [hd.2.1]
  | label l => intro ro e h x e' h' _ hd; simp only [denC, Option.some.injEq, Prod.mk.injEq] at hd; rw [hd.2.1]
  | exit l => intro ro e h x e' h' _ hd; simp only [denC, Option.some.injEq, Prod.mk.injEq] at hd; rw [hd.2.1]
  | ret => intro ro e h x e' h' _ hd; simp only [denC, Option.some.injEq, Prod.mk.injEq] at hd; rw [hd.2.1]
  | region id ops draw =>
    intro ro e h x e' h' ht hd
    have hn := dst_mem (ops := ops) (t := t) (by simpa [dstsC] using ht)
    cases ro with
    | false =>
      cases draw with
      | false =>
        simp only [denC] at hd
        split at hd
        · rename_i e2 h2 hr
          simp only [Option.some.injEq, Prod.mk.injEq] at hd
          rw [← hd.2.1]; exact runOps_keep _ _ _ _ _ _ hn hr
        · cases hd
      | true =>
        simp only [denC] at hd
        split at hd
        · rename_i fps e2 h2 hr
          split at hd
          · simp only [Option.some.injEq, Prod.mk.injEq] at hd
            rw [← hd.2.1]; exact runOps_keep _ _ _ _ _ _ hn (runOpsF_runOps _ _ _ _ _ _ _ hr)
          · cases hd
        · cases hd
    | true =>
      simp only [denC] at hd
      split at hd
      · rename_i fps e2 h2 hr
        split at hd
        · simp only [Option.some.injEq, Prod.mk.injEq] at hd
          rw [← hd.2.1]; exact runOps_keep _ _ _ _ _ _ hn (runOpsF_runOps _ _ _ _ _ _ _ hr)
        · cases hd
      · cases hd
  | seq c1 c2 ih1 ih2 =>
    intro ro e h x e' h' ht hd
    obtain ⟨t1, t2⟩ := contains_append (by simpa [dstsC] using ht)
    simp only [denC] at hd
    cases h1 : denC P C callF n f c1 ro e h with
    | none => rw [h1] at hd; cases hd
    | some r =>
      obtain ⟨x1, e1, h1'⟩ := r
      rw [h1] at hd
      have k1 := ih1 _ _ _ _ _ _ t1 h1
      cases x1 with
      | normal => simp only [seqC] at hd; rw [ih2 _ _ _ _ _ _ t2 hd, k1]
      | exit id => simp only [seqC, Option.some.injEq, Prod.mk.injEq] at hd; rw [← hd.2.1, k1]
      | ret => simp only [seqC, Option.some.injEq, Prod.mk.injEq] at hd; rw [← hd.2.1, k1]
  | cond c c1 c2 ih1 ih2 =>
    intro ro e h x e' h' ht hd
    obtain ⟨t1, t2⟩ := contains_append (by simpa [dstsC] using ht)
    simp only [denC, condC] at hd
    split at hd
    · exact ih1 _ _ _ _ _ _ t1 hd
    · exact ih2 _ _ _ _ _ _ t2 hd
    · cases hd
  | block id c ih =>
    intro ro e h x e' h' ht hd
    simp only [denC] at hd
    cases h1 : denC P C callF n f c ro e h with
    | none => rw [h1] at hd; cases hd
    | some r =>
      obtain ⟨x1, e1, h1'⟩ := r
      rw [h1] at hd
      have k1 := ih _ _ _ _ _ _ (by simpa [dstsC] using ht) h1
      cases x1 with
      | normal => simp only [blockC, Option.some.injEq, Prod.mk.injEq] at hd; rw [← hd.2.1, k1]
      | ret => simp only [blockC, Option.some.injEq, Prod.mk.injEq] at hd; rw [← hd.2.1, k1]
      | exit i =>
        simp only [blockC] at hd
        split at hd <;> (simp only [Option.some.injEq, Prod.mk.injEq] at hd; rw [← hd.2.1, k1])
  | loop c ih =>
    intro ro e h x e' h' ht hd
    have ht' : (dstsC c).contains t = false := by simpa [dstsC] using ht
    have key : ∀ (m : Nat) (e : Env) (h : Heap), iterC (denC P C callF n f c ro) m e h = some (x, e', h') → e' t = e t := by
      intro m
      induction m with
      | zero => intro e h hd; simp [iterC] at hd
      | succ m ihm =>
        intro e h hd
        simp only [iterC] at hd
        cases h1 : denC P C callF n f c ro e h with
        | none => rw [h1] at hd; cases hd
        | some r =>
          obtain ⟨x1, e1, h1'⟩ := r
          rw [h1] at hd
          have k1 := ih _ _ _ _ _ _ ht' h1
          cases x1 with
          | normal => rw [ihm _ _ hd, k1]
          | exit id => simp only [Option.some.injEq, Prod.mk.injEq] at hd; rw [← hd.2.1, k1]
          | ret => simp only [Option.some.injEq, Prod.mk.injEq] at hd; rw [← hd.2.1, k1]
    simp only [denC] at hd
    split at hd
    · unfold mapC at hd
      split at hd
      · split at hd
        · split at hd
          · split at hd
            · split at hd
              · simp only [Option.some.injEq, Prod.mk.injEq] at hd; rw [← hd.2.1]; show (if (dstsC c).contains t then V.unk else e t) = e t; rw [ht']; rfl
              · simp only [Option.some.injEq, Prod.mk.injEq] at hd; rw [← hd.2.1]; simp only [ht', Bool.false_eq_true, if_false]
              · cases hd
            · cases hd
          · cases hd
        · cases hd
      · cases hd
    · exact key n e h hd
    · cases hd
  | rangeFunc g ps a c iha ihc =>
    intro ro e h x e' h' ht hd
    cases ro with
    | true => simp [denC] at hd
    | false =>
      simp only [denC, rangeC] at hd
      split at hd
      · split at hd
        · split at hd
          · simp only [Option.some.injEq, Prod.mk.injEq] at hd; rw [← hd.2.1]
          · simp only [Option.some.injEq, Prod.mk.injEq] at hd; rw [← hd.2.1]
          · cases hd
        · cases hd
      · cases hd
  | _ => intro ro e h x e' h' _ hd; simp [denC] at hd
/-- where nothing may be written, nothing is -/
theorem roOps_keep (hA : CallApart C callF) {f : FuncId} {all : Array Oper} {base : Nat} : ∀ (ops : List Oper) (i : Nat) (e : Env) (h : Heap) (fps : List Fp) (e' : Env) (h' : Heap),
    runOpsF P C callF f all base ops i e h = some (fps, e', h') → roOk ops fps = true → (∀ b, (∀ m n j, h.blk b ≠ .mpend m n j) → h'.blk b = h.blk b) ∧ h'.next = h.next
  | [], i, e, h, fps, e', h', hr, _ => by simp [runOpsF] at hr; rw [← hr.2.2]; exact ⟨fun _ _ => rfl, rfl⟩
  | o :: os, i, e, h, fps, e', h', hr, hok => by
    simp only [runOpsF] at hr
    split at hr
    · cases hr
    · obtain ⟨⟨a, b, c⟩, h1, h2⟩ := Option.map_eq_some_iff.1 hr
      simp only [Prod.mk.injEq] at h2
      obtain ⟨rfl, rfl, rfl⟩ := h2
      simp only [roOk, Bool.and_eq_true] at hok
      exact roOps_keep hA os _ _ _ _ _ _ h1 hok.2
    · split at hr
      · cases hr
      · rename_i v h1 hs
        obtain ⟨⟨a, b, c⟩, q1, q2⟩ := Option.map_eq_some_iff.1 hr
        simp only [Prod.mk.injEq] at q2
        obtain ⟨rfl, rfl, rfl⟩ := q2
        simp only [roOk, Bool.and_eq_true, Bool.or_eq_true] at hok
        obtain ⟨k1, k2⟩ := roOps_keep hA os _ _ _ _ _ _ q1 hok.2
        have one : (∀ b, (∀ m n j, h.blk b ≠ .mpend m n j) → h1.blk b = h.blk b) ∧ h1.next = h.next := by
          rcases hok.1 with hfp | hop
          · have hb : notBad (footC C o e (base + i)) = true := by
              generalize footC C o e (base + i) = fp at hfp
              cases fp <;> first | rfl | simp [roFp] at hfp
            obtain ⟨r1, r2, _⟩ := (stepC_local (P := P) (f := f) (e2 := e) (h := h) hA (fun _ _ => rfl) hb).1 _ _ hs
            refine ⟨fun b _ => r2 b ?_, r1⟩
            generalize footC C o e (base + i) = fp at hfp
            cases fp <;> simp [roFp] at hfp <;> simp [Fp.writes]
          · split at hop
            · rename_i x ho
              simp only [stepC, ho, stepV, nextV] at hs
              split at hs
              · split at hs
                · rename_i hx; cases hx
                · rename_i b m n j _ hbk _
                  obtain ⟨kv, _, r2⟩ := Option.map_eq_some_iff.1 hs
                  simp only [Prod.mk.injEq] at r2
                  rw [← r2.2]
                  refine ⟨fun c hc => Heap.upd_ne _ _ ?_, rfl⟩
                  rintro rfl
                  exact hc _ _ _ hbk
                · cases hs
              · cases hs
            · rename_i x ho
              simp only [stepC, ho, stepV] at hs
              obtain ⟨_, rfl⟩ := opt_pair hs
              exact ⟨fun _ _ => rfl, rfl⟩
            · cases hop
        refine ⟨fun b hb => ?_, k2.trans one.2⟩
        rw [k1 b (by rw [one.1 b hb]; exact hb), one.1 b hb]
theorem den_ro (hA : CallApart C callF) (n : Nat) (f : FuncId) : ∀ (c : Code) (e : Env) (h : Heap) (x : Ex) (e' : Env) (h' : Heap), denC P C callF n f c true e h = some (x, e', h') →
    (∀ b, (∀ m n j, h.blk b ≠ .mpend m n j) → h'.blk b = h.blk b) ∧ h.next ≤ h'.next := by
  intro c
  induction c with
  | skip => intro e h x e' h' hd; simp only [denC, Option.some.injEq, Prod.mk.injEq] at hd; rw [hd.2.2]; exact ⟨fun _ _ => rfl, Nat.le_refl _⟩
  | label l => intro e h x e' h' hd; simp only [denC, Option.some.injEq, Prod.mk.injEq] at hd; rw [hd.2.2]; exact ⟨fun _ _ => rfl, Nat.le_refl _⟩
  | exit l => intro e h x e' h' hd; simp only [denC, Option.some.injEq, Prod.mk.injEq] at hd; rw [hd.2.2]; exact ⟨fun _ _ => rfl, Nat.le_refl _⟩
  | ret => intro e h x e' h' hd; simp only [denC, Option.some.injEq, Prod.mk.injEq] at hd; rw [hd.2.2]; exact ⟨fun _ _ => rfl, Nat.le_refl _⟩
  | region id ops draw =>
    intro e h x e' h' hd
    simp only [denC] at hd
    split at hd
    · rename_i fps e2 h2 hr
      split at hd
      · rename_i hc
        simp only [Option.some.injEq, Prod.mk.injEq] at hd
        obtain ⟨k1, k2⟩ := roOps_keep hA _ _ _ _ _ _ _ hr hc.1
        rw [← hd.2.2]
        exact ⟨k1, by rw [k2]; exact Nat.le_add_right _ _⟩
      · cases hd
    · cases hd
  | seq c1 c2 ih1 ih2 =>
    intro e h x e' h' hd
    simp only [denC] at hd
    cases h1 : denC P C callF n f c1 true e h with
    | none => rw [h1] at hd; cases hd
    | some r =>
      obtain ⟨x1, e1, h1'⟩ := r
      rw [h1] at hd
      obtain ⟨k1, k2⟩ := ih1 _ _ _ _ _ h1
      cases x1 with
      | normal =>
        simp only [seqC] at hd
        obtain ⟨k3, k4⟩ := ih2 _ _ _ _ _ hd
        exact ⟨fun b hb => by rw [k3 b (by rw [k1 b hb]; exact hb), k1 b hb], Nat.le_trans k2 k4⟩
      | exit id => simp only [seqC, Option.some.injEq, Prod.mk.injEq] at hd; rw [← hd.2.2]; exact ⟨k1, k2⟩
      | ret => simp only [seqC, Option.some.injEq, Prod.mk.injEq] at hd; rw [← hd.2.2]; exact ⟨k1, k2⟩
  | cond c c1 c2 ih1 ih2 =>
    intro e h x e' h' hd
    simp only [denC, condC] at hd
    split at hd
    · exact ih1 _ _ _ _ _ hd
    · exact ih2 _ _ _ _ _ hd
    · cases hd
  | block id c ih =>
    intro e h x e' h' hd
    simp only [denC] at hd
    cases h1 : denC P C callF n f c true e h with
    | none => rw [h1] at hd; cases hd
    | some r =>
      obtain ⟨x1, e1, h1'⟩ := r
      rw [h1] at hd
      have k1 := ih _ _ _ _ _ h1
      cases x1 with
      | normal => simp only [blockC, Option.some.injEq, Prod.mk.injEq] at hd; rw [← hd.2.2]; exact k1
      | ret => simp only [blockC, Option.some.injEq, Prod.mk.injEq] at hd; rw [← hd.2.2]; exact k1
      | exit i =>
        simp only [blockC] at hd
        split at hd <;> (simp only [Option.some.injEq, Prod.mk.injEq] at hd; rw [← hd.2.2]; exact k1)
  | loop c ih =>
    intro e h x e' h' hd
    have key : ∀ (m : Nat) (e : Env) (h : Heap), iterC (denC P C callF n f c true) m e h = some (x, e', h') → (∀ b, (∀ m n j, h.blk b ≠ .mpend m n j) → h'.blk b = h.blk b) ∧ h.next ≤ h'.next := by
      intro m
      induction m with
      | zero => intro e h hd; simp [iterC] at hd
      | succ m ihm =>
        intro e h hd
        simp only [iterC] at hd
        cases h1 : denC P C callF n f c true e h with
        | none => rw [h1] at hd; cases hd
        | some r =>
          obtain ⟨x1, e1, h1'⟩ := r
          rw [h1] at hd
          obtain ⟨k1, k2⟩ := ih _ _ _ _ _ h1
          cases x1 with
          | normal =>
            obtain ⟨k3, k4⟩ := ihm _ _ hd
            exact ⟨fun b hb => by rw [k3 b (by rw [k1 b hb]; exact hb), k1 b hb], Nat.le_trans k2 k4⟩
          | exit id => simp only [Option.some.injEq, Prod.mk.injEq] at hd; rw [← hd.2.2]; exact ⟨k1, k2⟩
          | ret => simp only [Option.some.injEq, Prod.mk.injEq] at hd; rw [← hd.2.2]; exact ⟨k1, k2⟩
    simp only [denC] at hd
    split at hd
    · rename_i hx _; cases hx
    · exact key n e h hd
    · cases hd
  | _ => intro e h x e' h' hd; simp [denC] at hd
end
end Go.AM
end
section
namespace Go.AM
open Go Go.RowKit
section
variable {w w1 : World} {M M1 : Muts} {g g1 : G}

mutual
theorem VR.back (y : GLe g g1) : ∀ (u : V) (v v1 : Value), VR w M g u v → VR w1 M1 g1 u v1 → VR w1 M1 g u v1
  | .d _, _, _, _, h1 => h1
  | .ref b _, _, _, h, h1 => ⟨h.1, by rw [← y.rho b h.1]; exact h1.2⟩
  | .sref b _ _ _, _, _, h, h1 => ⟨h.1, by rw [← y.rho b h.1]; exact h1.2⟩
  | .mref b, _, _, h, h1 => ⟨h.1, by rw [← y.rho b h.1]; exact h1.2⟩
  | .nils, _, _, _, h1 => h1
  | .own t rows, _, _, h, h1 => by
    have hd := h.1
    obtain ⟨_, q1, q2, q3, q4⟩ := h1
    exact ⟨hd, by rw [← y.rho t hd, ← y.cap t hd]; exact q1, by rw [← y.cap t hd]; exact q2, by rw [← y.ln t hd]; exact q3, by rw [← y.rho t hd, ← y.sz t hd]; exact q4⟩
  | .fn f a c, _, _, h, h1 => by
    obtain ⟨_, _, _, k1, k2⟩ := h
    obtain ⟨xs, ys, e, q1, q2⟩ := h1
    exact ⟨xs, ys, e, VRL.back y a _ _ k1 q1, VRL.back y c _ _ k2 q2⟩
  | .iface t u, _, _, h, h1 => by
    obtain ⟨_, _, k⟩ := h
    obtain ⟨z, e, q⟩ := h1
    exact ⟨z, e, VR.back y u _ _ k q⟩
  | .agg cs, _, _, h, h1 => by
    obtain ⟨_, _, k⟩ := h
    obtain ⟨z, e, q⟩ := h1
    exact ⟨z, e, VRL.back y cs _ _ k q⟩
  | .tuple cs, _, _, h, h1 => by
    obtain ⟨_, _, k⟩ := h
    obtain ⟨z, e, q⟩ := h1
    exact ⟨z, e, VRL.back y cs _ _ k q⟩
  | .yld b, _, _, h, h1 => ⟨h.1, by rw [← y.rho b h.1]; exact h1.2⟩
  | .unk, _, _, _, _ => trivial
theorem VRL.back (y : GLe g g1) : ∀ (us : List V) (vs vs1 : List Value), VRL w M g us vs → VRL w1 M1 g1 us vs1 → VRL w1 M1 g us vs1
  | [], _, _, _, h1 => h1
  | u :: us, _, _, h, h1 => by
    obtain ⟨_, _, _, k1, k2⟩ := h
    obtain ⟨v, vs, e, q1, q2⟩ := h1
    exact ⟨v, vs, e, VR.back y u _ _ k1 q1, VRL.back y us _ _ k2 q2⟩
end
theorem BlkOk.back {B0 id : Nat} {b : Block} (y : GLe g g1) (x : Ext w1 M1 w1 M) (h : BlkOk w M g B0 id b) (h1 : BlkOk w1 M1 g1 B0 id b) : BlkOk w1 M g B0 id b := by
  have down : ∀ (u : V) (v v1 : Value), VR w M g u v → VR w1 M1 g1 u v1 → VR w1 M g u v1 := fun u v v1 k k1 => VR.mono x (GLe.refl g) _ _ (VR.back y u v v1 k k1)
  have downL : ∀ (u : List V) (v v1 : List Value), VRL w M g u v → VRL w1 M1 g1 u v1 → VRL w1 M g u v1 := fun u v v1 k k1 => VRL.mono x (GLe.refl g) _ _ (VRL.back y u v v1 k k1)
  cases b with
  | dead => trivial
  | mover => trivial
  | mpend _ _ _ => exact h.elim
  | cells vs =>
    obtain ⟨d, r, _, c0, e0, _, _, k⟩ := h
    obtain ⟨_, _, q0, cur, e, q1, q2, q3⟩ := h1
    exact ⟨d, r, q0, cur, e, by rw [← y.rho _ d]; exact q1, q2, downL _ _ _ k q3⟩
  | map ks vs =>
    obtain ⟨d, r, _, _, _, _, _, k⟩ := h
    obtain ⟨_, _, es, c, q1, q2, q3, q4⟩ := h1
    exact ⟨d, r, es, c, by rw [← y.rho _ d]; exact q1, q2, RDL.mono x _ _ q3, downL _ _ _ k q4⟩
  | tok e sz =>
    obtain ⟨d, r, _⟩ := h
    obtain ⟨_, _, cur, q1, q2, q3, q4, q5, q6⟩ := h1
    exact ⟨d, r, cur, by rw [← y.rho _ d]; exact q1, by rw [← y.ln _ d, ← y.cap _ d]; exact q2, by rw [← y.cap _ d]; exact q3, by rw [← y.cap _ d]; exact q4, q5, by rw [← y.sz _ d]; exact q6⟩
  | siter s pos =>
    obtain ⟨d, r, _⟩ := h
    obtain ⟨_, _, q1⟩ := h1
    exact ⟨d, r, by rw [← y.rho _ d]; exact q1⟩
  | loopb f e ps a c st =>
    obtain ⟨d, r, _, _, _, k⟩ := h
    obtain ⟨_, _, rec, q1, q2, q3⟩ := h1
    exact ⟨d, r, rec, by rw [← y.rho _ d]; exact q1, q2, fun t => down _ _ _ (k t) (q3 t)⟩
  | mfresh m n =>
    obtain ⟨d, r, _, _, k⟩ := h
    obtain ⟨_, _, mo, q1, q2⟩ := h1
    exact ⟨d, r, mo, by rw [← y.rho _ d]; exact q1, down _ _ _ k q2⟩
  | mcur m n j =>
    obtain ⟨d, r, _, _, _, _, _, _, k⟩ := h
    obtain ⟨_, _, rr, since, seen, q1, q2, q3, q4⟩ := h1
    exact ⟨d, r, rr, since, seen, by rw [← y.rho _ d]; exact q1, q2, by rw [← y.it _ d]; exact q3, down _ _ _ k q4⟩
variable {B : Base} {h h1 : Heap}
/-- the elder state stands in the newer world -/
theorem Inv.back (I : Inv B h g w) (I1 : Inv B h1 g1 w1) (y : GLe g g1) (x : Ext w (Mut B.M0 h g) w1 (Mut B.M0 h1 g1)) (hb : ∀ i, g.dom i → h1.blk i = h.blk i) :
    Inv B h g w1 ∧ Ext w (Mut B.M0 h g) w1 (Mut B.M0 h g) := by
  have x1 : Ext w (Mut B.M0 h g) w1 (Mut B.M0 h g) := ⟨x.cell, x.map, fun _ _ hm _ => hm, x.size⟩
  have hM : Ext w1 (Mut B.M0 h1 g1) w1 (Mut B.M0 h g) := by
    refine ⟨fun _ _ _ _ h => h, fun _ _ _ _ h => h, fun b o hm _ => ?_, Nat.le_refl _⟩
    rintro (h0 | ⟨i, hd, hr, hmut⟩)
    · exact hm (.inl h0)
    · exact hm (.inr ⟨i, y.dom i hd, by rw [y.rho i hd]; exact hr, by rw [hb i hd, y.ln i hd, y.sz i hd]; exact hmut⟩)
  refine ⟨⟨I1.below, I.m0, fun i => ?_, I.inj, fun i hd => Nat.lt_of_lt_of_le (I.lt i hd) x.size, I.nxt, I.dead, fun n => VR.mono x1 (GLe.refl g) _ _ (I.glob n), fun d hd => I1.dfr d (y.dfr d hd), fun l hl => I1.lps l (y.lps l hl)⟩, x1⟩
  by_cases hd : g.dom i
  · have k1 := I1.blk i
    rw [hb i hd] at k1
    exact BlkOk.back y hM (I.blk i) k1
  · exact BlkOk.idle (I.dead i hd)
end
end Go.AM
end
section
namespace Go.AM
open Go Go.RowKit
section
theorem likeV_left {a b : V} (h : likeV a b = true) : likeV a a = true := by
  unfold likeV at h
  split at h <;> first | (simp [likeV]; done) | cases h
theorem likeV_trans {a b c : V} (h : likeV a b = true) (k : likeV b c = true) : likeV a c = true := by
  unfold likeV at h
  split at h <;> first | (cases h; done) | skip
  all_goals (unfold likeV at k; split at k <;> first | (cases k; done) | skip)
  all_goals simp_all [likeV]
theorem likeV_VR {w w' : World} {M M' : Muts} {g g' : G} {a b : V} {v : Value} (h : likeV a b = true) (k : VR w M g b v) : VR w' M' g' a v := by
  unfold likeV at h
  split at h <;> first | (cases h; done) | skip
  all_goals simp_all [VR, RD]
theorem meetR_none {l : List Nat} : ∀ (rs : List Res), meetR l rs = some none → ∀ r ∈ rs, ∃ e h, r = some (.normal, e, h)
  | [], _, r, hr => by cases hr
  | none :: rs, hm, _, _ => by simp [meetR] at hm
  | some (.normal, e, h) :: rs, hm, r, hr => by
    simp only [meetR] at hm
    rcases List.mem_cons.1 hr with rfl | hr
    · exact ⟨e, h, rfl⟩
    · exact meetR_none rs hm r hr
  | some (.exit i, e, h) :: rs, hm, r, hr => by
    simp only [meetR] at hm
    split at hm
    · simp at hm
    · split at hm <;> simp at hm
    · cases hm
  | some (.ret, e, h) :: rs, hm, r, hr => by
    simp only [meetR] at hm
    split at hm
    · simp at hm
    · split at hm <;> simp at hm
    · cases hm
def MeetOk (l : List Nat) (x : Ex) (em : Env) (r : Res) : Prop :=
  (∃ e h, r = some (.normal, e, h)) ∨ ∃ e h, r = some (x, e, h) ∧ ∀ t, l.contains t = true → em t = .unk ∨ likeV (em t) (e t) = true
theorem meetE_self {l : List Nat} {e : Env} {t : Nat} (ht : l.contains t = true) : meetE l e e t = .unk ∨ likeV (meetE l e e t) (e t) = true := by
  simp only [meetE, ht, if_true]
  cases hl : likeV (e t) (e t)
  · left; simp
  · right; simpa using hl
theorem meetR_some {l : List Nat} : ∀ (rs : List Res) (x : Ex) (em : Env), meetR l rs = some (some (x, em)) → ∀ r ∈ rs, MeetOk l x em r
  | [], x, em, hm, _, _ => by simp [meetR] at hm
  | none :: rs, x, em, hm, _, _ => by simp [meetR] at hm
  | some (.normal, e, h) :: rs, x, em, hm, r, hr => by
    simp only [meetR] at hm
    rcases List.mem_cons.1 hr with rfl | hr
    · exact .inl ⟨e, h, rfl⟩
    · exact meetR_some rs x em hm r hr
  | some (.exit i, e, h) :: rs, x, em, hm, r, hr => by
    simp only [meetR] at hm
    split at hm
    · rename_i hn
      simp only [Option.some.injEq, Prod.mk.injEq] at hm
      obtain ⟨rfl, rfl⟩ := hm
      rcases List.mem_cons.1 hr with rfl | hr
      · exact .inr ⟨e, h, rfl, fun t ht => meetE_self ht⟩
      · exact .inl (meetR_none rs hn r hr)
    · rename_i y e' hn
      split at hm
      · rename_i hxy
        subst hxy
        simp only [Option.some.injEq, Prod.mk.injEq] at hm
        obtain ⟨rfl, rfl⟩ := hm
        rcases List.mem_cons.1 hr with rfl | hr
        · refine .inr ⟨e, h, rfl, fun t ht => ?_⟩
          simp only [meetE, ht, if_true]
          cases hl : likeV (e t) (e' t)
          · left; simp
          · right; simpa using likeV_left hl
        · rcases meetR_some rs _ e' hn r hr with q | ⟨e2, h2, q1, q2⟩
          · exact .inl q
          · refine .inr ⟨e2, h2, q1, fun t ht => ?_⟩
            simp only [meetE, ht, if_true]
            cases hl : likeV (e t) (e' t)
            · left; simp
            · right
              rcases q2 t ht with q | q
              · rw [q] at hl; unfold likeV at hl; split at hl <;> simp_all
              · simpa using likeV_trans hl q
      · cases hm
    · cases hm
  | some (.ret, e, h) :: rs, x, em, hm, r, hr => by
    simp only [meetR] at hm
    split at hm
    · rename_i hn
      simp only [Option.some.injEq, Prod.mk.injEq] at hm
      obtain ⟨rfl, rfl⟩ := hm
      rcases List.mem_cons.1 hr with rfl | hr
      · exact .inr ⟨e, h, rfl, fun t ht => meetE_self ht⟩
      · exact .inl (meetR_none rs hn r hr)
    · rename_i y e' hn
      split at hm
      · rename_i hxy
        subst hxy
        simp only [Option.some.injEq, Prod.mk.injEq] at hm
        obtain ⟨rfl, rfl⟩ := hm
        rcases List.mem_cons.1 hr with rfl | hr
        · refine .inr ⟨e, h, rfl, fun t ht => ?_⟩
          simp only [meetE, ht, if_true]
          cases hl : likeV (e t) (e' t)
          · left; simp
          · right; simpa using likeV_left hl
        · rcases meetR_some rs _ e' hn r hr with q | ⟨e2, h2, q1, q2⟩
          · exact .inl q
          · refine .inr ⟨e2, h2, q1, fun t ht => ?_⟩
            simp only [meetE, ht, if_true]
            cases hl : likeV (e t) (e' t)
            · left; simp
            · right
              rcases q2 t ht with q | q
              · rw [q] at hl; unfold likeV at hl; split at hl <;> simp_all
              · simpa using likeV_trans hl q
      · cases hm
    · cases hm
theorem mapLoop_spec {c : Code} {L : MapLoop} (h : mapLoop? c = some L) :
    c = .seq (.region L.rid #[L.op0, L.op1] false) (.seq (.cond (.tmp L.more) .skip (.exit L.out)) L.rest) ∧ (L.op0.dst = some L.nx ∧ L.op0.op = .next (.tmp L.it) false ∧ L.op0.guard = none) ∧
      (L.op1.dst = some L.more ∧ L.op1.op = .extract (.tmp L.nx) 0 ∧ L.op1.guard = none) ∧ L.nx ≠ L.more ∧ L.it ≠ L.nx ∧ L.it ≠ L.more := by
  unfold mapLoop? at h
  split at h
  · split at h
    · rename_i o0 o1 hops
      split at h
      · rename_i nx it more x d0 p0 g0 d1 p1 g1
        split at h
        · rename_i hc
          obtain ⟨rfl, rfl, q3, q4, q5⟩ := hc
          simp only [Option.some.injEq] at h
          subst h
          exact ⟨by rw [show (#[o0, o1] : Array Oper) = _ from (Array.toList_inj.1 (by rw [hops]))], ⟨d0, p0, g0⟩, ⟨d1, p1, g1⟩, q3, q4, q5⟩
        · cases h
      · cases h
    · cases h
  · cases h
variable {P : Program} {C : Cfg} {callF : CallF}
theorem extract_mk {x : D} {vs : List V} : extractV 0 (mkTuple (.d x :: vs)) = some (.d x) := by
  unfold mkTuple
  split
  · rename_i ds h
    simp only [allD'] at h
    obtain ⟨es, h1, rfl⟩ := Option.map_eq_some_iff.1 h
    rfl
  · rfl
/-- one round of the machine's: the entry is handed out, then the rest -/
theorem mapRun {n : Nat} {f : FuncId} {c : Code} {L : MapLoop} (hL : mapLoop? c = some L) {e : Env} {h : Heap} {x : Ex} {e' : Env} {h' : Heap} (hr : denC P C callF n f c true e h = some (x, e', h')) {b : Nat} {m : V} {nn j : Nat}
    (hit : e L.it = .ref b 0) (hb : h.blk b = .mpend m nn j) : ∃ kv, atV m nn j ⟨h.blk, h.next + 2⟩ = some kv ∧
      denC P C callF n f L.rest true ((e.put (some L.nx) (mkTuple [.d (.bool true), .d kv.1, kv.2])).put (some L.more) (.d (.bool true))) ⟨(h.upd b (.mcur m nn j)).blk, h.next + 2⟩ = some (x, e', h') := by
  obtain ⟨hc, ⟨a1, a2, a3⟩, ⟨b1, b2, b3⟩, n1, n2, n3⟩ := mapLoop_spec hL
  rw [hc] at hr
  simp only [denC] at hr
  have w0 : ∀ (all : Array Oper) (e : Env), wantedV all e L.op0 = some true := fun all e => by simp [wantedV, a3]
  have w1 : ∀ (all : Array Oper) (e : Env), wantedV all e L.op1 = some true := fun all e => by simp [wantedV, b3]
  cases hat : atV m nn j ⟨h.blk, h.next + 2⟩ with
  | none =>
    exfalso
    have s0 : ∀ (f : FuncId) (id : Nat), stepC P C callF f L.op0 e id ⟨h.blk, h.next + 2⟩ = none := by
      intro f id
      simp only [stepC, a2, stepV, nextV, evO, hit, hb, hat]
      rfl
    have hs : (#[L.op0, L.op1] : Array Oper).size = 2 := rfl
    simp only [hs, runOpsF, w0, s0, seqC] at hr
    cases hr
  | some kv =>
    refine ⟨kv, rfl, ?_⟩
    have s0 : ∀ (f : FuncId) (id : Nat), stepC P C callF f L.op0 e id ⟨h.blk, h.next + 2⟩ = some (mkTuple [.d (.bool true), .d kv.1, kv.2], ⟨(h.upd b (.mcur m nn j)).blk, h.next + 2⟩) := by
      intro f id
      simp only [stepC, a2, stepV, nextV, evO, hit, hb, hat]
      rfl
    have s1 : ∀ (f : FuncId) (id : Nat) (h : Heap), stepC P C callF f L.op1 (e.put L.op0.dst (mkTuple [.d (.bool true), .d kv.1, kv.2])) id h = some (.d (.bool true), h) := by
      intro f id h
      simp only [stepC, b2, stepV, evO, a1, Env.put, if_true, extract_mk]
      rfl
    have hs : (#[L.op0, L.op1] : Array Oper).size = 2 := rfl
    simp only [hs, runOpsF, w0, s0, w1, s1] at hr
    split at hr
    · rename_i fps e2 h2 hr2
      simp only [Option.map_some, Option.some.injEq, Prod.mk.injEq] at hr2
      obtain ⟨rfl, rfl, rfl⟩ := hr2
      split at hr
      · have hev : evO C.glob ((e.put (some L.nx) (mkTuple [.d (.bool true), .d kv.1, kv.2])).put (some L.more) (.d (.bool true))) (.tmp L.more) = .d (.bool true) := by simp [evO, Env.put]
        simp only [seqC, a1, b1] at hr
        rw [hev] at hr
        exact hr
      · simp [seqC] at hr
    · rename_i hr2
      simp [seqC] at hr
end
end Go.AM
end
section
namespace Go.AM
open Go Go.RowKit
open Go.ChangeMaps (setBlock)
section
variable {P : Program} {C : Cfg} {callF : CallF} {B : Base} {N : Nat} {ds : Fr} {H : Heap} {g : G} {w : World}

theorem Inv.free (I : Inv B H g w) {R : Nat} (hR : B.w0.heap.size ≤ R) {mo : Option Nat} {s c : Nat} {seen : Array Nat} (ho : w.heap[R]? = some (.mapIter mo s seen c)) (hfree : ∀ i, live (H.blk i) = true → g.rho i ≠ R)
    {w' : World} (hw : ∀ k, k ≠ R → w'.heap[k]? = w.heap[k]?) (hs : w'.heap.size = w.heap.size) (hos : w'.os = w.os) (ht : w'.tape = w.tape) (hou : w'.output = w.output) :
    Inv B H g w' ∧ Ext w (Mut B.M0 H g) w' (Mut B.M0 H g) := by
  have x : Ext w (Mut B.M0 H g) w' (Mut B.M0 H g) := by
    refine ⟨fun b o v _ hv => ?_, fun r es c _ hr => ?_, fun _ _ hm _ => hm, by rw [hs]; exact Nat.le_refl _⟩
    · have hne : b ≠ R := by
        intro e
        subst e
        simp only [World.cell?, ho] at hv
        cases hv
      rw [World.cell?_of_block (w := w) (hw b hne)]; exact hv
    · rw [hw r (fun e => by rw [e, ho] at hr; cases hr)]; exact hr
  refine ⟨⟨⟨hos.trans I.below.os, ht.trans I.below.tape, hou.trans I.below.output, by rw [hs]; exact I.below.size, fun k hk => (hw k (by omega)).trans (I.below.block k hk)⟩, I.m0, fun i => ?_, I.inj,
    fun i hd => by rw [hs]; exact I.lt i hd, I.nxt, I.dead, fun n => VR.mono x (GLe.refl g) _ _ (I.glob n), fun d hd => ?_, fun l hl => ?_⟩, x⟩
  · cases hl : live (H.blk i)
    · exact BlkOk.idle hl
    · exact BlkOk.mono x (GLe.refl g) (hw _ (hfree i hl)) (I.blk i)
  · obtain ⟨h1, h2⟩ := I.dfr d hd
    exact ⟨h1, (hw d (fun e => by rw [e, ho] at h2; cases h2)).trans h2⟩
  · obtain ⟨h1, r, h2⟩ := I.lps l hl
    exact ⟨h1, r, (hw l (fun e => by rw [e, ho] at h2; cases h2)).trans h2⟩
def G.addIt (g : G) (id r : Nat) (o : Obj) : G := { g.add id r 0 0 0 0 with it := fun x => if x = id then o else g.it x }
theorem GLe.addIt {id : Nat} (hid : ¬ g.dom id) (r : Nat) (o : Obj) : GLe g (g.addIt id r o) := by
  have y := GLe.add hid r 0 0 0 0
  exact ⟨y.dom, y.rho, y.cap, y.ln, y.sz, y.el, fun b hb => by simp only [G.addIt]; rw [if_neg]; rintro rfl; exact hid hb, y.dfr, y.lps⟩
/-- one more name for an iterator -/
theorem Inv.name (I : Inv B H g w) {id : Nat} (hid : ¬ g.dom id) (hlt : id < H.next) {R : Nat} (hR : B.w0.heap.size ≤ R) (hRl : R < w.heap.size) (hfree : ∀ i, live (H.blk i) = true → g.rho i ≠ R) (m : V) (n j : Nat) (o : Obj)
    (hb : Ext w (Mut B.M0 H g) w (Mut B.M0 (H.upd id (.mcur m n j)) (g.addIt id R o)) → GLe g (g.addIt id R o) → BlkOk w (Mut B.M0 (H.upd id (.mcur m n j)) (g.addIt id R o)) (g.addIt id R o) B.w0.heap.size id (.mcur m n j)) :
    Inv B (H.upd id (.mcur m n j)) (g.addIt id R o) w ∧ Ext w (Mut B.M0 H g) w (Mut B.M0 (H.upd id (.mcur m n j)) (g.addIt id R o)) := by
  have y := GLe.addIt hid R o
  have x : Ext w (Mut B.M0 H g) w (Mut B.M0 (H.upd id (.mcur m n j)) (g.addIt id R o)) := by
    refine ⟨fun _ _ _ _ h => h, fun _ _ _ _ h => h, fun c o hm hc => ?_, Nat.le_refl _⟩
    rintro (h0 | ⟨i, hd, hr, hmut⟩)
    · exact hm (.inl h0)
    · by_cases hi : i = id
      · subst hi; rw [Heap.upd_same] at hmut; exact hmut
      · have hd' : g.dom i := hd.resolve_right hi
        refine hm (.inr ⟨i, hd', by simpa [G.addIt, G.add, hi] using hr, ?_⟩)
        rw [Heap.upd_ne _ _ hi] at hmut
        simpa [G.addIt, G.add, hi] using hmut
  refine ⟨⟨I.below, I.m0, fun i => ?_, fun i k hi hk hr => ?_, fun i hd => ?_, fun i hd => ?_, fun i hd => ?_, fun n => VR.mono x y _ _ (I.glob n), I.dfr, I.lps⟩, x⟩
  · by_cases hi : i = id
    · subst hi; rw [Heap.upd_same]; exact hb x y
    · rw [Heap.upd_ne _ _ hi]
      exact BlkOk.mono x y rfl (I.blk i)
  · by_cases hi' : i = id
    · by_cases hj' : k = id
      · rw [hi', hj']
      · rw [Heap.upd_ne _ _ hj'] at hk
        exact absurd (by simpa [G.addIt, G.add, hi', hj'] using hr.symm) (hfree k hk)
    · rw [Heap.upd_ne _ _ hi'] at hi
      by_cases hj' : k = id
      · exact absurd (by simpa [G.addIt, G.add, hi', hj'] using hr) (hfree i hi)
      · rw [Heap.upd_ne _ _ hj'] at hk
        exact I.inj i k hi hk (by simpa [G.addIt, G.add, hi', hj'] using hr)
  · by_cases hi : i = id
    · simp [G.addIt, G.add, hi]; exact hRl
    · simp [G.addIt, G.add, hi]; exact I.lt i (hd.resolve_right hi)
  · rcases hd with hd | rfl
    · exact I.nxt i hd
    · exact hlt
  · have hi : i ≠ id := fun e => hd (.inr e)
    rw [Heap.upd_ne _ _ hi]
    exact I.dead i (fun h => hd (.inl h))
theorem mapOf_kill {m : V} {h : Heap} {b : Nat} {mm : V} {n : Nat} (hb : h.blk b = .mfresh mm n) {c : List D × List V} (hc : mapOf m h = some c) : mapOf m (h.upd b .dead) = some c := by
  unfold mapOf at hc ⊢
  split at hc
  · exact hc
  · exact hc
  · rename_i b2
    by_cases e : b2 = b
    · subst e; rw [hb] at hc; cases hc
    · simp only [Heap.upd_ne _ _ e]; exact hc
  · cases hc
theorem mapOf_blk {m : V} {h h2 : Heap} {c : List D × List V} (hc : mapOf m h = some c) (hh : ∀ b, m = .mref b → h2.blk b = h.blk b) : mapOf m h2 = some c := by
  unfold mapOf at hc ⊢
  split at hc
  · exact hc
  · exact hc
  · rename_i b2
    rw [hh b2 rfl]; exact hc
  · cases hc
/-- the newer ghost's book-keeping on the elder's names -/
def G.wth (g g1 : G) : G := { g with dfr := g1.dfr, lps := g1.lps }
theorem GLe.wth {g g1 : G} (y : GLe g g1) : GLe g (g.wth g1) := ⟨fun _ h => h, fun _ _ => rfl, fun _ _ => rfl, fun _ _ => rfl, fun _ _ => rfl, fun _ _ => rfl, fun _ _ => rfl, y.dfr, y.lps⟩
theorem Inv.back' {h h1 : Heap} {g1 : G} {w1 : World} (I : Inv B h g w) (I1 : Inv B h1 g1 w1) (y : GLe g g1) (x : Ext w (Mut B.M0 h g) w1 (Mut B.M0 h1 g1)) (hb : ∀ i, g.dom i → h1.blk i = h.blk i) :
    Inv B h (g.wth g1) w1 ∧ Ext w (Mut B.M0 h g) w1 (Mut B.M0 h (g.wth g1)) ∧ Ext w1 (Mut B.M0 h1 g1) w1 (Mut B.M0 h (g.wth g1)) := by
  obtain ⟨I2, x2⟩ := Inv.back I I1 y x hb
  have y2 := y.wth
  have hM : Ext w1 (Mut B.M0 h1 g1) w1 (Mut B.M0 h (g.wth g1)) := by
    refine ⟨fun _ _ _ _ h => h, fun _ _ _ _ h => h, fun b o hm _ => ?_, Nat.le_refl _⟩
    rintro (h0 | ⟨i, hd, hr, hmut⟩)
    · exact hm (.inl h0)
    · have hd' : g.dom i := hd
      have hr' : g.rho i = b := hr
      have hmut' : mutB (h.blk i) (g.ln i * g.sz i) o := hmut
      exact hm (.inr ⟨i, y.dom i hd', by rw [y.rho i hd']; exact hr', by rw [hb i hd', y.ln i hd', y.sz i hd']; exact hmut'⟩)
  refine ⟨⟨I2.below, I2.m0, fun i => BlkOk.mono (Ext.refl _ _) y2 rfl (I2.blk i), I2.inj, I2.lt, I2.nxt, I2.dead, fun n => VR.mono (Ext.refl _ _) y2 _ _ (I2.glob n), I1.dfr, I1.lps⟩, x2, hM⟩
end
end Go.AM
end
section
namespace Go.AM
open Go Go.RowKit
open Go.ChangeMaps (setBlock)
section
variable {P : Program} {C : Cfg} {callF : CallF} {B : Base} {N : Nat} {ds : Fr}

theorem St.putUnk {e : Env} {h : Heap} {g : G} {w : World} {a : Act} (s : St B N ds e h g w a) {t : Nat} (ht : e t = .unk) (v : Value) : St B N ds e h g w (a.put (some t) v) := by
  refine ⟨s.inv, fun u => ?_, by rw [(put_size _ _ _).1]; exact s.size, s.defers.mono (GLe.refl g) (put_size _ _ _).2⟩
  by_cases hu : u = t
  · subst hu; rw [ht]; trivial
  · have := s.env u
    simp only [Act.put]
    rw [Array.getD_eq_getD_getElem?] at this ⊢
    rw [Array.getElem?_setIfInBounds_ne (Ne.symm hu)]
    exact this
def seenAt (w : World) (R : Nat) : Array Nat := match w.heap[R]? with
  | some (.mapIter _ _ seen _) => seen
  | _ => #[]
def leftN (n : Nat) (seen : Array Nat) : Nat := (List.range n).countP fun j => !seen.contains j
theorem leftN_push {n j : Nat} {seen : Array Nat} (hj : j < n) (hs : seen.contains j = false) : leftN n (seen.push j) < leftN n seen := by
  unfold leftN
  have key : ∀ l : List Nat, (l.countP fun i => !(seen.push j).contains i) ≤ (l.countP fun i => !seen.contains i) ∧ (j ∈ l → (l.countP fun i => !(seen.push j).contains i) < (l.countP fun i => !seen.contains i)) := by
    intro l
    induction l with
    | nil => exact ⟨Nat.le_refl _, fun h => by cases h⟩
    | cons x l ih =>
      have e : (seen.push j).contains x = (seen.contains x || decide (x = j)) := by
        simp [Array.contains_eq_mem, Array.mem_push, Bool.decide_or]
      rw [List.countP_cons, List.countP_cons, e]
      generalize (l.countP fun i => !(seen.push j).contains i) = A at ih ⊢
      generalize (l.countP fun i => !seen.contains i) = A' at ih ⊢
      constructor
      · have := ih.1
        by_cases q : seen.contains x = true
        · simp only [q, Bool.true_or]; omega
        · simp only [Bool.not_eq_true] at q
          by_cases q2 : x = j
          · simp only [q, q2]; simp; omega
          · simp only [q, q2]; simp; omega
      · intro hm
        by_cases q2 : x = j
        · subst q2
          have := ih.1
          simp only [hs]; simp; omega
        · have := ih.2 ((List.mem_cons.1 hm).resolve_left (Ne.symm q2))
          by_cases q : seen.contains x = true
          · simp only [q, Bool.true_or]; omega
          · simp only [Bool.not_eq_true] at q
            simp only [q, q2]; simp; omega
  exact (key _).2 (List.mem_range.2 hj)

/-- the two operations that begin a round -/
theorem begin_round {L : MapLoop} (a1 : L.op0.dst = some L.nx) (a2 : L.op0.op = .next (.tmp L.it) false) (a3 : L.op0.guard = none) (b3 : L.op1.guard = none) {aa : Act} {w1 w2 : World} {p v : Value} (hit : aa.eval (.tmp L.it) = p)
    (hrun : (Instr.next p false L.op0.type).run P w1 = .ok v w2) {Q : Exit → Act → World → Prop} (h : L.op1.wpIn (Fe ds.rd) 0 P (aa.put (some L.nx) v) w2 (Q .normal) Q) :
    (Code.region L.rid #[L.op0, L.op1] false).wpIn (Fe ds.rd) 0 P Q aa w1 := by
  refine wpIn_region ?_
  have hgJ : ∀ o : Oper, o.guard = none → ∀ y, Region.wanted o y = true := fun o hg y => by simp [Region.wanted, hg]
  have hnd0 : ∀ cl, L.op0.op ≠ .defer cl := fun cl => by rw [a2]; simp
  show wpOpsIn (Fe ds.rd) 0 P #[L.op0, L.op1] Q [0, 1] aa w1
  simp only [wpOpsIn, List.getElem?_toArray, List.getElem?_cons_zero, List.getElem?_cons_succ, hgJ _ a3, hgJ _ b3, if_true]
  refine ⟨fun _ _ => trivial, ?_⟩
  rw [Oper.semAt_eq _ _ _ hnd0]
  have hexec : execOp aa.eval L.op0 = (do pure (.value (← Instr.next p false L.op0.type)) : Sem Next) := by
    simp only [execOp, a2, hit]
  rw [hexec]
  simp only [Sem.run_bind, hrun, Result.andThen_ok, Sem.run_pure]
  rw [Oper.uponIn_value, a1]
  exact h

theorem extract_step {L : MapLoop} (b1 : L.op1.dst = some L.more) (b2 : L.op1.op = .extract (.tmp L.nx) 0) {aa : Act} {w1 : World} {u : Value} {us : List Value} (hlt : L.nx < aa.tmps.size) {K : Act → World → Prop} {Q : Exit → Act → World → Prop}
    (h : K ((aa.put (some L.nx) (.tuple (u :: us).toArray)).put (some L.more) u) w1) : L.op1.wpIn (Fe ds.rd) 0 P (aa.put (some L.nx) (.tuple (u :: us).toArray)) w1 K Q := by
  have hnd : ∀ cl, L.op1.op ≠ .defer cl := fun cl => by rw [b2]; simp
  refine ⟨fun _ _ => trivial, ?_⟩
  rw [Oper.semAt_eq _ _ _ hnd]
  have hev : (aa.put (some L.nx) (.tuple (u :: us).toArray)).eval (.tmp L.nx) = .tuple (u :: us).toArray := by
    simp only [Act.eval, Act.put]
    rw [Array.getD_eq_getD_getElem?, Array.getElem?_setIfInBounds_self_of_lt hlt]; rfl
  have hexec : execOp (aa.put (some L.nx) (.tuple (u :: us).toArray)).eval L.op1 = (do pure (.value (← Instr.extract (.tuple (u :: us).toArray) 0)) : Sem Next) := by
    simp only [execOp, b2, hev]
  have hx : (Instr.extract (.tuple (u :: us).toArray) 0).run P w1 = .ok u w1 := by simp [Instr.extract]
  rw [hexec]
  simp only [Sem.run_bind, hx, Result.andThen_ok, Sem.run_pure]
  rw [Oper.uponIn_value, b1]
  exact h
theorem meetR_ex {l : List Nat} : ∀ (rs : List Res) (x : Ex) (em : Env), meetR l rs = some (some (x, em)) → ∃ r ∈ rs, ∃ e h, r = some (x, e, h) ∧ x ≠ .normal
  | [], x, em, hm => by simp [meetR] at hm
  | none :: rs, x, em, hm => by simp [meetR] at hm
  | some (.normal, e, h) :: rs, x, em, hm => by
    simp only [meetR] at hm
    obtain ⟨r, h1, h2⟩ := meetR_ex rs x em hm
    exact ⟨r, List.mem_cons_of_mem _ h1, h2⟩
  | some (.exit i, e, h) :: rs, x, em, hm => by
    simp only [meetR] at hm
    split at hm
    · simp only [Option.some.injEq, Prod.mk.injEq] at hm
      exact ⟨_, List.mem_cons_self .., e, h, by rw [← hm.1], by rw [← hm.1]; simp⟩
    · split at hm
      · simp only [Option.some.injEq, Prod.mk.injEq] at hm
        exact ⟨_, List.mem_cons_self .., e, h, by rw [← hm.1], by rw [← hm.1]; simp⟩
      · cases hm
    · cases hm
  | some (.ret, e, h) :: rs, x, em, hm => by
    simp only [meetR] at hm
    split at hm
    · simp only [Option.some.injEq, Prod.mk.injEq] at hm
      exact ⟨_, List.mem_cons_self .., e, h, by rw [← hm.1], by rw [← hm.1]; simp⟩
    · split at hm
      · simp only [Option.some.injEq, Prod.mk.injEq] at hm
        exact ⟨_, List.mem_cons_self .., e, h, by rw [← hm.1], by rw [← hm.1]; simp⟩
      · cases hm
    · cases hm
theorem mapC_sim (hC : CallOk P C.glob callF) (hA : CallApart C callF) (hB : B.glob = C.glob) {n : Nat} {f : FuncId} {c : Code} {L : MapLoop} (hL : mapLoop? c = some L) (hok : codeOk N c = true)
    (ih : ∀ (e : Env) (h : Heap) (g : G) (w : World) (a : Act) (x : Ex) (e' : Env) (h' : Heap) (Q : Exit → Act → World → Prop), St B N ds e h g w a → denC P C callF n f L.rest true e h = some (x, e', h') →
      Post B N ds h g w e' h' (Q x.toExit) → L.rest.wpIn (Fe ds.rd) 0 P Q a w)
    {e : Env} {h : Heap} {g : G} {w : World} {a : Act} (s : St B N ds e h g w a) {x : Ex} {e' : Env} {h' : Heap} {Q : Exit → Act → World → Prop}
    (hd : mapC (denC P C callF n f c true) L (dstsC c) e h = some (x, e', h')) (hp : Post B N ds h g w e' h' (Q x.toExit)) : (Code.loop c).wpIn (Fe ds.rd) 0 P Q a w := by
  obtain ⟨hcc, ⟨a1, a2, a3⟩, ⟨b1, b2, b3⟩, n1, n2, n3⟩ := mapLoop_spec hL
  have hokr : opsOk N #[L.op0, L.op1] = true := by
    rw [hcc] at hok
    simp only [codeOk, Bool.and_eq_true] at hok
    exact hok.1.1
  have hl1 : (dstsC c).contains L.nx = true := by rw [hcc]; simp [dstsC, a1, b1]
  have hl2 : (dstsC c).contains L.more = true := by rw [hcc]; simp [dstsC, a1, b1]
  have hlr : ∀ t, (dstsC c).contains t = false → (dstsC L.rest).contains t = false := fun t ht => by
    rw [hcc] at ht
    simp only [dstsC] at ht
    exact (contains_append (contains_append ht).2).2
  generalize hl : dstsC c = l at *
  unfold mapC at hd
  split at hd
  case h_2 => cases hd
  rename_i b hit
  split at hd
  case h_2 => cases hd
  rename_i m nn hbk
  split at hd
  case h_2 => cases hd
  rename_i cc hmap
  split at hd
  case isFalse => cases hd
  rename_i hlen
  obtain ⟨hlen1, hlen2, hitl⟩ := hlen
  -- what stands at the loop's begin
  have hb0 := s.inv.blk b
  rw [hbk] at hb0
  obtain ⟨hdb, hge, mo, ho, hm⟩ := hb0
  obtain ⟨I0, x0⟩ := kill s.inv b
  have hdead : (h.upd b .dead).blk b = .dead := Heap.upd_same ..
  have hfree0 : ∀ i, live ((h.upd b .dead).blk i) = true → g.rho i ≠ g.rho b := by
    intro i hi hr
    by_cases e1 : i = b
    · subst e1; rw [hdead] at hi; cases hi
    · rw [Heap.upd_ne _ _ e1] at hi
      exact e1 (s.inv.inj i b hi (by rw [hbk]; rfl) hr)
  have hmapH : mapOf m (h.upd b .dead) = some cc := mapOf_kill hbk hmap
  have hltb : b < h.next := s.inv.nxt b hdb
  have hRlt : g.rho b < w.heap.size := (Array.getElem?_eq_some_iff.1 ho).1
  -- what each entry's round says
  have hres : ∃ out : Nat → Res, (∀ j, out j = denC P C callF n f c true ((forget l e).put (some L.it) (.ref h.next 0)) ⟨((h.upd b .dead).upd h.next (.mpend m nn j)).blk, h.next + 1⟩) ∧
      ((∀ j, j < nn → ∃ e1 h1, out j = some (.normal, e1, h1)) ∧ x = .exit L.out ∧ e' = forget l e ∧ h' = h.upd b .dead ∨
       ∃ em, (∃ j, j < nn ∧ ∃ e1 h1, out j = some (x, e1, h1) ∧ x ≠ .normal) ∧ (∀ j, j < nn → MeetOk l x em (out j)) ∧ e' = (fun t => if l.contains t then em t else e t) ∧ h' = h.upd b .dead) := by
    refine ⟨_, fun j => rfl, ?_⟩
    split at hd
    · rename_i hmr
      simp only [Option.some.injEq, Prod.mk.injEq] at hd
      obtain ⟨rfl, rfl, rfl⟩ := hd
      exact .inl ⟨fun j hj => meetR_none _ hmr _ (List.mem_map.2 ⟨j, List.mem_range.2 hj, rfl⟩), rfl, rfl, rfl⟩
    · rename_i x' em hmr
      simp only [Option.some.injEq, Prod.mk.injEq] at hd
      obtain ⟨rfl, rfl, rfl⟩ := hd
      obtain ⟨r, hr1, e1, h1, hr2, hr3⟩ := meetR_ex _ _ _ hmr
      obtain ⟨j0, hj0, rfl⟩ := List.mem_map.1 hr1
      exact .inr ⟨em, ⟨j0, List.mem_range.1 hj0, e1, h1, hr2, hr3⟩, fun j hj => meetR_some _ _ _ hmr _ (List.mem_map.2 ⟨j, List.mem_range.2 hj, rfl⟩), rfl, rfl⟩
    · cases hd
  clear hd
  obtain ⟨out, hout, hres⟩ := hres
  have hh' : h' = h.upd b .dead := by rcases hres with ⟨_, _, _, q⟩ | ⟨_, _, _, _, q⟩ <;> exact q
  subst hh'
  have hext0 : ∀ {gJ : G} {w1 : World}, Ext w (Mut B.M0 (h.upd b .dead) g) w1 (Mut B.M0 (h.upd b .dead) gJ) → Ext w (Mut B.M0 h g) w1 (Mut B.M0 (h.upd b .dead) gJ) := fun q => x0.trans q
  -- the invariant
  let J : Act → World → Prop := fun a1 w1 => ∃ gJ, GLe g gJ ∧ (∀ i, gJ.dom i → g.dom i) ∧ St B N ds (forget l e) (h.upd b .dead) gJ w1 a1 ∧ Ext w (Mut B.M0 (h.upd b .dead) g) w1 (Mut B.M0 (h.upd b .dead) gJ) ∧
    w1.heap[g.rho b]? = some (.mapIter mo nn (seenAt w1 (g.rho b)) nn) ∧ ∀ j, (seenAt w1 (g.rho b)).contains j = true → ∃ e1 h1, out j = some (.normal, e1, h1)
  have hseen0 : seenAt w (g.rho b) = #[] := by simp [seenAt, ho]
  refine wpIn_loop J (fun _ w1 => leftN nn (seenAt w1 (g.rho b))) ?_ ?_
  · refine ⟨g, GLe.refl g, fun _ h => h, ⟨I0, fun t => ?_, s.size, s.defers⟩, Ext.refl _ _, by rw [hseen0]; exact ho, fun j hj => by rw [hseen0] at hj; simp at hj⟩
    simp only [forget]
    split
    · trivial
    · exact VR.mono x0 (GLe.refl g) _ _ (s.env t)
  rintro aa w1 ⟨gJ, yJ, dJ, sJ, xJ, hoJ, hsJ⟩
  obtain ⟨seen, hseen⟩ : ∃ seen, seen = seenAt w1 (g.rho b) := ⟨_, rfl⟩
  rw [← hseen] at hoJ hsJ
  rw [hcc]
  refine wpIn_seq ?_
  have hitJ : aa.eval (.tmp L.it) = .pointer (some ⟨g.rho b, 0, none⟩) := by
    have := sJ.env L.it
    simp only [forget, hitl, Bool.false_eq_true, if_false, hit] at this
    rw [← yJ.rho b hdb]; exact this.2
  have hmJ : VR w1 (Mut B.M0 (h.upd b .dead) gJ) gJ m (.map mo) := VR.mono (x0.trans xJ) yJ _ _ hm
  have nodom : ¬ gJ.dom h.next := fun hx => by have := s.inv.nxt _ (dJ _ hx); omega
  have nodom1 : ¬ gJ.dom (h.next + 1) := fun hx => by have := s.inv.nxt _ (dJ _ hx); omega
  generalize hQ1 : (Exit.then (fun a' w' => J a' w' ∧ leftN nn (seenAt w' (g.rho b)) < leftN nn (seenAt w1 (g.rho b))) Q) = Q1
  -- the map is at its end
  have over : (∀ j, j < nn → seen.contains j = true) → (Instr.next (.pointer (some ⟨g.rho b, 0, none⟩)) false L.op0.type).run P w1 = .ok (.tuple #[.bool false]) w1 →
      (Code.region L.rid #[L.op0, L.op1] false).wpIn (Fe ds.rd) 0 P (Exit.then ((Code.seq (.cond (.tmp L.more) .skip (.exit L.out)) L.rest).wpIn (Fe ds.rd) 0 P Q1) Q1) aa w1 := by
    intro hall hrun
    refine begin_round (ds := ds) a1 a2 a3 b3 hitJ hrun ?_
    refine extract_step (ds := ds) b1 b2 (by rw [sJ.size]; exact opsOk_spec hokr (i := 0) (o := L.op0) rfl a1) (u := .bool false) (us := []) ?_
    have s2 : St B N ds (forget l e) (h.upd b .dead) gJ w1 ((aa.put (some L.nx) (.tuple #[.bool false])).put (some L.more) (.bool false)) :=
      (sJ.putUnk (t := L.nx) (by simp only [forget, hl1, if_true]) _).putUnk (t := L.more) (by simp only [forget, hl2, if_true]) _
    have hmore : L.more < aa.tmps.size := by rw [sJ.size]; exact opsOk_spec hokr (i := 1) (o := L.op1) rfl b1
    have hev : ((aa.put (some L.nx) (.tuple #[.bool false])).put (some L.more) (.bool false)).eval (.tmp L.more) = .bool false := by
      simp only [Act.eval, Act.put]
      rw [Array.getD_eq_getD_getElem?, Array.getElem?_setIfInBounds_self_of_lt (by simpa using hmore)]; rfl
    show (Code.seq (.cond (.tmp L.more) .skip (.exit L.out)) L.rest).wpIn (Fe ds.rd) 0 P Q1 _ w1
    refine wpIn_seq (wpIn_cond_false hev (wpIn_exit ?_))
    show Q1 (.exit L.out) _ w1
    rw [← hQ1]
    show Q (.exit L.out) _ w1
    rcases hres with ⟨q1, rfl, rfl, _⟩ | ⟨em, ⟨j0, hj0, e1, h1, q1, q2⟩, _, _, _⟩
    · exact hp _ w1 gJ s2 (x0.trans xJ) yJ (fun i hi => .inl (dJ i hi)) (Nat.le_refl _)
    · obtain ⟨e2, h2, q3⟩ := hsJ j0 (hall j0 hj0)
      rw [q1] at q3
      simp only [Option.some.injEq, Prod.mk.injEq] at q3
      exact absurd q3.1 q2
  obtain ⟨mo', hmo', hcase⟩ := mapOf_sim sJ.inv hmJ hmapH
  cases hmo'
  rcases hcase with ⟨rfl, rfl⟩ | ⟨r, es, ck, rfl, hr, hbn, hks, hvs⟩
  · refine over (fun j hj => ?_) ?_
    · simp at hlen1; omega
    · simp only [Instr.next, getObj, Sem.run_bind, Sem.run, hoJ, Result.andThen]
      rfl
  have hck : ck = nn := by rw [hbn.1, ← hlen1]; have := RDL.length hks; simpa using this
  have hesn : es.size = nn := by rw [← hck, hbn.1]
  have hold : ∀ y ∈ es.toList, y.born < nn := by
    intro y hy
    have : y.born ∈ es.toList.map MapEntry.born := List.mem_map.2 ⟨y, hy, rfl⟩
    rw [hbn.2] at this
    have := List.mem_range.1 this
    omega
  rcases run_next_at (P := P) w1 L.op0.type (g.rho b) r nn nn seen es ck hoJ hr hold (Nat.le_refl _) with ⟨hz, hrun⟩ | ⟨e0, he0, w2, hw2, hrun⟩
  · refine over (fun j hj => ?_) hrun
    cases hsj : seen.contains j with
    | true => rfl
    | false =>
      exfalso
      have hej : es[j]? = some es[j] := Array.getElem?_eq_getElem (by omega)
      obtain ⟨q1, q2⟩ := born_at hbn hej
      have : es[j] ∈ leftOf es seen := by
        unfold leftOf
        rw [Array.mem_filter]
        exact ⟨by simp, by rw [q1, hsj]; rfl⟩
      have h0 : leftOf es seen = #[] := Array.eq_empty_of_size_eq_zero hz
      rw [h0] at this
      simp at this
  -- one entry
  obtain ⟨j, hj⟩ : ∃ j, j = e0.born := ⟨_, rfl⟩
  have hmem : e0 ∈ es ∧ seen.contains j = false := by
    unfold leftOf at he0
    have := Array.mem_filter.1 (by simpa using he0 : e0 ∈ Array.filter (fun e => !seen.contains e.born) es)
    exact ⟨this.1, by rw [hj]; simpa using this.2⟩
  obtain ⟨hme, hns⟩ := hmem
  have hjn : j < nn := by rw [hj]; exact hold e0 (by simpa using hme)
  have hej : es[j]? = some e0 := by
    obtain ⟨i, hi, hie⟩ := Array.mem_iff_getElem.1 hme
    have h1 : es[i]? = some e0 := by rw [Array.getElem?_eq_getElem hi, hie]
    have := (born_at hbn h1).1
    rw [hj, this]; exact h1
  rw [← hj, hck] at hrun
  obtain ⟨W2, hW2⟩ : ∃ W2, W2 = setBlock w2 (g.rho b) (.mapIter (some r) nn (seen.push j) nn) := ⟨_, rfl⟩
  rw [← hW2] at hrun
  have hR1 : g.rho b < w1.heap.size := (Array.getElem?_eq_some_iff.1 hoJ).1
  have hh2 : w2.heap = w1.heap ∧ w2.os = w1.os ∧ w2.tape = w1.tape ∧ w2.output = w1.output := by rcases hw2 with rfl | rfl <;> exact ⟨rfl, rfl, rfl, rfl⟩
  have hother : ∀ k, k ≠ g.rho b → W2.heap[k]? = w1.heap[k]? := fun k hk => by
    rw [hW2]; simp only [setBlock, hh2.1]; exact Array.getElem?_setIfInBounds_ne (Ne.symm hk)
  have hoW : W2.heap[g.rho b]? = some (.mapIter (some r) nn (seen.push j) nn) := by
    rw [hW2]; simp only [setBlock, hh2.1]; exact Array.getElem?_setIfInBounds_self_of_lt hR1
  have hsW : W2.heap.size = w1.heap.size := by rw [hW2]; simp [setBlock, hh2.1]
  have hfreeJ : ∀ i, live ((h.upd b .dead).blk i) = true → gJ.rho i ≠ g.rho b := fun i hi => by
    have hd := live_dom I0 hi
    rw [yJ.rho i hd]; exact hfree0 i hi
  obtain ⟨IW, xW⟩ := sJ.inv.free (R := g.rho b) hge hoJ hfreeJ hother hsW (by rw [hW2]; exact hh2.2.1) (by rw [hW2]; exact hh2.2.2.1) (by rw [hW2]; exact hh2.2.2.2)
  obtain ⟨hh, hhd⟩ : ∃ hh : Heap, hh = ⟨((h.upd b .dead).upd h.next (.mpend m nn j)).blk, h.next + 1⟩ := ⟨_, rfl⟩
  have houtj := hout j
  rw [← hhd] at houtj
  -- what the machine's round says
  obtain ⟨xj, ej, hj2, hrunj⟩ : ∃ xj ej hj2, out j = some (xj, ej, hj2) := by
    rcases hres with ⟨q, _⟩ | ⟨em, _, q, _⟩
    · obtain ⟨e1, h1, q1⟩ := q j hjn; exact ⟨_, e1, h1, q1⟩
    · rcases q j hjn with ⟨e1, h1, q1⟩ | ⟨e1, h1, q1, _⟩ <;> exact ⟨_, e1, h1, q1⟩
  rw [houtj] at hrunj
  have hbn2 : hh.blk h.next = .mpend m nn j := by rw [hhd]; exact Heap.upd_same ..
  obtain ⟨kv, hat, hrest⟩ := mapRun hL hrunj (b := h.next) (m := m) (nn := nn) (j := j) (by simp [Env.put]) hbn2
  have hmref : ∀ b2, m = .mref b2 → b2 ≠ h.next := by
    rintro b2 rfl rfl
    have := (hm : g.dom h.next ∧ _).1
    have := s.inv.nxt _ this
    omega
  have hatJ : atV m nn j (h.upd b .dead) = some kv := by
    have q1 : mapOf m ⟨hh.blk, hh.next + 2⟩ = some cc := mapOf_blk hmapH (fun b2 hb2 => by
      rw [hhd]; exact Heap.upd_ne _ _ (hmref b2 hb2))
    unfold atV at hat ⊢
    rw [q1] at hat
    rw [hmapH]; exact hat
  obtain ⟨es', ck', e0', hr', _, _, hej', hk', hv'⟩ := atV_sim (k := kv.1) (v := kv.2) sJ.inv hmJ hatJ
  rw [hr] at hr'
  simp only [Option.some.injEq, Obj.map.injEq] at hr'
  obtain ⟨rfl, rfl⟩ := hr'
  rw [hej] at hej'
  simp only [Option.some.injEq] at hej'
  subst hej'
  -- the state behind the two operations
  obtain ⟨obj, hobj⟩ : ∃ obj : Obj, obj = .mapIter (some r) nn (seen.push j) nn := ⟨_, rfl⟩
  obtain ⟨g2, hg2⟩ : ∃ g2, g2 = gJ.addIt h.next (g.rho b) obj := ⟨_, rfl⟩
  have y2 : GLe gJ g2 := by rw [hg2]; exact GLe.addIt nodom _ _
  obtain ⟨I2, x2⟩ := (IW.bump 3).name (id := h.next) nodom (by show h.next < h.next + 3; omega) (R := g.rho b) hge (by rw [hsW]; exact hR1) hfreeJ m nn j obj (fun ex yy => by
    refine ⟨.inr rfl, by simp [G.addIt, G.add]; exact hge, r, nn, seen.push j, ?_, by simp, ?_, VR.mono (xW.trans ex) yy _ _ hmJ⟩
    · simp only [G.addIt, G.add, if_true]; exact hoW
    · simp only [G.addIt, if_true]; exact hobj)
  rw [← hg2] at I2 x2
  obtain ⟨H2, hH2⟩ : ∃ H2 : Heap, H2 = ⟨(hh.upd h.next (.mcur m nn j)).blk, hh.next + 2⟩ := ⟨_, rfl⟩
  have hH2' : (⟨(h.upd b .dead).blk, (h.upd b .dead).next + 3⟩ : Heap).upd h.next (.mcur m nn j) = H2 := by
    rw [hH2, hhd]
    simp only [Heap.upd, Heap.mk.injEq]
    refine ⟨?_, trivial⟩
    funext k
    by_cases hk : k = h.next <;> simp [hk]
  rw [hH2'] at I2 x2
  rw [← hH2] at hrest
  have x12 : Ext w1 (Mut B.M0 (h.upd b .dead) gJ) W2 (Mut B.M0 H2 g2) := xW.trans x2
  have hnxs : L.nx < aa.tmps.size := by rw [sJ.size]; exact opsOk_spec hokr (i := 0) (o := L.op0) rfl a1
  have hmos : L.more < aa.tmps.size := by rw [sJ.size]; exact opsOk_spec hokr (i := 1) (o := L.op1) rfl b1
  have hits : VR W2 (Mut B.M0 H2 g2) g2 (.ref h.next 0) (aa.tmps.getD L.it undef) := by
    have q1 : aa.tmps.getD L.it undef = .pointer (some ⟨g.rho b, 0, none⟩) := hitJ
    rw [q1, hg2]
    exact ⟨.inr rfl, by simp [G.addIt, G.add]⟩
  have env1 : ∀ t, VR W2 (Mut B.M0 H2 g2) g2 (((forget l e).put (some L.it) (.ref h.next 0)) t) (aa.tmps.getD t undef) := by
    intro t
    by_cases ht : t = L.it
    · subst ht; simp only [Env.put, if_true]; exact hits
    · simp only [Env.put, if_neg ht]; exact VR.mono x12 y2 _ _ (sJ.env t)
  have tup : VR W2 (Mut B.M0 H2 g2) g2 (mkTuple [.d (.bool true), .d kv.1, kv.2]) (.tuple [Value.bool true, e0.key, e0.val].toArray) :=
    VR_mkTuple ⟨_, _, rfl, rfl, _, _, rfl, RD.mono x12 _ _ hk', _, _, rfl, VR.mono x12 y2 _ _ hv', rfl⟩
  have env2 := put_env env1 (d := some L.nx) (fun q hq => by cases hq; exact hnxs) tup
  have env3 := put_env env2 (d := some L.more) (v := .d (.bool true)) (v' := .bool true) (fun q hq => by cases hq; rw [(put_size _ _ _).1]; exact hmos) rfl
  have s2 : St B N ds ((((forget l e).put (some L.it) (.ref h.next 0)).put (some L.nx) (mkTuple [.d (.bool true), .d kv.1, kv.2])).put (some L.more) (.d (.bool true))) H2 g2 W2
      ((aa.put (some L.nx) (.tuple [Value.bool true, e0.key, e0.val].toArray)).put (some L.more) (.bool true)) :=
    ⟨I2, env3, by rw [(put_size _ _ _).1, (put_size _ _ _).1]; exact sJ.size, sJ.defers.mono y2 (by rw [(put_size _ _ _).2, (put_size _ _ _).2])⟩
  refine begin_round (ds := ds) a1 a2 a3 b3 hitJ hrun (extract_step (ds := ds) b1 b2 hnxs (u := .bool true) (us := [e0.key, e0.val]) ?_)
  have hev : ((aa.put (some L.nx) (.tuple [Value.bool true, e0.key, e0.val].toArray)).put (some L.more) (.bool true)).eval (.tmp L.more) = .bool true := by
    simp only [Act.eval, Act.put]
    rw [Array.getD_eq_getD_getElem?, Array.getElem?_setIfInBounds_self_of_lt (by simpa using hmos)]; rfl
  show (Code.seq (.cond (.tmp L.more) .skip (.exit L.out)) L.rest).wpIn (Fe ds.rd) 0 P Q1 _ W2
  refine wpIn_seq (wpIn_cond_true hev (wpIn_skip ?_))
  show L.rest.wpIn (Fe ds.rd) 0 P Q1 _ W2
  refine ih _ H2 g2 W2 _ xj ej hj2 Q1 s2 hrest ?_
  intro a3 w3 g3 s3 x3 y3 d3 n3
  obtain ⟨ro1, ro2⟩ := den_ro hA n f _ _ _ _ _ _ hrest
  have hblk : ∀ i, i ≠ h.next → H2.blk i = (h.upd b .dead).blk i := fun i hi => by rw [← hH2']; exact Heap.upd_ne _ _ hi
  have hcurb : H2.blk h.next = .mcur m nn j := by rw [← hH2']; exact Heap.upd_same ..
  have hsame : ∀ i, gJ.dom i → hj2.blk i = (h.upd b .dead).blk i := by
    intro i hi
    have hin : i ≠ h.next := fun q => nodom (q ▸ hi)
    rw [ro1 i ?_, hblk i hin]
    intro m' n' j' hq
    rw [hblk i hin] at hq
    have := IW.blk i
    rw [hq] at this
    exact this
  obtain ⟨I4, x4, hM⟩ := Inv.back' IW s3.inv (y2.trans y3) (x2.trans x3) hsame
  have hcur3 : w3.heap[g.rho b]? = some (.mapIter (some r) nn (seen.push j) nn) := by
    have q1 := s3.inv.blk h.next
    rw [ro1 h.next (by rw [hcurb]; intro _ _ _ hq; cases hq), hcurb] at q1
    have hd2 : g2.dom h.next := by rw [hg2]; exact .inr rfl
    have hrho : g3.rho h.next = g.rho b := by rw [y3.rho _ hd2, hg2]; simp [G.addIt, G.add]
    have hit3 : g3.it h.next = obj := by rw [y3.it _ hd2, hg2]; simp [G.addIt]
    obtain ⟨_, _, r', since', seen', q2, _, q3, _⟩ := q1
    rw [hrho] at q2
    rw [q2, ← q3, hit3, hobj]
  have yw : GLe gJ (gJ.wth g3) := (y2.trans y3).wth
  have env4 : ∀ t, l.contains t = false → VR w3 (Mut B.M0 (h.upd b .dead) (gJ.wth g3)) (gJ.wth g3) (e t) (a3.tmps.getD t undef) := by
    intro t ht
    have hkeep := den_keep n f _ _ _ _ _ _ _ (hlr t ht) hrest
    have q := s3.env t
    rw [hkeep] at q
    have t1 : t ≠ L.nx := fun h1 => by rw [h1, hl1] at ht; cases ht
    have t2 : t ≠ L.more := fun h1 => by rw [h1, hl2] at ht; cases ht
    simp only [Env.put, if_neg t1, if_neg t2] at q
    by_cases ti : t = L.it
    · subst ti
      simp only [if_true] at q
      rw [hit]
      have hd2 : g2.dom h.next := by rw [hg2]; exact .inr rfl
      refine ⟨yJ.dom b hdb, q.2.trans ?_⟩
      have e1 : g3.rho h.next = g.rho b := by rw [y3.rho _ hd2, hg2]; simp [G.addIt, G.add]
      have e2 : (gJ.wth g3).rho b = g.rho b := yJ.rho b hdb
      rw [e1, e2]
    · simp only [if_neg ti] at q
      have hf : forget l e t = e t := by simp only [forget, ht, Bool.false_eq_true, if_false]
      rw [hf] at q
      have q0 := sJ.env t
      rw [hf] at q0
      exact VR.mono hM yw _ _ (VR.back (y2.trans y3) _ _ _ q0 q)
  have hdef : DefOk ds (gJ.wth g3) a3 := s3.defers
  have hseen3 : seenAt w3 (g.rho b) = seen.push j := by simp [seenAt, hcur3]
  have xall : Ext w (Mut B.M0 (h.upd b .dead) g) w3 (Mut B.M0 (h.upd b .dead) (gJ.wth g3)) := (xJ.trans xW).trans x4
  rw [← hQ1]
  rw [← houtj] at hrunj
  cases hxj : xj with
  | normal =>
    show J a3 w3 ∧ leftN nn (seenAt w3 (g.rho b)) < leftN nn (seenAt w1 (g.rho b))
    refine ⟨⟨gJ.wth g3, yJ.trans yw, fun i hi => dJ i hi, ⟨I4, fun t => ?_, s3.size, hdef⟩, xall, by rw [hseen3]; exact hcur3, fun k hk => ?_⟩, ?_⟩
    · simp only [forget]
      cases ht : l.contains t with
      | true => simp only [if_true]; trivial
      | false => simp only [Bool.false_eq_true, if_false]; exact env4 t ht
    · rw [hseen3] at hk
      by_cases hkj : k = j
      · subst hkj; rw [hxj] at hrunj; exact ⟨_, _, hrunj⟩
      · refine hsJ k ?_
        simp only [Array.contains_eq_mem, Array.mem_push, decide_eq_true_eq] at hk ⊢
        exact hk.resolve_right hkj
    · rw [hseen3, ← hseen]; exact leftN_push hjn hns
  | exit i =>
    show Q (.exit i) a3 w3
    rcases hres with ⟨q1, _⟩ | ⟨em, _, q1, rfl, _⟩
    · obtain ⟨e1, h1, q2⟩ := q1 j hjn
      rw [hrunj, hxj] at q2
      cases q2
    · rcases q1 j hjn with ⟨e1, h1, q2⟩ | ⟨e1, h1, q2, q3⟩
      · rw [hrunj, hxj] at q2; cases q2
      · rw [hrunj, hxj] at q2
        simp only [Option.some.injEq, Prod.mk.injEq] at q2
        obtain ⟨rfl, rfl, rfl⟩ := q2
        refine hp a3 w3 (gJ.wth g3) ⟨I4, fun t => ?_, s3.size, hdef⟩ (x0.trans xall) (yJ.trans yw) (fun i hi => .inl (dJ i hi)) (Nat.le_refl _)
        cases ht : l.contains t with
        | true =>
          simp only [ht, if_true]
          rcases q3 t ht with q4 | q4
          · rw [q4]; trivial
          · exact likeV_VR q4 (s3.env t)
        | false => simp only [ht, Bool.false_eq_true, if_false]; exact env4 t ht
  | ret =>
    show Q .ret a3 w3
    rcases hres with ⟨q1, _⟩ | ⟨em, _, q1, rfl, _⟩
    · obtain ⟨e1, h1, q2⟩ := q1 j hjn
      rw [hrunj, hxj] at q2
      cases q2
    · rcases q1 j hjn with ⟨e1, h1, q2⟩ | ⟨e1, h1, q2, q3⟩
      · rw [hrunj, hxj] at q2; cases q2
      · rw [hrunj, hxj] at q2
        simp only [Option.some.injEq, Prod.mk.injEq] at q2
        obtain ⟨rfl, rfl, rfl⟩ := q2
        refine hp a3 w3 (gJ.wth g3) ⟨I4, fun t => ?_, s3.size, hdef⟩ (x0.trans xall) (yJ.trans yw) (fun i hi => .inl (dJ i hi)) (Nat.le_refl _)
        cases ht : l.contains t with
        | true =>
          simp only [ht, if_true]
          rcases q3 t ht with q4 | q4
          · rw [q4]; trivial
          · exact likeV_VR q4 (s3.env t)
        | false => simp only [ht, Bool.false_eq_true, if_false]; exact env4 t ht
end
end Go.AM
end
