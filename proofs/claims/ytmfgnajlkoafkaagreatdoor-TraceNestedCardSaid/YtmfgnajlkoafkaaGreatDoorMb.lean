/- append, copy, slices put together, make, conversions. Slices put together and made; copy; conversions. Slices made; copy; conversions. Loops over strings and maps: the operations that make an iterator and step it. One operation: the machine's step is the model's. Regions that go in the order of the text; calls. What an operation looks at and touches: its step depends on no more. Regions whose order is open: whatever order the model draws, it comes to where the text's order comes. -/
import Derived.Test.YtmfgnajlkoafkaaGreatDoorMa
import Derived.Lib.ConvBytes
import Derived.Laws.AppendOwn
import Derived.Maps.RangeRun
import Derived.RangeFuncRecord
import Derived.OrdersIn
import Derived.LoopNIn
set_option linter.all false
set_option maxHeartbeats 2000000
section
namespace Go.AM
open Go Go.RowKit
section
variable {P : Program} {B : Base} {h : Heap} {g : G} {w : World} {M : Muts}

theorem RowsAt.values {rs : List (List D)} {b o sz : Nat} (hA : RowsAt w M rs b o sz) : ∃ vs, RDL w M rs.flatten vs ∧ (∀ d ∈ rs.flatten, d.scalar = true) ∧ vs.length = rs.length * sz ∧ ∀ j v, vs[j]? = some v → w.cell? ⟨b, o + j, none⟩ = some v := by
  obtain ⟨h1, h2⟩ := RowsAt.iff.1 hA
  obtain ⟨vs, h3, h4⟩ := At.values h2
  exact ⟨vs, h3, At.scalars h2, by rw [RDL.length h3, flatten_length h1], h4⟩
/-- what is appended: its cells in memory -/
theorem news_sim (I : Inv B h g w) {sz : Nat} {x : V} {xv : Value} {ys : List (List D)} (hx : VR w (Mut B.M0 h g) g x xv) (hn : newsOf sz x h = some ys) (hh : headLen sz ys = true) :
    ∃ a c, xv = .slice a ys.length c ∧ (∀ r ∈ ys, r.length = sz) ∧ (ys ≠ [] → ∃ b o news, a = some ⟨b, o, none⟩ ∧ RDL w (Mut B.M0 h g) ys.flatten news ∧ (∀ d ∈ ys.flatten, d.scalar = true) ∧
      ∀ j v, news[j]? = some v → w.cell? ⟨b, o + j, none⟩ = some v) := by
  unfold newsOf at hn
  split at hn
  · rename_i b off len s
    split at hn
    · rename_i hc
      obtain ⟨rfl, hpos⟩ := hc
      obtain ⟨hd, cap, rfl, hcap⟩ := hx
      have hbk := I.blk b
      cases hb : h.blk b with
      | cells us =>
        rw [hb] at hn hbk
        simp only at hn
        obtain ⟨_, _, hus, cur, e, hcur, hle, hvr⟩ := hbk
        split at hn
        · rename_i hlen
          cases hds : allD ((us.drop off).take (len * s)) with
          | none => rw [hds] at hn; cases hn
          | some ds =>
            rw [hds] at hn
            simp only [Option.map_some, Option.some.injEq] at hn; subst hn
            have hv := VRL.take (len * s) (VRL.drop off hvr)
            have hr := allD_sim hv hds
            have hsc := allD_scalar (by
              simp only [List.all_eq_true] at hus ⊢
              exact fun y hy => hus y (List.mem_of_mem_drop (List.mem_of_mem_take hy))) hds
            have hl : ds.length = len * s := by
              rw [← RDL.length hr, VRL.length hv]; simp; omega
            obtain ⟨h1, h2, h3⟩ := chunk_spec s len ds hl
            refine ⟨_, cap, by rw [h1], h2, fun _ => ⟨g.rho b, off, _, rfl, by rw [h3]; exact hr, by rw [h3]; exact hsc, fun j v hj => ?_⟩⟩
            rw [cell_of_row w _ _ cur e (0, 0) hcur]
            rw [List.getElem?_take] at hj
            split at hj
            · rw [List.getElem?_drop, List.getElem?_take] at hj
              split at hj
              · simpa using hj
              · cases hj
            · cases hj
        · cases hn
      | _ => rw [hb] at hn; simp at hn
    · cases hn
  · obtain ⟨a, c, e, hc, hA⟩ := rowsOf_sim hx hn
    refine ⟨a, c, e, ?_, fun hne => ?_⟩
    · cases ys with
      | nil => intro r hr; cases hr
      | cons y ys =>
        obtain ⟨b, o, s, _, hR⟩ := hA (by simp)
        have := RowsAt.head hR hh (by simp)
        subst this
        exact (RowsAt.iff.1 hR).1
    · obtain ⟨b, o, s, rfl, hR⟩ := hA hne
      obtain ⟨vs, h1, h2, _, h4⟩ := RowsAt.values hR
      exact ⟨b, o, vs, rfl, h1, h2, h4⟩

theorem room_step (I : Inv B h g w) {t id : Nat} (hid : ¬ g.dom id) (hlt : id < h.next) {e : TypeId} {sz : Nat} (hb : h.blk t = .tok e sz) {rows ys : List (List D)} {news : List Value} {cur : Array Value}
    (hd : g.dom t) (hrows : RowsAt w (Mut B.M0 h g) rows (g.rho t) 0 (g.sz t)) (hln : g.ln t = rows.length) (hl : ∀ r ∈ ys, r.length = sz) (hr : RDL w (Mut B.M0 h g) ys.flatten news) (hs : ∀ d ∈ ys.flatten, d.scalar = true)
    (hcur : w.heap[g.rho t]? = some (.cells cur e (0, 0))) (hsize : cur.size = g.cap t * sz) (hmax : g.cap t ≤ maxLen) (hszt : g.sz t = sz) (hsz : 0 < sz) (hroom : rows.length + ys.length ≤ g.cap t) :
    Ok B h g w id (.own id (rows ++ ys)) ((h.upd t .dead).upd id (.tok e sz)) (.slice (some ⟨g.rho t, 0, none⟩) (rows.length + ys.length) (g.cap t))
      (w.setRow (g.rho t) (cur.toList.take (rows.length * sz) ++ news ++ cur.toList.drop (rows.length * sz + news.length)).toArray) := by
  have hne : ∀ b, g.dom b → b ≠ id := fun b hb' e' => hid (e' ▸ hb')
  have htid : t ≠ id := hne t hd
  have hnl : news.length = ys.length * sz := by rw [RDL.length hr, flatten_length hl]
  have y := GLe.add hid (g.rho t) (g.cap t) (rows.length + ys.length) sz e
  have hlv : live (h.blk t) = true := by rw [hb]; rfl
  have hge := rho_ge I hlv
  have hMt : ∀ o, rows.length * sz ≤ o → Mut B.M0 h g (g.rho t) o := fun o ho => .inr ⟨t, hd, rfl, by rw [hb]; simp only [mutB]; rw [hln, hszt]; exact ho⟩
  have hup : ∀ i, i ≠ id → i ≠ t → ((h.upd t .dead).upd id (.tok e sz)).blk i = h.blk i := fun i h1 h2 => by rw [Heap.upd_ne _ _ h1, Heap.upd_ne _ _ h2]
  have x : Ext w (Mut B.M0 h g) (w.setRow (g.rho t) (cur.toList.take (rows.length * sz) ++ news ++ cur.toList.drop (rows.length * sz + news.length)).toArray)
      (Mut B.M0 ((h.upd t .dead).upd id (.tok e sz)) (g.add id (g.rho t) (g.cap t) (rows.length + ys.length) sz e)) := by
    refine ⟨fun c o v hm hv => ?_, fun r es c hm hrr => ?_, fun c o hm hc => ?_, by simp⟩
    · by_cases hc : c = g.rho t
      · subst hc
        have ho : o < rows.length * sz := by
          rcases Nat.lt_or_ge o (rows.length * sz) with h' | h'
          · exact h'
          · exact absurd (hMt o h') hm
        rw [cell_of_row _ _ _ _ e (0, 0) (setRow_heap w _ cur _ e _ hcur)]
        rw [cell_of_row w _ _ cur e (0, 0) hcur] at hv
        have hoc : o < cur.size := by
          have := (Array.getElem?_eq_some_iff.1 hv).1; exact this
        rw [List.append_assoc]
        simp only [List.getElem?_toArray]
        rw [List.getElem?_append_left (by simp; omega), List.getElem?_take, if_pos ho]
        simpa using hv
      · rw [World.cell?_of_block (w := w) (setRow_other w _ c _ hc)]; exact hv
    · have hc : r ≠ g.rho t := by rintro rfl; rw [hcur] at hrr; cases hrr
      rw [setRow_other w _ r _ hc]; exact hrr
    · rintro (h0 | ⟨i, hdi, hri, hmut⟩)
      · exact hm (.inl h0)
      · by_cases hi : i = id
        · subst hi
          rw [Heap.upd_same] at hmut
          simp only [G.add, if_true, mutB] at hmut hri
          subst hri
          refine hm (hMt o (Nat.le_trans ?_ hmut))
          rw [Nat.add_mul]; omega
        · have hd' : g.dom i := hdi.resolve_right hi
          simp only [G.add, if_neg hi] at hri hmut
          by_cases hit : i = t
          · subst hit; rw [Heap.upd_ne _ _ hi, Heap.upd_same] at hmut; exact hmut
          · rw [hup i hi hit] at hmut
            exact hm (.inr ⟨i, hd', hri, hmut⟩)
  have lv : ∀ i, i ≠ id → live (((h.upd t .dead).upd id (.tok e sz)).blk i) = true → live (h.blk i) = true ∧ i ≠ t := fun i h1 h2 => by
    rw [Heap.upd_ne _ _ h1] at h2
    by_cases e' : i = t
    · subst e'; rw [Heap.upd_same] at h2; simp [live] at h2
    · rw [Heap.upd_ne _ _ e'] at h2; exact ⟨h2, e'⟩
  refine ⟨g.add id (g.rho t) (g.cap t) (rows.length + ys.length) sz e, ⟨?_, I.m0, fun i => ?_, fun i j hi hj hrr => ?_, fun i hdi => ?_, fun i hdi => ?_, fun i hdi => ?_, fun n => VR.mono x y _ _ (I.glob n), fun d hd => ?_, fun l hlq => ?_⟩,
    ⟨.inr rfl, by simp [G.add], by simp [G.add]; exact hroom, by simp [G.add], ?_⟩, x, y, fun b hb' => hb', rfl⟩
  · exact ⟨I.below.os, I.below.tape, I.below.output, by simp; exact I.below.size, fun k hk => (setRow_other w _ k _ (by omega)).trans (I.below.block k hk)⟩
  · by_cases hi : i = id
    · subst hi
      rw [Heap.upd_same]
      refine ⟨.inr rfl, by simp [G.add]; exact hge, _, by simp only [G.add, if_true]; exact setRow_heap w _ cur _ e _ hcur, by simp [G.add]; exact hroom, by simp [G.add]; exact hmax, ?_, hsz, by simp [G.add]⟩
      simp only [G.add, if_true, List.size_toArray]
      have hb1 : rows.length * sz + news.length ≤ cur.size := by rw [hnl, hsize, ← Nat.add_mul]; exact Nat.mul_le_mul_right _ hroom
      simp only [List.length_append, List.length_take, List.length_drop, Array.length_toList]
      omega
    · by_cases hit : i = t
      · subst hit; rw [Heap.upd_ne _ _ hi, Heap.upd_same]; trivial
      · rw [hup i hi hit]
        cases hli : live (h.blk i)
        · exact BlkOk.idle hli
        · exact BlkOk.mono x y (setRow_other w _ _ _ (fun e' => hit (I.inj i t hli hlv e'))) (I.blk i)
  · by_cases hi' : i = id
    · by_cases hj' : j = id
      · rw [hi', hj']
      · obtain ⟨h1, h2⟩ := lv j hj' hj
        simp [G.add, hi', hj'] at hrr
        exact absurd (I.inj t j hlv h1 hrr).symm h2
    · obtain ⟨h1, h2⟩ := lv i hi' hi
      by_cases hj' : j = id
      · simp [G.add, hi', hj'] at hrr
        exact absurd (I.inj i t h1 hlv hrr) h2
      · obtain ⟨h3, _⟩ := lv j hj' hj
        exact I.inj i j h1 h3 (by simpa [G.add, hi', hj'] using hrr)
  · simp only [size_setRow]
    by_cases hi : i = id
    · simp [G.add, hi]; exact I.lt t hd
    · simp [G.add, hi]; exact I.lt i (hdi.resolve_right hi)
  · rcases hdi with hdi | rfl
    · exact I.nxt i hdi
    · exact hlt
  · have hi : i ≠ id := fun e' => hdi (.inr e')
    have hdi' : ¬ g.dom i := fun h' => hdi (.inl h')
    rw [hup i hi (fun e' => hdi' (e' ▸ hd))]
    exact I.dead i hdi'
  · obtain ⟨q1, q2⟩ := I.dfr d hd
    exact ⟨q1, (setRow_other w _ d _ (fun e' => by rw [e', hcur] at q2; cases q2)).trans q2⟩
  · obtain ⟨q1, r, q2⟩ := I.lps l hlq
    exact ⟨q1, r, (setRow_other w _ l _ (fun e' => by rw [e', hcur] at q2; cases q2)).trans q2⟩
  · simp only [G.add, if_true]
    rw [RowsAt.iff]
    obtain ⟨h1, h2⟩ := RowsAt.iff.1 (RowsAt.mono x _ _ _ _ hrows)
    rw [hszt] at h1
    refine ⟨fun r hr' => ?_, ?_⟩
    · rcases List.mem_append.1 hr' with h' | h'
      · exact h1 r h'
      · exact hl r h'
    · rw [List.flatten_append, At.append]
      refine ⟨h2, ?_⟩
      rw [Nat.zero_add, flatten_length h1]
      refine At.of (RDL.mono x _ _ hr) hs (fun j v hj => ?_) (fun j hj => ?_)
      · rw [cell_of_row _ _ _ _ e (0, 0) (setRow_heap w _ cur _ e _ hcur)]
        simp only [List.getElem?_toArray]
        have hj2 : j < news.length := (List.getElem?_eq_some_iff.1 hj).1
        have hb1 : rows.length * sz + news.length ≤ cur.size := by rw [hnl, hsize, ← Nat.add_mul]; exact Nat.mul_le_mul_right _ hroom
        have hlt2 : (cur.toList.take (rows.length * sz)).length = rows.length * sz := by simp; omega
        rw [List.append_assoc, List.getElem?_append_right (by omega), hlt2, show rows.length * sz + j - rows.length * sz = j from by omega, List.getElem?_append_left hj2]
        exact hj
      · rintro (h0 | ⟨i, hdi, hri, hmut⟩)
        · have := I.m0 _ _ h0; omega
        · rw [flatten_length hl] at hj
          by_cases hi : i = id
          · subst hi
            rw [Heap.upd_same] at hmut
            simp only [G.add, if_true, mutB] at hmut
            rw [Nat.add_mul] at hmut; omega
          · have hd' : g.dom i := hdi.resolve_right hi
            simp only [G.add, if_neg hi] at hri hmut
            by_cases hit : i = t
            · subst hit; rw [Heap.upd_ne _ _ hi, Heap.upd_same] at hmut; exact hmut
            · rw [hup i hi hit] at hmut
              have hli : live (h.blk i) = true := by
                cases hbi : h.blk i <;> first | rfl | (rw [hbi] at hmut; exact hmut.elim)
              exact hit (I.inj i t hli hlv hri)

theorem isSlice_sim {s : V} {sv : Value} (hx : VR w M g s sv) (hs : isSliceV s = true) : ∃ a len cap, sv = .slice a len cap ∧ len ≤ cap := by
  cases s with
  | d y =>
    cases y with
    | list rows => obtain ⟨a, c, e, h1, _⟩ := hx; exact ⟨_, _, _, e, h1⟩
    | _ => simp [isSliceV] at hs
  | nils => have e : sv = .slice none 0 0 := hx; exact ⟨_, _, _, e, Nat.le_refl _⟩
  | own t rows => obtain ⟨_, e, h1, _⟩ := hx; exact ⟨_, _, _, e, h1⟩
  | sref b off len sz => obtain ⟨_, c, e, h1⟩ := hx; exact ⟨_, _, _, e, h1⟩
  | _ => simp [isSliceV] at hs
theorem run_append_none {t ty e : TypeId} {i : TypeInfo} (ht : P.underlying t = some (.slice e)) (hi : P.info? e = some i) (a a' : Option Addr) (len cap c : Nat) (hle : len ≤ cap) :
    (Builtin.append_ #[t, t] ty #[.slice a len cap, .slice a' 0 c]).run P w = .ok (.slice a len cap) w := by
  cases a' with
  | none =>
    cases a <;> simp [Builtin.append_, run_underlying ht, sizeOf, typeInfo, hi, Builtin.lenOf, hle, Builtin.firstCells, storeCells]
  | some x =>
    cases a <;> simp [Builtin.append_, run_underlying ht, sizeOf, typeInfo, hi, Builtin.lenOf, hle, Builtin.firstCells, storeCells, loadCells, loadCellsFrom]
theorem append_sim (I : Inv B h g w) {t ty : TypeId} {id : Nat} (hid : ¬ g.dom id) (hlt : id < h.next) {s x v : V} {sv xv : Value} {h' : Heap} (hs : VR w (Mut B.M0 h g) g s sv) (hx : VR w (Mut B.M0 h g) g x xv)
    (hv : appendV P t s x id h = some (v, h')) : ∃ v' w', (Builtin.append_ #[t, t] ty #[sv, xv]).run P w = .ok v' w' ∧ Ok B h g w id v h' v' w' := by
  unfold appendV at hv
  split at hv
  · rename_i e ht
    split at hv
    · rename_i sz by_ z hsz hby hz
      obtain ⟨i, hi, hisz⟩ := sizeT_spec hsz
      have hiby : i.bytes = by_ := by
        unfold bytesT at hby; rw [hi] at hby; simpa using hby
      split at hv
      · rename_i hn
        split at hv
        · rename_i hss
          simp only [Option.some.injEq, Prod.mk.injEq] at hv
          obtain ⟨rfl, rfl⟩ := hv
          obtain ⟨a, c, rfl, _, _⟩ := news_sim I hx hn rfl
          obtain ⟨a', len, cap, rfl, hle⟩ := isSlice_sim hs hss
          exact ⟨_, _, run_append_none ht hi a' a len cap c hle, Ok.pure I hs⟩
        · cases hv
      · rename_i ys hne hn
        split at hv
        · rename_i hc
          obtain ⟨hpos, hhl, hzl⟩ := hc
          obtain ⟨i2, zv, hi2, hzv, hzr⟩ := zeroT_spec (w := w) (M := Mut B.M0 h g) (g := g) hz
          have hi12 : i2 = i := by rw [hi] at hi2; exact (Option.some.inj hi2).symm
          subst hi12
          have hzs : zv.cells.size = sz := by
            have := VRL.length (VR_cells hzr (zeroT_scalar hz)).1
            simpa [hzl] using this
          obtain ⟨a, c, rfl, hrl, hA⟩ := news_sim I hx hn hhl
          have hysne : ys ≠ [] := fun e' => hne e'
          obtain ⟨b, o, news, rfl, hnr, hns, hnc⟩ := hA hysne
          have hnl : news.length = ys.length * i2.size := by rw [RDL.length hnr, flatten_length hrl, hisz]
          have hpos' : 0 < ys.length := List.length_pos_iff.2 hysne
          have hcells : ∀ j v, news[j]? = some v → w.cell? ((⟨b, o, none⟩ : Addr).add j) = some v := fun j v hj => by rw [addr_add]; exact hnc j v hj
          cases s with
          | nils =>
            have e1 : sv = .slice none 0 0 := hs
            subst e1
            simp only at hv
            split at hv
            · rename_i hb
              simp only [Option.some.injEq, Prod.mk.injEq] at hv
              obtain ⟨rfl, rfl⟩ := hv
              have hrun := run_append_nil (P := P) w t ty e i2 zv ht hi hzv ⟨b, o, none⟩ ys.length c news hnl hcells hpos' (by simp only [rowsBytes] at hb; omega) (by rw [hiby]; simp only [rowsBytes] at hb; omega)
              refine ⟨_, _, hrun, new_own I hid hlt (cur := (news.toArray ++ Builtin.zeroCells zv.cells (grownCap w ys.length 0 e - ys.length))) hnr hns hrl ?_ (grownCap_ge _ _ _ _) (grownCap_le_maxLen _ _ _ _ (by simp only [rowsBytes] at hb; simp only [maxLen]; omega)) ?_ hpos ?_ (by simp) ?_⟩
              · rw [Array.toList_append, List.take_append_of_le_length (by simp [hnl, hisz]), List.take_of_length_le (by simp [hnl, hisz])]
              · have := grownCap_ge w ys.length 0 e
                simp only [Array.size_append, List.size_toArray, size_zeroCells, hzs, hnl, hisz, ← Nat.add_mul]
                congr 1; omega
              · exact ⟨rfl, rfl, rfl, by simp, fun k hk => Below.heap_alloc w.drew _ k hk⟩
              · exact heap_alloc_new w.drew _
            · cases hv
          | own tk rows =>
            simp only at hv
            split at hv
            · rename_i hb
              cases hblk : h.blk tk with
              | tok e' sz' =>
                rw [hblk] at hv
                simp only at hv
                split at hv
                · rename_i hee
                  obtain ⟨rfl, rfl⟩ := hee
                  simp only [Option.some.injEq, Prod.mk.injEq] at hv
                  obtain ⟨rfl, rfl⟩ := hv
                  obtain ⟨hd, rfl, hcapr, hln, hR⟩ := hs
                  have hbk := I.blk tk
                  rw [hblk] at hbk
                  obtain ⟨_, hge, cur, hcur, h3, h4, h5, h6, h7⟩ := hbk
                  by_cases hroom : rows.length + ys.length ≤ g.cap tk
                  · have hfit : rows.length * i2.size + news.length ≤ cur.size := by rw [hnl, h5, hisz, ← Nat.add_mul]; exact Nat.mul_le_mul_right _ hroom
                    have h1 : ∀ v ∈ news, v.oneCell' = true := by
                      have := VRL.ones (RDL.toVRL (g := g) hnr) (by simp only [List.all_map, List.all_eq_true]; exact fun d hd => hns d hd)
                      exact this
                    have hrun := run_append_room (P := P) w t ty e' i2 ht hi (g.rho tk) rows.length (g.cap tk) cur hcur ⟨b, o, none⟩ ys.length c news hnl hcells h1 hroom hfit
                    rw [hisz] at hrun
                    exact ⟨_, _, hrun, room_step I hid hlt hblk hd hR hln hrl hnr hns hcur h5 h4 h7 hpos hroom⟩
                  · obtain ⟨olds, ho1, ho2, ho3, ho4⟩ := RowsAt.values hR
                    rw [h7] at ho3
                    have hoc : ∀ j v, olds[j]? = some v → w.cell? ((⟨g.rho tk, 0, none⟩ : Addr).add j) = some v := fun j v hj => by rw [addr_add]; exact ho4 j v hj
                    have hrun := run_append_grow (P := P) w t ty e' i2 zv ht hi hzv ⟨g.rho tk, 0, none⟩ rows.length (g.cap tk) olds (by rw [hisz]; exact ho3) hoc ⟨b, o, none⟩ ys.length c news hnl hcells (by omega)
                      (by simp only [rowsBytes] at hb; omega) (growslice_fits (by omega) (by rw [hiby]; simp only [rowsBytes] at hb; omega))
                    obtain ⟨I2, x2⟩ := kill I tk
                    have hrl2 : ∀ r ∈ rows ++ ys, r.length = sz' := fun r hr => by
                      rcases List.mem_append.1 hr with h' | h'
                      · rw [← h7]; exact (RowsAt.iff.1 hR).1 r h'
                      · exact hrl r h'
                    have hflat : RDL w (Mut B.M0 h g) (rows ++ ys).flatten (olds ++ news) := by rw [List.flatten_append]; exact RDL.append ho1 hnr
                    have hlen : (olds ++ news).length = (rows ++ ys).length * sz' := by rw [RDL.length hflat, flatten_length hrl2]
                    have hok := new_own I2 (id := id) hid hlt (rows := rows ++ ys) (vals := olds ++ news) (cur := (olds.toArray ++ news.toArray ++ Builtin.zeroCells zv.cells (grownCap w (rows.length + ys.length) (g.cap tk) e' - (rows.length + ys.length))))
                      (cap := grownCap w (rows.length + ys.length) (g.cap tk) e') (sz := sz') (e := e') (w' := w.drew.alloc (.cells (olds.toArray ++ news.toArray ++ Builtin.zeroCells zv.cells (grownCap w (rows.length + ys.length) (g.cap tk) e' - (rows.length + ys.length))) e'))
                      (RDL.mono x2 _ _ hflat) (fun d hd' => by
                        rw [List.flatten_append] at hd'
                        rcases List.mem_append.1 hd' with h' | h'
                        · exact ho2 d h'
                        · exact hns d h') hrl2 (by
                        rw [← hlen, Array.toList_append, Array.toList_append, List.take_append_of_le_length (by simp), List.take_of_length_le (by simp)]) (by rw [List.length_append]; exact grownCap_ge _ _ _ _)
                      (grownCap_le_maxLen _ _ _ _ (by simp only [rowsBytes] at hb; simp only [maxLen]; omega)) (by
                        have := grownCap_ge w (rows.length + ys.length) (g.cap tk) e'
                        rw [List.length_append] at hlen
                        simp only [Array.size_append, List.size_toArray, size_zeroCells, hzs, hlen, List.length_append, ← Nat.add_mul]
                        congr 1; omega) hpos ⟨rfl, rfl, rfl, by simp, fun k hk => Below.heap_alloc w.drew _ k hk⟩ (by simp) (heap_alloc_new w.drew _)
                    obtain ⟨g', a1, a2, a3, a4, a5, a6⟩ := hok
                    rw [List.length_append] at a2
                    refine ⟨_, _, hrun, g', a1, a2, ⟨fun b o v hm hv => ?_, fun r es c hm hr => ?_, fun b o hm hlt' => ?_, a3.size⟩, a4, a5, a6⟩
                    · exact a3.cell b o v (x2.muts b o hm (World.block_lt_of_cell? _ _ hv)) hv
                    · exact a3.map r es c (x2.muts r 0 hm (lt_of_map hr)) hr
                    · exact a3.muts b o (x2.muts b o hm hlt') hlt'
                · cases hv
              | _ => rw [hblk] at hv; simp at hv
            · cases hv
          | _ => simp at hv
        · cases hv
      · cases hv
    · cases hv
  · cases hv
end
end Go.AM
end
section
namespace Go.AM
open Go Go.RowKit
section
variable {P : Program} {B : Base} {h : Heap} {g : G} {w : World} {M : Muts}

theorem VRL.mk : ∀ {us : List V} {vs : List Value}, us.length = vs.length → (∀ (i : Nat) (x : V) (v : Value), us[i]? = some x → vs[i]? = some v → VR w M g x v) → VRL w M g us vs
  | [], vs, hl, _ => List.eq_nil_of_length_eq_zero hl.symm
  | x :: us, [], hl, _ => by simp at hl
  | x :: us, v :: vs, hl, h => ⟨v, vs, rfl, h 0 x v (by simp) (by simp), VRL.mk (by simpa using hl) (fun i y u h1 h2 => h (i + 1) y u (by simpa using h1) (by simpa using h2))⟩
theorem rep_get {α : Type} (l : List α) : ∀ (n j : Nat), j < n * l.length → (List.replicate n l).flatten[j]? = l[j % l.length]?
  | 0, j, h => by omega
  | n + 1, j, h => by
    rw [List.replicate_succ, List.flatten_cons]
    by_cases hj : j < l.length
    · rw [List.getElem?_append_left hj, Nat.mod_eq_of_lt hj]
    · rw [List.getElem?_append_right (by omega), rep_get l n (j - l.length) (by rw [Nat.add_mul] at h; omega)]
      congr 1
      exact (Nat.mod_eq_sub_mod (by omega)).symm
theorem rep_length {α : Type} (l : List α) (n : Nat) : (List.replicate n l).flatten.length = n * l.length := by simp
theorem zeros_sim {z : V} {zv : Value} {sz n : Nat} (hz : VR w M g z zv) (hs : z.cells.all V.scalar = true) (hl : z.cells.length = sz) (hpos : 0 < sz) :
    VRL w M g (List.replicate n z.cells).flatten ((Array.range (n * sz)).map (fun i => zv.cells[i % zv.cells.size]!)).toList := by
  have h1 := (VR_cells hz hs).1
  have hzl : zv.cells.size = sz := by have := VRL.length h1; simpa [hl] using this
  refine VRL.mk (by simp [hl]) (fun i x v hx hv => ?_)
  have hi : i < n * sz := by
    have := (List.getElem?_eq_some_iff.1 hx).1
    simpa [hl] using this
  rw [rep_get _ _ _ (by rw [hl]; exact hi), hl] at hx
  have hm : i % sz < sz := Nat.mod_lt _ hpos
  obtain ⟨u, h2, h3⟩ := VRL.get h1 _ _ hx
  simp only [Array.toList_map, Array.toList_range, List.getElem?_map, List.getElem?_range hi, Option.map_some, Option.some.injEq] at hv
  subst hv
  rw [hzl]
  have : zv.cells[i % sz]! = u := by
    rw [getElem!_pos zv.cells (i % sz) (by omega)]
    have h4 : zv.cells[i % sz]? = some u := by simpa using h2
    rw [Array.getElem?_eq_getElem (by omega)] at h4
    exact Option.some.inj h4
  rw [this]; exact h3

theorem bslice_sim (I : Inv B h g w) {t : TypeId} {n : Nat} {mu : Bool} {id : Nat} (hid : ¬ g.dom id) (hlt : id < h.next) {ps : List (Nat × V)} {pv : Array (Nat × Value)} {v : V} {h' : Heap}
    (hp : pv.toList.map (·.1) = ps.map (·.1)) (hr : VRL w (Mut B.M0 h g) g (ps.map (·.2)) (pv.toList.map (·.2)))
    (hv : bsliceV P mu t n ps id h = some (v, h')) : ∃ v' w', (Instr.buildSlice t n pv).run P w = .ok v' w' ∧ Ok B h g w id v h' v' w' := by
  unfold bsliceV at hv
  split at hv
  · rename_i e ht
    split at hv
    · rename_i sz z hsz hz
      split at hv
      · rename_i hc
        obtain ⟨hpos, hsmall, hzl⟩ := hc
        obtain ⟨i, hi, hisz⟩ := sizeT_spec hsz
        obtain ⟨i2, zv, hi2, hzv, hzr⟩ := zeroT_spec (w := w) (M := Mut B.M0 h g) (g := g) hz
        have hzs := zeroT_scalar hz
        cases hq : partsOf (fun i => some (i * sz, sz)) ps with
        | none => rw [hq] at hv; simp at hv
        | some qs =>
          rw [hq] at hv
          simp only [Option.bind_some] at hv
          split at hv
          · rename_i cells hf
            split at hv
            · rename_i hcs
              obtain ⟨vals, h1, h2⟩ := fillV_sim ps pv.toList qs _ cells _ (partsOf_spec hq) hp hr (zeros_sim (n := n) hzr hzs hzl hpos) hf
              have hvl : vals.size = n * sz := by
                have hl1 := VRL.length h2
                have hl2 : cells.length = n * sz := by
                  have : ∀ (qs : List (Nat × Nat × V)) (us cs : List V), fillV us qs = some cs → cs.length = us.length := by
                    intro qs
                    induction qs with
                    | nil => intro us cs hh; simp [fillV] at hh; rw [hh]
                    | cons q qs ih =>
                      intro us cs hh
                      obtain ⟨o, s, y⟩ := q
                      simp only [fillV] at hh
                      split at hh
                      · rename_i hcc
                        rw [ih _ _ hh]
                        exact length_splice rfl (by rw [hcc.1]; exact hcc.2.1)
                      · cases hh
                  rw [this _ _ _ hf]; simp [hzl]
                simp at hl1; omega
              have hrun : (Instr.buildSlice t n pv).run P w = .ok (.slice (some ⟨w.heap.size, 0, none⟩) n n) (w.alloc (.cells vals e)) := by
                have hsz2 : ¬ n * i.size > 2 ^ 24 := by rw [hisz]; omega
                by_cases h0 : n = 0
                · subst h0
                  have : (Instr.fill (fun j => some (j * i.size, i.size)) ((Array.range (0 * i.size)).map fun x => (#[] : Array Value)[x % (#[] : Array Value).size]!) pv.toList) = some vals := by
                    rw [← h1, hisz]
                    congr 1
                    apply Array.ext <;> simp
                  simp only [Instr.buildSlice, Sem.run_bind, run_underlying ht, Result.andThen_ok, run_sizeOf hi]
                  rw [if_neg hsz2]
                  simp only [Nat.zero_mul, if_true, Sem.run_pure, Sem.run_bind, Result.andThen_ok] at this ⊢
                  rw [this]
                  simp only [newRow, Sem.run_bind, run_newObj_alloc, Result.andThen_ok, Sem.run_pure]
                · have hn0 : ¬ n * i.size = 0 := by rw [hisz]; exact Nat.mul_ne_zero h0 (by omega)
                  simp only [Instr.buildSlice, Sem.run_bind, run_underlying ht, Result.andThen_ok, run_sizeOf hi]
                  rw [if_neg hsz2]
                  simp only [if_neg hn0, Sem.run_bind, run_zeroValue hi2 hzv, Result.andThen_ok, Sem.run_pure]
                  rw [hisz, h1]
                  simp only [newRow, Sem.run_bind, run_newObj_alloc, Result.andThen_ok, Sem.run_pure]
              split at hv
              · simp only [Option.some.injEq, Prod.mk.injEq] at hv
                obtain ⟨rfl, rfl⟩ := hv
                obtain ⟨g', a1, a2, a3, a4, a5, a6⟩ := new_cells I hid hlt h2 hcs e
                obtain ⟨b1, b2⟩ := a2
                refine ⟨_, _, hrun, g', a1, ⟨b1, n, ?_, Nat.le_refl _⟩, a3, a4, a5, a6⟩
                simp only [Value.pointer.injEq, Option.some.injEq] at b2
                rw [← b2]
              · split at hv
                · rename_i ds hds
                  simp only [Option.some.injEq, Prod.mk.injEq] at hv
                  obtain ⟨rfl, rfl⟩ := hv
                  have hrd := allD_sim h2 hds
                  have hsc := allD_scalar hcs hds
                  have hdl : ds.length = n * sz := by rw [← RDL.length hrd]; simp [hvl]
                  obtain ⟨c1, c2, c3⟩ := chunk_spec sz n ds hdl
                  have hok := new_own I hid hlt (rows := chunk sz n ds) (vals := vals.toList) (cur := vals) (cap := n) (sz := sz) (e := e) (w' := w.alloc (.cells vals e)) (by rw [c3]; exact hrd) (by rw [c3]; exact hsc) c2
                    (by rw [c1]; exact List.take_of_length_le (by simp [hvl])) (by rw [c1]; exact Nat.le_refl _) (by
                      have : n ≤ n * sz := Nat.le_mul_of_pos_right n hpos
                      simp only [maxLen]; omega) hvl hpos (Below.of_alloc w _) (by simp) (heap_alloc_new w _)
                  rw [c1] at hok
                  exact ⟨_, _, hrun, hok⟩
                · cases hv
            · cases hv
          · cases hv
      · cases hv
    · cases hv
  · cases hv
end
end Go.AM
end
section
namespace Go.AM
open Go Go.RowKit
section
variable {P : Program} {B : Base} {h : Heap} {g : G} {w : World} {M : Muts}

theorem new_cells' (I : Inv B h g w) {id : Nat} (hid : ¬ g.dom id) (hlt : id < h.next) {us : List V} {cur : Array Value} (hle : us.length ≤ cur.size) (hu : VRL w (Mut B.M0 h g) g us (cur.toList.take us.length)) (hs : us.all V.scalar = true) (e : TypeId) :
    ∃ g', Inv B (h.upd id (.cells us)) g' (w.alloc (.cells cur e)) ∧ g'.dom id ∧ g'.rho id = w.heap.size ∧ Ext w (Mut B.M0 h g) (w.alloc (.cells cur e)) (Mut B.M0 (h.upd id (.cells us)) g') ∧ GLe g g' ∧ ∀ b, g'.dom b → g.dom b ∨ b = id := by
  obtain ⟨h1, h2, h3⟩ := alloc_step I hid hlt (.cells us) (.cells cur e) 0 0 0 0 (w' := w.alloc (.cells cur e)) (Below.of_alloc w _) (by simp) (heap_alloc_new w _)
    (fun x y => ⟨.inr rfl, by simp [G.add]; exact I.below.size, hs, cur, e, by simp only [G.add, if_true]; exact heap_alloc_new w _, hle, VRL.mono x y _ _ hu⟩)
  exact ⟨_, h1, .inr rfl, by simp [G.add], h2, h3, fun b hb => hb⟩

theorem wrap_small {n : Int} (h0 : 0 ≤ n) (h1 : n ≤ 1099511627776) : IntKind.i64.wrap n = n := Go.IntWalk.i64_in n (by omega)
theorem rep_take {α : Type} (l : List α) (m n : Nat) (h : m ≤ n) : (List.replicate n l).flatten.take (m * l.length) = (List.replicate m l).flatten := by
  have : List.replicate n l = List.replicate m l ++ List.replicate (n - m) l := by rw [List.replicate_append_replicate]; congr 1; omega
  rw [this, List.flatten_append, List.take_append_of_le_length (by simp), List.take_of_length_le (by simp)]

theorem run_makeSlice {t e : TypeId} {i : TypeInfo} {zv : Value} {k k' : IntKind} {l c : Int} (ht : P.underlying t = some (.slice e)) (hi : P.info? e = some i) (hz : i.zero = some zv)
    (h0 : 0 ≤ l) (h1 : l ≤ c) (h2 : c ≤ 1099511627776) (h3 : (i.bytes : Int) * c ≤ 140737488355328) :
    (Instr.makeSlice t (.int k l) (.int k' c)).run P w = .ok (.slice (some ⟨w.heap.size, 0, none⟩) l.toNat c.toNat) (w.alloc (.cells ((Array.range (c.toNat * i.size)).map (fun j => zv.cells[j % zv.cells.size]!)) e)) := by
  have hc0 : 0 ≤ c := by omega
  have wl := wrap_small h0 (by omega)
  have wc := wrap_small hc0 h2
  have g1 : ¬ (c < 0 ∨ (i.bytes : Int) * c > 281474976710656) := by omega
  simp only [Instr.makeSlice, Sem.run_bind, run_underlying ht, Result.andThen_ok, asInt, asIntOf, Sem.run_pure, typeInfo, run_program, hi, wl, wc]
  have hcond : ((decide (c < 0) || decide ((i.bytes : Int) * c > 2 ^ 48) || decide (l < 0) || decide (l > c)) = true) = False := by
    simp; omega
  simp only [hcond, if_false, Sem.run_bind, run_askRoom, Result.andThen_ok, run_sizeOf hi]
  by_cases hn : c.toNat * i.size = 0
  · simp only [hn, if_true, Sem.run_pure, Result.andThen_ok, newRow, Sem.run_bind, run_newObj_alloc]
    have : (Array.range 0).map (fun x => (#[] : Array Value)[x % (#[] : Array Value).size]!) = (Array.range 0).map (fun j => zv.cells[j % zv.cells.size]!) := by
      apply Array.ext <;> simp
    rw [this]
  · simp only [hn, if_false, Sem.run_bind, run_zeroValue hi hz, Result.andThen_ok, Sem.run_pure, newRow, run_newObj_alloc]

theorem mslice_sim (I : Inv B h g w) {t : TypeId} {mu : Bool} {id : Nat} (hid : ¬ g.dom id) (hlt : id < h.next) {l c v : V} {lv cv : Value} {h' : Heap} (hl : VR w (Mut B.M0 h g) g l lv) (hc : VR w (Mut B.M0 h g) g c cv)
    (hv : msliceV P mu t l c id h = some (v, h')) : ∃ v' w', (Instr.makeSlice t lv cv).run P w = .ok v' w' ∧ Ok B h g w id v h' v' w' := by
  unfold msliceV at hv
  split at hv
  · rename_i e kl l kc c ht
    have e1 := int_of_VR hl
    have e2 := int_of_VR hc
    subst e1 e2
    split at hv
    · rename_i sz by_ z hsz hby hz
      obtain ⟨i, hi, hisz⟩ := sizeT_spec hsz
      have hiby : i.bytes = by_ := by
        unfold bytesT at hby; rw [hi] at hby; simpa using hby
      obtain ⟨i2, zv, hi2, hzv, hzr⟩ := zeroT_spec (w := w) (M := Mut B.M0 h g) (g := g) hz
      have hi12 : i2 = i := by rw [hi] at hi2; exact (Option.some.inj hi2).symm
      subst hi12
      have hzs := zeroT_scalar hz
      split at hv
      · rename_i hcc
        obtain ⟨c1, c2, c3, c4, c5, c6, c7⟩ := hcc
        have hrun := run_makeSlice (P := P) (w := w) (k := kl) (k' := kc) ht hi hzv c1 c2 c4 (by rw [hiby]; exact c5)
        have hz0 := zeros_sim (n := c.toNat) hzr hzs c6 c3
        rw [← hisz] at hz0
        have hlc : l.toNat ≤ c.toNat := by omega
        split at hv
        · simp only [Option.some.injEq, Prod.mk.injEq] at hv
          obtain ⟨rfl, rfl⟩ := hv
          obtain ⟨g', a1, a2, a3, a4, a5, a6⟩ := new_cells' I hid hlt (us := (List.replicate l.toNat z.cells).flatten)
            (cur := (Array.range (c.toNat * i2.size)).map (fun j => zv.cells[j % zv.cells.size]!)) (by simp [c6, hisz]; exact Nat.mul_le_mul_right _ hlc) (by
              have := VRL.take (l.toNat * z.cells.length) hz0
              rw [rep_take _ _ _ hlc] at this
              rw [rep_length]; exact this) (by
              simp only [List.all_eq_true, List.mem_flatten, List.mem_replicate] at hzs ⊢
              rintro x ⟨y, ⟨_, rfl⟩, hx⟩
              exact hzs x hx) e
          exact ⟨_, _, hrun, g', a1, ⟨a2, c.toNat, by rw [a3], hlc⟩, a4, a5, a6, rfl⟩
        · split at hv
          · rename_i ds hds
            simp only [Option.some.injEq, Prod.mk.injEq] at hv
            obtain ⟨rfl, rfl⟩ := hv
            have hzc := (VR_cells hzr hzs).1
            have hrd := allD_sim hzc hds
            have hsc := allD_scalar hzs hds
            have hdl : ds.length = sz := by
              rw [← RDL.length hrd, VRL.length hzc, c6]
            have hzl : zv.cells.size = sz := by have := VRL.length hzc; simpa [c6] using this
            have hrl : ∀ r ∈ List.replicate l.toNat ds, r.length = sz := fun r hr => by rw [(List.mem_replicate.1 hr).2]; exact hdl
            have hok := new_own I hid hlt (rows := List.replicate l.toNat ds) (vals := (List.replicate l.toNat zv.cells.toList).flatten)
              (cur := (Array.range (c.toNat * i2.size)).map (fun j => zv.cells[j % zv.cells.size]!)) (cap := c.toNat) (sz := sz) (e := e)
              (w' := w.alloc (.cells ((Array.range (c.toNat * i2.size)).map (fun j => zv.cells[j % zv.cells.size]!)) e)) (by
                generalize l.toNat = m
                induction m with
                | zero => rfl
                | succ m ih => simp only [List.replicate_succ, List.flatten_cons]; exact RDL.append hrd ih) (fun d hd => by
                simp only [List.mem_flatten, List.mem_replicate] at hd
                obtain ⟨y, ⟨_, rfl⟩, hx⟩ := hd
                exact hsc d hx) hrl (by
                have hll : zv.cells.toList.length = sz := by simpa using hzl
                rw [List.length_replicate, ← rep_take zv.cells.toList _ _ hlc, hll]
                congr 1
                apply List.ext_getElem?
                intro j
                by_cases hj : j < c.toNat * sz
                · rw [rep_get _ _ _ (by rw [hll]; exact hj), hll]
                  have hm : j % sz < sz := Nat.mod_lt _ c3
                  simp only [Array.toList_map, Array.toList_range, List.getElem?_map, hisz, List.getElem?_range hj, Option.map_some, hzl]
                  rw [getElem!_pos zv.cells (j % sz) (by omega)]
                  have h9 : j % sz < zv.cells.toList.length := by omega
                  rw [List.getElem?_eq_getElem h9]; simp
                · rw [List.getElem?_eq_none (by simp [hisz]; omega), List.getElem?_eq_none (by rw [rep_length, hll]; omega)]) (by rw [List.length_replicate]; exact hlc) (by simp only [maxLen]; omega) (by simp [hisz]) c3 (Below.of_alloc w _) (by simp) (heap_alloc_new w _)
            rw [List.length_replicate] at hok
            exact ⟨_, _, hrun, hok⟩
          · cases hv
      · cases hv
    · cases hv
  · cases hv

theorem flatten_take_rows {sz : Nat} : ∀ {rs : List (List D)} (n : Nat), (∀ r ∈ rs, r.length = sz) → rs.flatten.take (n * sz) = (rs.take n).flatten
  | [], n, _ => by simp
  | r :: rs, 0, _ => by simp
  | r :: rs, n + 1, h => by
    have hr : r.length = sz := h r (by simp)
    rw [List.flatten_cons, List.take_append, List.take_of_length_le (by rw [hr, Nat.add_mul]; omega), hr, show (n + 1) * sz - sz = n * sz from by rw [Nat.add_mul]; omega,
      flatten_take_rows n (fun x hx => h x (by simp [hx]))]
    simp
theorem RDL.take {ds : List D} {vs : List Value} (n : Nat) (h : RDL w M ds vs) : RDL w M (ds.take n) (vs.take n) := by
  have := VRL.take (g := ⟨fun _ => False, id, id, id, id, id, fun _ => default, fun _ => False, fun _ => False⟩) n (RDL.toVRL h)
  rw [← List.map_take] at this
  exact VRL.toRDL this
theorem copy_sim (I : Inv B h g w) {t ty : TypeId} {id : Nat} {d s v : V} {dv sv : Value} {h' : Heap} (hd : VR w (Mut B.M0 h g) g d dv) (hs : VR w (Mut B.M0 h g) g s sv)
    (hv : copyV P t d s h = some (v, h')) : ∃ v' w', (Builtin.copy_ #[t, t] ty #[dv, sv]).run P w = .ok v' w' ∧ Ok B h g w id v h' v' w' := by
  unfold copyV at hv
  split at hv
  · rename_i e b off len sz ht
    split at hv
    · rename_i z ys us hz hn hb
      obtain ⟨hdom, cap, rfl, hcap⟩ := hd
      simp only at hv
      split at hv
      · rename_i hc
        obtain ⟨rfl, hpos, hle, hhl⟩ := hc
        simp only [Option.some.injEq, Prod.mk.injEq] at hv
        obtain ⟨rfl, rfl⟩ := hv
        obtain ⟨i, hi, hisz⟩ := sizeT_spec hz
        obtain ⟨a, c, rfl, hrl, hA⟩ := news_sim I hs hn hhl
        have hnl : ∃ news, RDL w (Mut B.M0 h g) (ys.take (min ys.length len)).flatten news ∧ (∀ d ∈ (ys.take (min ys.length len)).flatten, d.scalar = true) ∧
            (Builtin.firstCells z (min ys.length len) (.slice a ys.length c)).run P w = .ok news.toArray w := by
          by_cases hne : ys = []
          · subst hne
            refine ⟨[], rfl, by simp, ?_⟩
            cases a <;> simp [Builtin.firstCells, loadCells, loadCellsFrom]
          · obtain ⟨b', o', news, rfl, h1, h2, h3⟩ := hA hne
            have hfl : (ys.take (min ys.length len)).flatten = ys.flatten.take (min ys.length len * z) := (flatten_take_rows _ hrl).symm
            have hl : news.length = ys.length * z := by rw [RDL.length h1, flatten_length hrl]
            refine ⟨news.take (min ys.length len * z), by rw [hfl]; exact RDL.take _ h1, fun d hd => h2 d (by rw [hfl] at hd; exact List.mem_of_mem_take hd), ?_⟩
            have hmin : min ys.length len * z ≤ ys.length * z := Nat.mul_le_mul_right _ (Nat.min_le_left _ _)
            exact run_firstCells_some (P := P) w z (min ys.length len) ⟨b', o', none⟩ ys.length c (news.take (min ys.length len * z)) (by simp; omega) (fun j v hj => by
              rw [addr_add]
              rw [List.getElem?_take] at hj
              split at hj
              · exact h3 j v hj
              · cases hj)
        obtain ⟨news, h1, h2, h3⟩ := hnl
        have hr2 : ∀ r ∈ ys.take (min ys.length len), r.length = z := fun r hr => hrl r (List.mem_of_mem_take hr)
        have hlen : (ys.take (min ys.length len)).flatten.length = min ys.length len * z := by rw [flatten_length hr2]; congr 1; simp
        have hm2 : min ys.length len * z ≤ len * z := Nat.mul_le_mul_right _ (Nat.min_le_right _ _)
        obtain ⟨w', h4, h5, h6⟩ := write_cells (P := P) (off := off) I hb (RDL.toVRL (g := g) h1) (by simp only [List.all_map, List.all_eq_true]; exact fun d hd => h2 d hd) (by simp only [List.length_map, hlen]; omega)
        refine ⟨.int .i64 (min ys.length len : Nat), w', ?_, g, h5, rfl, h6, GLe.refl g, fun _ h => .inl h, rfl⟩
        have hmn : Nat.min ys.length len = min ys.length len := rfl
        simp only [Builtin.copy_, Sem.run_bind, List.getElem?_toArray, List.getElem?_cons_zero, List.getElem?_cons_succ, run_underlying ht, Result.andThen_ok, Builtin.lenOf, Sem.run_pure, run_sizeOf hi, hisz, hmn, h3, h4]
        rfl
      · cases hv
    · cases hv
  · cases hv

theorem bytes_rows {rs : List (List D)} {bs : List UInt8} (h : bytesOfRows rs = some bs) : bs.length = rs.length ∧ ∀ (j : Nat) (hj : j < bs.length), rs[j]? = some [.int .u8 (bs[j].toNat : Int)] := by
  induction rs generalizing bs with
  | nil => simp [bytesOfRows] at h; subst h; exact ⟨rfl, fun j hj => by simp at hj⟩
  | cons r rs ih =>
    simp only [bytesOfRows] at h
    split at h
    · rename_i b bs' h1 h2
      simp only [Option.some.injEq] at h; subst h
      obtain ⟨h3, h4⟩ := ih h2
      refine ⟨by simp [h3], fun j hj => ?_⟩
      cases j with
      | zero =>
        unfold byteOfRow at h1
        split at h1
        · rename_i n
          split at h1
          · rename_i hr
            simp only [Option.some.injEq] at h1; subst h1
            have : (UInt8.ofNat n.toNat).toNat = n.toNat := by
              rw [UInt8.toNat_ofNat']; omega
            simp only [List.getElem?_cons_zero, List.getElem_cons_zero, this]
            rw [Int.toNat_of_nonneg hr.1]
          · cases h1
        · cases h1
      | succ j => simpa using h4 j (by simpa using hj)
    · cases h
theorem conv_sim {s d : TypeId} {x v : V} {xv : Value} (hx : VR w M g x xv) (hv : convV P s d x = some v) : ∃ v', (convert s d xv).run P w = .ok v' w ∧ VR w M g v v' := by
  unfold convV at hv
  split at hv
  · rename_i sd k hs hd
    split at hv
    · rename_i k' n
      have e := int_of_VR hx
      subst e
      simp only [Option.some.injEq] at hv; subst hv
      refine ⟨.int k (k.wrap n), ?_, rfl⟩
      cases sd <;> simp only [convert, Sem.run_bind, run_underlying hs, run_underlying hd, Result.andThen_ok] <;> rfl
    · cases hv
  · rename_i sd hs hd
    split at hv
    · rename_i b
      have e : xv = .string b := hx
      subst e
      simp only [Option.some.injEq] at hv; subst hv
      refine ⟨.string b, ?_, rfl⟩
      cases sd <;> simp only [convert, Sem.run_bind, run_underlying hs, run_underlying hd, Result.andThen_ok] <;> rfl
    · rename_i k n
      have e := int_of_VR hx
      subst e
      simp only [Option.some.injEq] at hv; subst hv
      refine ⟨.string (Utf8.encode n), ?_, rfl⟩
      cases sd <;> simp only [convert, Sem.run_bind, run_underlying hs, run_underlying hd, Result.andThen_ok] <;> rfl
    · rename_i rows
      split at hv
      · rename_i e
        split at hv
        · rename_i he
          cases hb : bytesOfRows rows with
          | none => rw [hb] at hv; cases hv
          | some bs =>
            rw [hb] at hv
            simp only [Option.map_some, Option.some.injEq] at hv; subst hv
            obtain ⟨a, cap, rfl, hc, hA⟩ := hx
            obtain ⟨h1, h2⟩ := bytes_rows hb
            by_cases hne : rows = []
            · subst hne
              have hbs : bs = [] := List.eq_nil_of_length_eq_zero (by simpa using h1)
              subst hbs
              refine ⟨.string ⟨#[]⟩, ?_, rfl⟩
              cases a with
              | none => exact run_convert_bytes_nil (P := P) w s e hs he _ _ d hd
              | some a => exact run_convert_bytes_back (P := P) w s d e a cap [] hs he hd (fun j hj => by simp at hj)
            · obtain ⟨b, o, sz, rfl, hR⟩ := hA hne
              have hsz : sz = 1 := by
                cases rows with
                | nil => exact absurd rfl hne
                | cons r rs =>
                  have h3 := h2 0 (by rw [h1]; simp)
                  obtain ⟨h4, _⟩ := hR
                  simp at h3; rw [h3] at h4; simpa using h4.symm
              subst hsz
              rw [← h1]
              refine ⟨.string ⟨bs.toArray⟩, run_convert_bytes_back (P := P) w s d e ⟨b, o, none⟩ cap bs hs he hd (fun j hj => ?_), rfl⟩
              obtain ⟨_, h6⟩ := RowsAt.get hR j _ (h2 j hj)
              obtain ⟨v, h7, h8⟩ := At.get h6 0 _ rfl
              have e' : v = .int .u8 (bs[j].toNat : Int) := h8
              subst e'
              rw [addr_add]
              simpa using h7
        · cases hv
      · cases hv
    · cases hv
  · cases hv
theorem rows_bytes : ∀ (l : List UInt8) {w : World} {M : Muts} (b o : Nat), (∀ j (hj : j < l.length), w.cell? ⟨b, o + j, none⟩ = some (.int .u8 (l[j].toNat : Int))) → (∀ j, ¬ M b j) → RowsAt w M (l.map byteRow) b o 1
  | [], _, _, _, _, _, _ => trivial
  | x :: l, w, M, b, o, h, hm => by
    refine ⟨rfl, ⟨hm o, rfl, ⟨_, ?_, rfl⟩, trivial⟩, rows_bytes l b (o + 1) (fun j hj => ?_) hm⟩
    · have := h 0 (by simp)
      simp only [Nat.add_zero, List.getElem_cons_zero] at this
      exact this
    · have := h (j + 1) (by simpa using hj)
      rw [show o + 1 + j = o + (j + 1) from by omega]
      simpa using this
theorem convB_sim {B : Base} {h : Heap} (I : Inv B h g w) {s d : TypeId} {sd : TypeDesc} (hs : P.underlying s = some sd) {x v : V} {xv : Value} {id : Nat} (hx : VR w (Mut B.M0 h g) g x xv) (hv : convB P d x = some v) :
    ∃ v' w', (convert s d xv).run P w = .ok v' w' ∧ Ok B h g w id v h v' w' := by
  unfold convB at hv
  split at hv
  · rename_i b e hd
    split at hv
    · rename_i he
      simp only [Option.some.injEq] at hv; subst hv
      have e1 : xv = .string b := hx
      subst e1
      have hold := Go.Lib.bytesWorld_at_old w e b
      have hlow : Below w.heap.size w (Go.Lib.bytesWorld w e b) := ⟨rfl, rfl, rfl, by rw [Go.Lib.bytesWorld_size]; omega, fun k hk => hold k hk⟩
      obtain ⟨I', x'⟩ := I.same hlow
      refine ⟨_, _, Go.Lib.run_convert_string_bytes w s d e b hs hd he, g, I', ?_, x', GLe.refl g, fun _ h => .inl h, rfl⟩
      have hlen : (b.data.toList.map byteRow).length = b.size := by simp
      refine ⟨_, grownCap w b.size 0 e, by rw [hlen], by rw [hlen]; exact grownCap_ge .., fun _ => ⟨w.heap.size, 0, 1, rfl, rows_bytes _ _ _ (fun j hj => ?_) (fun j hm => ?_)⟩⟩
      · rw [Nat.zero_add, Go.Lib.bytesWorld_cell w e b j (by simpa using hj)]
        congr 2
        rw [List.getD_eq_getElem?_getD, List.getElem?_eq_getElem hj]
        rfl
      · rcases hm with h0 | ⟨i, hd', hr, _⟩
        · have := I.m0 _ _ h0; have := I.below.size; omega
        · have := I.lt i hd'; omega
    · cases hv
  · cases hv
end
end Go.AM
end
section
namespace Go.AM
open Go Go.RowKit
section
variable {P : Program} {B : Base} {h : Heap} {g : G} {w : World} {M : Muts}

theorem ref_of_VR {b off : Nat} {v : Value} (hx : VR w M g (.ref b off) v) : g.dom b ∧ v = .pointer (some ⟨g.rho b, off, none⟩) := hx
theorem mapOf_sim (I : Inv B h g w) {m : V} {mv : Value} {c : List D × List V} (hm : VR w (Mut B.M0 h g) g m mv) (hc : mapOf m h = some c) :
    ∃ mo, mv = .map mo ∧ ((mo = none ∧ c = ([], [])) ∨ ∃ r es ck, mo = some r ∧ w.heap[r]? = some (.map es ck) ∧ BornOk es ck ∧ RDL w (Mut B.M0 h g) c.1 (es.toList.map MapEntry.key) ∧ VRL w (Mut B.M0 h g) g c.2 (es.toList.map MapEntry.val)) := by
  unfold mapOf at hc
  split at hc
  · simp only [Option.some.injEq] at hc; subst hc
    have e : mv = .map none := hm
    exact ⟨none, e, .inl ⟨rfl, rfl⟩⟩
  · rename_i ks vs
    simp only [Option.some.injEq] at hc; subst hc
    obtain ⟨r, es, ck, e, _, h1, h2, h3, h4⟩ := hm
    exact ⟨some r, e, .inr ⟨r, es, ck, rfl, h1, h2, h3, RDL.toVRL h4⟩⟩
  · rename_i b
    obtain ⟨hd, e⟩ := hm
    have hb := I.blk b
    cases hbk : h.blk b with
    | map ks vs =>
      rw [hbk] at hb hc
      simp only [Option.some.injEq] at hc; subst hc
      obtain ⟨_, _, es, ck, h1, h2, h3, h4⟩ := hb
      exact ⟨some (g.rho b), e, .inr ⟨_, es, ck, rfl, h1, h2, h3, h4⟩⟩
    | _ => rw [hbk] at hc; simp at hc
  · cases hc
theorem range_sim (I : Inv B h g w) {id : Nat} (hid : ¬ g.dom id) (hlt : id < h.next) {t : TypeId} {d : TypeDesc} (ht : P.underlying t = some d) {x : V} {xv : Value} (hx : VR w (Mut B.M0 h g) g x xv) {v : V} {h' : Heap}
    (hv : rangeV d x id h = some (v, h')) : ∃ v' w', (Instr.range t xv).run P w = .ok v' w' ∧ Ok B h g w id v h' v' w' := by
  unfold rangeV at hv
  split at hv
  · split at hv
    · rename_i s
      simp only [Option.some.injEq, Prod.mk.injEq] at hv
      obtain ⟨rfl, rfl⟩ := hv
      have e : xv = .string s := hx
      subst e
      obtain ⟨h1, h2, h3⟩ := alloc_step I hid hlt (.siter s 0) (.stringIter s 0) 0 0 0 0 (w' := w.alloc (.stringIter s 0)) (Below.of_alloc w _) (by simp) (heap_alloc_new w _)
        (fun x y => ⟨.inr rfl, by simp [G.add]; exact I.below.size, by simp only [G.add, if_true]; exact heap_alloc_new w _⟩)
      refine ⟨_, w.alloc (.stringIter s 0), ?_, _, h1, ⟨.inr rfl, by simp [G.add]; rfl⟩, h2, h3, fun b hb => hb, rfl⟩
      simp only [Instr.range, Sem.run_bind, run_underlying ht, Result.andThen_ok, run_newObj_alloc, Sem.run_pure]
    · cases hv
  · split at hv
    · rename_i c hc
      split at hv
      · rename_i hlen
        simp only [Option.some.injEq, Prod.mk.injEq] at hv
        obtain ⟨rfl, rfl⟩ := hv
        obtain ⟨mo, rfl, hmo⟩ := mapOf_sim I hx hc
        have hrun : (Instr.range t (.map mo)).run P w = .ok (.pointer (some ⟨w.heap.size, 0, none⟩)) (w.alloc (.mapIter mo c.1.length #[] c.1.length)) := by
          rcases hmo with ⟨rfl, rfl⟩ | ⟨r, es, ck, rfl, hr, hbn, hk, _⟩
          · simp only [Instr.range, Sem.run_bind, run_underlying ht, Result.andThen_ok, run_newObj_alloc, Sem.run_pure]; rfl
          · have e1 : ck = c.1.length := by rw [hbn.1]; have := RDL.length hk; simpa using this
            have hg : (getObj r).run P w = .ok (.map es ck) w := by simp [getObj, Sem.run, hr]
            simp only [Instr.range, Sem.run_bind, run_underlying ht, Result.andThen_ok, hg, run_newObj_alloc, Sem.run_pure, e1]
        obtain ⟨h1, h2, h3⟩ := alloc_step I hid hlt (.mfresh x c.1.length) (.mapIter mo c.1.length #[] c.1.length) 0 0 0 0 (w' := w.alloc (.mapIter mo c.1.length #[] c.1.length)) (Below.of_alloc w _) (by simp) (heap_alloc_new w _)
          (fun ex y => ⟨.inr rfl, by simp [G.add]; exact I.below.size, mo, by simp only [G.add, if_true]; exact heap_alloc_new w _, VR.mono ex y _ _ hx⟩)
        exact ⟨_, w.alloc (.mapIter mo c.1.length #[] c.1.length), hrun, _, h1, ⟨.inr rfl, by simp [G.add]⟩, h2, h3, fun b hb => hb, rfl⟩
      · cases hv
    · cases hv
  · cases hv
theorem next_sim (I : Inv B h g w) {id : Nat} {s : Bool} {ty : TypeId} {x : V} {xv : Value} (hx : VR w (Mut B.M0 h g) g x xv) {v : V} {h' : Heap}
    (hv : nextV s x h = some (v, h')) : ∃ v' w', (Instr.next xv s ty).run P w = .ok v' w' ∧ Ok B h g w id v h' v' w' := by
  unfold nextV at hv
  split at hv
  · rename_i b
    obtain ⟨hd, rfl⟩ := hx
    have hb := I.blk b
    split at hv
    · rename_i s pos hbk
      rw [hbk] at hb
      obtain ⟨_, hge, ho⟩ := hb
      have hg : (getObj (g.rho b)).run P w = .ok (.stringIter s pos) w := by simp [getObj, Sem.run, ho]
      split at hv
      · rename_i hpos
        simp only [Option.some.injEq, Prod.mk.injEq] at hv
        obtain ⟨rfl, rfl⟩ := hv
        have hlt : g.rho b < w.heap.size := (Array.getElem?_eq_some_iff.1 ho).1
        have hset : ∀ o, (setObj (g.rho b) o).run P w = .ok () { w with heap := w.heap.setIfInBounds (g.rho b) o } := fun o => by simp [setObj, Sem.run, ho]
        obtain ⟨h3, h4⟩ := turn_step I (id := b) (.siter s (pos + (Utf8.decode s pos).2)) (w' := { w with heap := w.heap.setIfInBounds (g.rho b) (.stringIter s (pos + (Utf8.decode s pos).2)) })
          (fun o => by rw [hbk]; trivial) (fun _ _ => trivial) rfl (by rw [hbk]; rfl) (fun hx => by rw [hbk] at hx; cases hx) (fun k hk => by simp [Array.getElem?_setIfInBounds, Ne.symm hk]) (by simp) rfl rfl rfl
          (fun x => ⟨hd, hge, heap_setObj w _ _ hlt⟩)
        refine ⟨.tuple #[.bool true, goInt pos, .int .i32 (Utf8.decode s pos).1], _, ?_, g, h3, ⟨_, rfl, ⟨_, _, rfl, rfl, _, _, rfl, rfl, _, _, rfl, rfl, rfl⟩⟩, h4, GLe.refl g, fun _ h => .inl h, rfl⟩
        simp only [Instr.next, Sem.run_bind, hg, Result.andThen_ok, hpos, if_true, hset, Sem.run_pure]
      · rename_i hpos
        simp only [Option.some.injEq, Prod.mk.injEq] at hv
        obtain ⟨rfl, rfl⟩ := hv
        refine ⟨.tuple #[.bool false], w, ?_, Ok.pure I ⟨_, rfl, ⟨_, _, rfl, rfl, rfl⟩⟩⟩
        simp only [Instr.next, Sem.run_bind, hg, Result.andThen_ok, hpos, if_false, Sem.run_pure]
    · rename_i m n j hbk
      rw [hbk] at hb
      exact hb.elim
    · cases hv
  · cases hv
theorem born_at {es : Array MapEntry} {ck : Nat} (hbn : BornOk es ck) {j : Nat} {e : MapEntry} (he : es[j]? = some e) : e.born = j ∧ e ∈ es.toList := by
  have h1 : es.toList[j]? = some e := by simpa using he
  have h2 : (es.toList.map MapEntry.born)[j]? = some e.born := by rw [List.getElem?_map, h1]; rfl
  rw [hbn.2] at h2
  have hj : j < es.size := (Array.getElem?_eq_some_iff.1 he).1
  rw [List.getElem?_range hj] at h2
  exact ⟨(Option.some.inj h2).symm, List.mem_of_getElem? h1⟩
theorem born_nodup {es : Array MapEntry} {ck : Nat} (hbn : BornOk es ck) : (es.toList.map (·.born)).Nodup := by
  have : es.toList.map (·.born) = List.range es.size := hbn.2
  rw [this]; exact List.nodup_range
theorem atV_sim (I : Inv B h g w) {m : V} {r n j : Nat} {k : D} {v : V} (hm : VR w (Mut B.M0 h g) g m (.map (some r))) (hv : atV m n j h = some (k, v)) :
    ∃ es ck e, w.heap[r]? = some (.map es ck) ∧ BornOk es ck ∧ ck = n ∧ es[j]? = some e ∧ RD w (Mut B.M0 h g) k e.key ∧ VR w (Mut B.M0 h g) g v e.val := by
  unfold atV at hv
  split at hv
  · rename_i c hc
    split at hv
    · rename_i hl
      obtain ⟨mo, e1, hmo⟩ := mapOf_sim I hm hc
      cases e1
      rcases hmo with ⟨h0, _⟩ | ⟨r', es, ck, h0, hr, hbn, hk, hvv⟩
      · cases h0
      · cases h0
        split at hv
        · rename_i k' v' hk1 hv1
          simp only [Option.some.injEq, Prod.mk.injEq] at hv
          obtain ⟨rfl, rfl⟩ := hv
          obtain ⟨kv, q1, q2⟩ := RDL.get hk j _ hk1
          obtain ⟨vv, q3, q4⟩ := VRL.get hvv j _ hv1
          rw [List.getElem?_map] at q1 q3
          cases he : es.toList[j]? with
          | none => rw [he] at q1; cases q1
          | some e =>
            rw [he] at q1 q3
            simp only [Option.map_some, Option.some.injEq] at q1 q3
            subst q1 q3
            refine ⟨es, ck, e, hr, hbn, ?_, by simpa using he, q2, q4⟩
            rw [hbn.1, ← hl.1]
            have := RDL.length hk
            simpa using this
        · cases hv
    · cases hv
  · cases hv
theorem entry_sim (I : Inv B h g w) {x : V} {xv : Value} (hx : VR w (Mut B.M0 h g) g x xv) {v : V} (hv : entryV x h = some v) :
    ∃ v', (Instr.entry xv).run P w = .ok v' w ∧ VR w (Mut B.M0 h g) g v v' := by
  unfold entryV at hv
  split at hv
  · rename_i b
    obtain ⟨hd, rfl⟩ := hx
    have hb := I.blk b
    split at hv
    · rename_i m n j hbk
      rw [hbk] at hb
      obtain ⟨_, hge, r, since, seen, ho, hj, _, hm⟩ := hb
      obtain ⟨kv, hkv, rfl⟩ := Option.map_eq_some_iff.1 hv
      obtain ⟨k, u⟩ := kv
      obtain ⟨es, ck, e, hr, hbn, rfl, he, hk, hu⟩ := atV_sim I hm hkv
      obtain ⟨hb1, hb2⟩ := born_at hbn he
      refine ⟨.tuple #[e.key, e.val], ?_, VR_mkTuple ⟨_, _, rfl, hk, _, _, rfl, hu, rfl⟩⟩
      have hs : seen = seen.pop.push e.born := by
        rw [hb1]
        have hne : seen.size ≠ 0 := by
          intro h0
          have : seen = #[] := Array.eq_empty_of_size_eq_zero h0
          subst this; simp at hj
        have := Array.back?_eq_some_iff.1 hj
        obtain ⟨xs, rfl⟩ := this
        simp
      rw [hs] at ho
      exact run_entry_at w (g.rho b) r since seen.pop es _ e ho hr hb2 (born_nodup hbn)
    · cases hv
  · cases hv
end
end Go.AM
end
section
namespace Go.AM
open Go Go.RowKit
section
variable {P : Program} {B : Base} {h : Heap} {g : G} {w : World} {M : Muts}

/-- the model has gone where the machine has -/
def Did (B : Base) (h : Heap) (g : G) (w : World) (id : Nat) (v : V) (h' : Heap) (r : Result Next) : Prop :=
  ∃ v' w', (r = .ok (.value v') w' ∨ (r = .ok .skip w' ∧ v' = undef)) ∧ Ok B h g w id v h' v' w'
theorem Did.value {id : Nat} {v : V} {h' : Heap} {s : Sem Value} (hh : ∃ v' w', s.run P w = .ok v' w' ∧ Ok B h g w id v h' v' w') :
    Did B h g w id v h' ((do pure (.value (← s)) : Sem Next).run P w) := by
  obtain ⟨v', w', h1, h2⟩ := hh
  exact ⟨v', w', .inl (by simp only [Sem.run_bind, h1, Result.andThen_ok, Sem.run_pure]), h2⟩
theorem Did.unit {id : Nat} {h' : Heap} {s : Sem Unit} (hh : ∃ w', s.run P w = .ok () w' ∧ Ok B h g w id undefV h' undef w') :
    Did B h g w id undefV h' ((do s; pure .skip : Sem Next).run P w) := by
  obtain ⟨w', h1, h2⟩ := hh
  exact ⟨undef, w', .inr ⟨by simp only [Sem.run_bind, h1, Result.andThen_ok, Sem.run_pure], rfl⟩, h2⟩
theorem Did.pv (I : Inv B h g w) {id : Nat} {v : V} {s : Sem Value} (hh : ∃ v', s.run P w = .ok v' w ∧ VR w (Mut B.M0 h g) g v v') :
    Did B h g w id v h ((do pure (.value (← s)) : Sem Next).run P w) := by
  obtain ⟨v', h1, h2⟩ := hh
  exact Did.value ⟨v', w, h1, Ok.pure I h2⟩
theorem opt_pair {α : Type} {x : Option α} {h0 h1 : Heap} {v : α} (hx : x.map (·, h0) = some (v, h1)) : x = some v ∧ h1 = h0 := by
  cases x with
  | none => cases hx
  | some a => simp at hx; exact ⟨by rw [hx.1], hx.2.symm⟩
theorem opt_snd {x : Option Heap} {v : V} {h1 : Heap} (hx : x.map (undefV, ·) = some (v, h1)) : x = some h1 ∧ v = undefV := by
  cases x with
  | none => cases hx
  | some a => simp at hx; exact ⟨by rw [hx.2], hx.1.symm⟩
theorem VRL.map {r : Operand → V} {ρ : Operand → Value} (hr : ∀ x, VR w M g (r x) (ρ x)) : ∀ (xs : List Operand), VRL w M g (xs.map r) (xs.map ρ)
  | [] => rfl
  | x :: xs => ⟨ρ x, xs.map ρ, rfl, hr x, VRL.map hr xs⟩
theorem VRo.map {r : Operand → V} {ρ : Operand → Value} (hr : ∀ x, VR w M g (r x) (ρ x)) (x : Option Operand) : VRo w M g (x.map r) (x.map ρ) := by
  cases x with
  | none => trivial
  | some x => exact hr x
def notCall : Op → Bool
  | .call _ => false
  | _ => true

theorem allD_cells_scalar : ∀ {us : List V} {ds : List D}, allD us = some ds → ds.all D.scalar = true → us.all V.scalar = true
  | [], _, _, _ => rfl
  | u :: us, ds, h, hs => by
    simp only [allD] at h
    split at h
    · rename_i d ds' hd hds
      simp only [Option.some.injEq] at h
      subst h
      simp only [List.all_cons, Bool.and_eq_true] at hs ⊢
      refine ⟨?_, allD_cells_scalar hds hs.2⟩
      cases u <;> simp_all [V.toD, V.scalar]
      obtain ⟨a, _, rfl⟩ := hd
      exact absurd hs.1 (by simp [D.scalar])
    · cases h
theorem boxV_sim (I : Inv B h g w) {id : Nat} (hid : ¬ g.dom id) (hlt : id < h.next) {t : TypeId} {mu : Bool} {x v : V} {xv : Value} {h' : Heap} (hx : VR w (Mut B.M0 h g) g x xv) (hv : boxV mu id x h = some (v, h')) :
    ∃ v' w', (Instr.box t xv).run P w = .ok v' w' ∧ Ok B h g w id v h' v' w' := by
  unfold boxV at hv
  split at hv
  · exact box_sim I hid hlt hx hv
  · split at hv
    · rename_i ds hds
      split at hv
      · rename_i hs
        simp only [Option.some.injEq, Prod.mk.injEq] at hv
        obtain ⟨rfl, rfl⟩ := hv
        have hs' : x.cells.all V.scalar = true := allD_cells_scalar hds hs
        have hr := allD_sim (VR_cells hx hs').1 hds
        obtain ⟨I', x'⟩ := I.same (Below.of_alloc w (.cells xv.cells t))
        refine ⟨.pointer (some ⟨w.heap.size, 0, none⟩), w.alloc (.cells xv.cells t), ?_, g, I', ?_, x', GLe.refl g, fun _ hb => .inl hb, rfl⟩
        · simp only [Instr.box, Sem.run_bind, Result.andThen_ok, newVar, newRow, run_newObj_alloc, Sem.run_pure]
        · refine ⟨w.heap.size, 0, rfl, At.of (RDL.mono x' _ _ hr) (by simpa [List.all_eq_true] using hs) (fun j u hj => ?_) (fun j _ => ?_)⟩
          · rw [cell_of_row (w.alloc (.cells xv.cells t)) _ _ xv.cells t (0, 0) (heap_alloc_new w _)]
            simpa using hj
          · rintro (h0 | ⟨i, hd, he, _⟩)
            · have := I.m0 _ _ h0; have := I.below.size; omega
            · have := I.lt i hd; omega
      · cases hv
    · exact box_sim I hid hlt hx hv
theorem step_sim (I : Inv B h g w) {id : Nat} (hid : ¬ g.dom id) (hlt : id < h.next) {r : Operand → V} {ρ : Operand → Value} (hr : ∀ x, VR w (Mut B.M0 h g) g (r x) (ρ x)) {mu : Bool} {o : Oper} {v : V} {h' : Heap}
    (hn : notCall o.op = true) (hv : stepV P mu o.op r id h = some (v, h')) : Did B h g w id v h' ((execOp ρ o).run P w) := by
  obtain ⟨dst, op, type, pos, after, guard⟩ := o
  simp only at hn hv
  cases op with
  | move x =>
    simp only [stepV, Option.some.injEq, Prod.mk.injEq] at hv
    obtain ⟨rfl, rfl⟩ := hv
    exact ⟨_, _, .inl rfl, Ok.pure I (hr x)⟩
  | assign x =>
    simp only [stepV, Option.some.injEq, Prod.mk.injEq] at hv
    obtain ⟨rfl, rfl⟩ := hv
    exact ⟨_, _, .inl rfl, Ok.pure I (hr x)⟩
  | pick c a b =>
    simp only [stepV] at hv
    split at hv
    · rename_i t hc
      have e : ρ c = .bool t := by have := hr c; rw [hc] at this; exact this
      simp only [Option.some.injEq, Prod.mk.injEq] at hv
      obtain ⟨rfl, rfl⟩ := hv
      refine ⟨if t then ρ a else ρ b, w, .inl ?_, Ok.pure I (by cases t; exact hr b; exact hr a)⟩
      simp only [execOp, e, asBool, Sem.run_bind, Sem.run_pure, Result.andThen_ok]
    · cases hv
  | alloc t =>
    simp only [stepV] at hv
    cases hz : zeroT P t with
    | none => rw [hz] at hv; cases hv
    | some z =>
      rw [hz] at hv
      exact Did.value (alloc_sim I hid hlt hz hv)
  | box t x => exact Did.value (boxV_sim I hid hlt (hr x) hv)
  | build t ps =>
    obtain ⟨h1, rfl⟩ := opt_pair hv
    refine Did.pv I (build_sim (ps := ps.toList.map fun p => (p.1, r p.2)) (by simp) ?_ h1)
    have := VRL.map (w := w) (M := Mut B.M0 h' g) (g := g) hr (ps.toList.map (·.2))
    simpa [List.map_map, Function.comp_def] using this
  | buildSlice t n ps =>
    simp only [stepV] at hv
    refine Did.value (bslice_sim I hid hlt (ps := ps.toList.map fun p => (p.1, r p.2)) (by simp) ?_ hv)
    have := VRL.map (w := w) (M := Mut B.M0 h g) (g := g) hr (ps.toList.map (·.2))
    simpa [List.map_map, Function.comp_def] using this
  | load t a =>
    simp only [stepV] at hv
    cases hq : tyT P t with
    | none => rw [hq] at hv; cases hv
    | some q =>
      rw [hq] at hv
      obtain ⟨h1, rfl⟩ := opt_pair hv
      exact Did.pv I (load_sim I hq (hr a) h1)
  | store t a x =>
    simp only [stepV] at hv
    cases hq : sizeT P t with
    | none => rw [hq] at hv; cases hv
    | some q =>
      rw [hq] at hv
      obtain ⟨h1, rfl⟩ := opt_snd hv
      exact Did.unit (store_sim I hq (hr a) (hr x) h1)
  | nilCheck x =>
    obtain ⟨h1, rfl⟩ := opt_pair hv
    obtain ⟨h2, rfl⟩ := nilCheck_sim (P := P) (w := w) (o := ⟨dst, .nilCheck x, type, pos, after, guard⟩) (ρ := ρ) rfl (hr x) h1
    exact ⟨ρ x, w, .inl h2, Ok.pure I (hr x)⟩
  | binOp op t x y ty =>
    obtain ⟨h1, rfl⟩ := opt_pair hv
    exact Did.pv I (binV_sim (xo := x) (yo := y) (hr x) (hr y) h1)
  | unOp op t x =>
    obtain ⟨h1, rfl⟩ := opt_pair hv
    exact Did.pv I (unV_sim (hr x) h1)
  | convert s d x =>
    obtain ⟨h1, rfl⟩ := opt_pair hv
    unfold convX at h1
    split at h1
    · rename_i u sd hcb hsd
      simp only [Option.some.injEq] at h1; subst h1
      exact Did.value (convB_sim I hsd (hr x) hcb)
    · exact Did.pv I (conv_sim (hr x) h1)
  | makeInterface t x =>
    simp only [stepV] at hv
    cases hu : P.underlying t with
    | none => rw [hu] at hv; simp at hv
    | some d =>
      rw [hu] at hv
      by_cases hni : ∃ ms, d = .interface ms
      · obtain ⟨ms, rfl⟩ := hni
        simp at hv
      · have hv' : (mkIface t (r x)).map (·, h) = some (v, h') := by
          cases d <;> first | exact hv | exact absurd ⟨_, rfl⟩ hni
        obtain ⟨h1, rfl⟩ := opt_pair hv'
        exact Did.pv I (iface_sim hu (fun ms e => hni ⟨ms, e⟩) (hr x) h1)
  | makeFunc fn a c =>
    cases fn with
    | func f =>
      simp only [stepV, Option.some.injEq, Prod.mk.injEq] at hv
      obtain ⟨rfl, rfl⟩ := hv
      refine Did.pv I ⟨_, rfl, fn_sim ?_ ?_⟩
      · simpa using VRL.map hr a.toList
      · simpa using VRL.map hr c.toList
    | _ => simp [stepV] at hv
  | makeMap t x =>
    cases x with
    | none =>
      simp only [stepV] at hv
      split at hv
      · simp only [Option.some.injEq, Prod.mk.injEq] at hv
        obtain ⟨rfl, rfl⟩ := hv
        exact Did.value (makeMap_sim I hid hlt)
      · cases hv
    | some _ => simp [stepV] at hv
  | makeSlice t l c => exact Did.value (mslice_sim I hid hlt (hr l) (hr c) hv)
  | slice t x lo hi mx =>
    obtain ⟨h1, rfl⟩ := opt_pair hv
    exact Did.pv I (sliceV_sim (hr x) (VRo.map hr lo) (VRo.map hr hi) (VRo.map hr mx) h1)
  | fieldAddr t x i =>
    simp only [stepV] at hv
    split at hv
    · rename_i off ft hf
      cases hs : sizeT P ft with
      | none => rw [hs] at hv; simp at hv
      | some sz =>
        cases sz with
        | zero => rw [hs] at hv; simp at hv
        | succ sz =>
          rw [hs] at hv
          simp only at hv
          obtain ⟨h1, rfl⟩ := opt_pair hv
          exact Did.pv I (fieldAddr_sim hf hs (hr x) h1)
    · cases hv
  | field t x i =>
    simp only [stepV] at hv
    split at hv
    · rename_i off ft hf
      cases hq : tyT P ft with
      | none => rw [hq] at hv; cases hv
      | some q =>
        rw [hq] at hv
        obtain ⟨h1, rfl⟩ := opt_pair hv
        exact Did.pv I (field_sim hf hq (hr x) h1)
    · cases hv
  | indexAddr t x i =>
    simp only [stepV] at hv
    split at hv
    · rename_i e ht
      cases hq : sizeT P e with
      | none => rw [hq] at hv; cases hv
      | some q =>
        rw [hq] at hv
        obtain ⟨h1, rfl⟩ := opt_pair hv
        exact Did.pv I (indexAddrS_sim ht hq (hr x) (hr i) h1)
    · rename_i n e ht
      cases hq : sizeT P e with
      | none => rw [hq] at hv; cases hv
      | some q =>
        rw [hq] at hv
        obtain ⟨h1, rfl⟩ := opt_pair hv
        exact Did.pv I (indexAddrA_sim ht hq (hr x) (hr i) h1)
    · cases hv
  | index t x i =>
    simp only [stepV] at hv
    split at hv
    · rename_i ht
      obtain ⟨h1, rfl⟩ := opt_pair hv
      exact Did.pv I (indexStr_sim ht (hr x) (hr i) h1)
    · rename_i n e ht
      cases hq : tyT P e with
      | none => rw [hq] at hv; cases hv
      | some q =>
        rw [hq] at hv
        obtain ⟨h1, rfl⟩ := opt_pair hv
        exact Did.pv I (indexA_sim ht hq (hr x) (hr i) h1)
    · cases hv
  | lookup t m k ok =>
    obtain ⟨h1, rfl⟩ := opt_pair hv
    exact Did.pv I (lookup_sim I (hr m) (hr k) h1)
  | mapUpdate t m k x =>
    obtain ⟨h1, rfl⟩ := opt_snd hv
    exact Did.unit (mapUpd_sim I (hr m) (hr k) (hr x) h1)
  | insert t m k x =>
    obtain ⟨h1, rfl⟩ := opt_snd hv
    exact Did.unit (mapUpd_sim I (hr m) (hr k) (hr x) h1)
  | extract x i =>
    obtain ⟨h1, rfl⟩ := opt_pair hv
    exact Did.pv I (extract_sim (hr x) h1)
  | range t x =>
    simp only [stepV] at hv
    cases hu : P.underlying t with
    | none => rw [hu] at hv; cases hv
    | some d =>
      rw [hu] at hv
      exact Did.value (range_sim I hid hlt hu (hr x) hv)
  | next x s => exact Did.value (next_sim I (hr x) hv)
  | entry x =>
    obtain ⟨h1, rfl⟩ := opt_pair hv
    exact Did.pv I (entry_sim I (hr x) h1)
  | call c => simp [notCall] at hn
  | _ => simp [stepV] at hv

theorem builtin_sim (I : Inv B h g w) {id : Nat} (hid : ¬ g.dom id) (hlt : id < h.next) {r : Operand → V} {ρ : Operand → Value} (hr : ∀ x, VR w (Mut B.M0 h g) g (r x) (ρ x)) {mu : Bool} {o : Oper} {v : V} {h' : Heap}
    {b : Builtin} {args : Array Operand} {ts : Array TypeId} (ho : o.op = .call { callee := .builtin b, args := args, argTypes := ts })
    (hv : builtinV P mu b ts.toList (args.toList.map r) id h = some (v, h')) : Did B h g w id v h' ((execOp ρ o).run P w) := by
  have ha : VRL w (Mut B.M0 h g) g (args.toList.map r) (args.map ρ).toList := by simpa using VRL.map hr args.toList
  generalize args.toList.map r = xs at ha hv
  unfold builtinV at hv
  split at hv
  · rename_i t x hts
    obtain ⟨xv, vs, e1, hx, e2⟩ := ha
    have e2' : vs = [] := e2
    subst e2'
    have ea : args.map ρ = #[xv] := Array.toList_inj.1 e1
    have et : ts = #[t] := Array.toList_inj.1 hts
    split at hv
    · rename_i d hu
      obtain ⟨h1, rfl⟩ := opt_pair hv
      obtain ⟨v', h2, h3⟩ := lenV_sim (ty := o.type) I hu hx h1
      refine ⟨v', w, .inl ?_, Ok.pure I h3⟩
      simp only [execOp, ho, resolve, Sem.run_bind, Sem.run_pure, Result.andThen_ok, invoke, builtin, ea, et, h2]
    · cases hv
  · rename_i t tx s x hts
    obtain ⟨sv, vs, e1, hs, e2⟩ := ha
    obtain ⟨xv, vs', rfl, hx, e3⟩ := e2
    have e3' : vs' = [] := e3
    subst e3'
    have ea : args.map ρ = #[sv, xv] := Array.toList_inj.1 e1
    have et : ts = #[t, tx] := Array.toList_inj.1 hts
    split at hv
    · rename_i hc
      obtain ⟨rfl, _⟩ := hc
      obtain ⟨v', w', h2, h3⟩ := append_sim (ty := o.type) I hid hlt hs hx hv
      refine ⟨v', w', .inl ?_, h3⟩
      simp only [execOp, ho, resolve, Sem.run_bind, Sem.run_pure, Result.andThen_ok, invoke, builtin, ea, et, h2]
    · cases hv
  · rename_i t tx s x hts
    obtain ⟨sv, vs, e1, hs, e2⟩ := ha
    obtain ⟨xv, vs', rfl, hx, e3⟩ := e2
    have e3' : vs' = [] := e3
    subst e3'
    have ea : args.map ρ = #[sv, xv] := Array.toList_inj.1 e1
    have et : ts = #[t, tx] := Array.toList_inj.1 hts
    split at hv
    · rename_i hc
      subst hc
      obtain ⟨v', w', h2, h3⟩ := copy_sim (ty := o.type) (id := id) I hs hx hv
      refine ⟨v', w', .inl ?_, h3⟩
      simp only [execOp, ho, resolve, Sem.run_bind, Sem.run_pure, Result.andThen_ok, invoke, builtin, ea, et, h2]
    · cases hv
  · obtain ⟨h1, rfl⟩ := opt_pair hv
    obtain ⟨x, rest, v', e1, h2, h3⟩ := foldD_sim (P := P) (w := w) (gv := Builtin.max2) (fun a b d x y => max2_sim) ha h1
    refine ⟨v', w, .inl ?_, Ok.pure I h3⟩
    simp only [execOp, ho, resolve, Sem.run_bind, Sem.run_pure, Result.andThen_ok, invoke, builtin, Builtin.max_, e1, h2]
  · obtain ⟨h1, rfl⟩ := opt_pair hv
    obtain ⟨x, rest, v', e1, h2, h3⟩ := foldD_sim (P := P) (w := w) (gv := Builtin.min2) (fun a b d x y => min2_sim) ha h1
    refine ⟨v', w, .inl ?_, Ok.pure I h3⟩
    simp only [execOp, ho, resolve, Sem.run_bind, Sem.run_pure, Result.andThen_ok, invoke, builtin, Builtin.min_, e1, h2]
  · cases hv
end
end Go.AM
end
section
namespace Go.AM
open Go Go.RowKit
section
variable {P : Program} {C : Cfg} {B : Base} {h : Heap} {g : G} {w : World} {callF : CallF}

theorem Ext.trans {a b c : World} {M1 M2 M3 : Muts} (x : Ext a M1 b M2) (y : Ext b M2 c M3) : Ext a M1 c M3 :=
  ⟨fun k o v hm hv => y.cell k o v (x.muts k o hm (World.block_lt_of_cell? _ _ hv)) (x.cell k o v hm hv), fun r es k hm hr => y.map r es k (x.muts r 0 hm (lt_of_map hr)) (x.map r es k hm hr),
    fun k o hm hlt => y.muts k o (x.muts k o hm hlt) (Nat.lt_of_lt_of_le hlt x.size), Nat.le_trans x.size y.size⟩
/-- the activation: which blocks of deferred calls there were when it began; the loop whose round it is -/
structure Fr where
  d0 : Nat → Prop
  rd : Option Nat
abbrev Fe (rd : Option Nat) : Fence := { Fence.wide with round := rd }
theorem callsIn_fe {rd : Option Nat} {n : Nat} {f : FuncId} {args : Array Value} {R : Ending → World → Prop} (h : Calls P f args w R) : CallsIn (Fe rd) n P f args w R :=
  show CallsIn Fence.wide n P f args w R from callsIn_wide.2 h
theorem roundIn_fe {rd : Option Nat} {n m l : Nat} {f : FuncId} {tmps : Array Value} {x y : Code} {R : Ending → World → Prop} (h : RoundIn Fence.wide m P l f tmps x y w R) : RoundIn (Fe rd) n P l f tmps x y w R :=
  ⟨trivial, fun c cs _ => h.2 c cs (room_wide _)⟩
def mark (d : Nat) : Deferred := { target := .collected d, args := #[] }
def DefOk (ds : Fr) (g : G) (a : Act) : Prop := (∃ Ds : List Nat, a.defers = Ds.map mark ∧ Ds.Nodup ∧ ∀ d ∈ Ds, g.dfr d ∧ ¬ ds.d0 d) ∧ (∀ l, ds.rd = some l → g.lps l) ∧ ∀ d, ds.d0 d → g.dfr d
theorem DefOk.mono {ds : Fr} {g g' : G} {a a' : Act} (h : DefOk ds g a) (y : GLe g g') (e : a'.defers = a.defers) : DefOk ds g' a' := by
  obtain ⟨⟨Ds, h1, h2, h3⟩, h4⟩ := h
  exact ⟨⟨Ds, e.trans h1, h2, fun d hd => ⟨y.dfr d (h3 d hd).1, (h3 d hd).2⟩⟩, fun l hl => y.lps l (h4.1 l hl), fun d hd => y.dfr d (h4.2 d hd)⟩
/-- the machine's state and the model's -/
structure St (B : Base) (N : Nat) (ds : Fr) (e : Env) (h : Heap) (g : G) (w : World) (a : Act) : Prop where
  inv : Inv B h g w
  env : ∀ t, VR w (Mut B.M0 h g) g (e t) (a.tmps.getD t undef)
  size : a.tmps.size = N
  defers : DefOk ds g a

variable {N : Nat} {ds : Fr} {e : Env} {a : Act}
theorem St.eval (s : St B N ds e h g w a) : ∀ x, VR w (Mut B.M0 h g) g (evO B.glob e x) (a.eval x)
  | .tmp t => s.env t
  | .const v => by
    show VR _ _ _ ((ofValue v).getD .unk) v
    cases hv : ofValue v with
    | none => trivial
    | some x => exact ofValue_sim hv
  | .global n => s.inv.glob n
  | .func f => ⟨#[], #[], rfl, rfl, rfl⟩
theorem put_env {w' : World} {M : Muts} {g' : G} (henv : ∀ t, VR w' M g' (e t) (a.tmps.getD t undef)) {d : Option Nat} (hd : ∀ s, d = some s → s < a.tmps.size) {v : V} {v' : Value} (hv : VR w' M g' v v') :
    ∀ t, VR w' M g' ((e.put d v) t) ((a.put d v').tmps.getD t undef) := by
  intro t
  cases d with
  | none => exact henv t
  | some s =>
    simp only [Env.put, Act.put]
    by_cases ht : t = s
    · subst ht
      have hlt := hd t rfl
      simp only [if_true]
      rw [Array.getD_eq_getD_getElem?, Array.getElem?_setIfInBounds_self_of_lt hlt]
      exact hv
    · simp only [if_neg ht]
      have := henv t
      rw [Array.getD_eq_getD_getElem?] at this ⊢
      rw [Array.getElem?_setIfInBounds_ne (Ne.symm ht)]
      exact this
theorem put_size (a : Act) (d : Option Nat) (v : Value) : (a.put d v).tmps.size = a.tmps.size ∧ (a.put d v).defers = a.defers := by
  cases d with
  | none => exact ⟨rfl, rfl⟩
  | some s => exact ⟨by simp [Act.put], rfl⟩

/-- what a call of a function must keep -/
def CallPost (B : Base) (h : Heap) (g : G) (w : World) (v : V) (h' : Heap) (e : Ending) (w' : World) : Prop :=
  ∃ v' g', e = .returned v' ∧ Inv B h' g' w' ∧ VR w' (Mut B.M0 h' g') g' v v' ∧ Ext w (Mut B.M0 h g) w' (Mut B.M0 h' g') ∧ GLe g g' ∧ (∀ b, g'.dom b → g.dom b ∨ h.next ≤ b) ∧ h.next ≤ h'.next
def CallOk (P : Program) (G0 : Gb) (callF : CallF) : Prop :=
  ∀ (B : Base) (h : Heap) (g : G) (w : World) (t : Tgt) (vs : List V) (vals : Array Value) (v : V) (h' : Heap), B.glob = G0 → Inv B h g w → VRL w (Mut B.M0 h g) g vs vals.toList → callF t vs h = some (v, h') →
    match t with
    | .fn f => (callFunc f vals).run P w = .ok (.enter f vals) w ∧ Calls P f vals w (CallPost B h g w v h')
    | .yld b => g.dom b → ∃ f tmps x y, (Instr.yield (g.rho b) vals).run P w = .ok (.round (g.rho b) f tmps x y) w ∧ RoundIn Fence.wide 0 P (g.rho b) f tmps x y w (CallPost B h g w v h')

theorem calleeV_sim {M : Muts} {r : Operand → V} {ρ : Operand → Value} (hr : ∀ x, VR w M g (r x) (ρ x)) {c : Call} {t : Tgt} {vs : List V} (hc : calleeV r c = some (t, vs)) (ty : TypeId) :
    ∃ vals : Array Value, VRL w M g vs vals.toList ∧ (match t with
      | .fn f => (do let d ← resolve ρ c ty; invoke d.target d.args : Sem Next) = callFunc f vals
      | .yld b => g.dom b ∧ (do let d ← resolve ρ c ty; invoke d.target d.args : Sem Next) = Instr.yield (g.rho b) vals) := by
  unfold calleeV targetV at hc
  cases hcal : c.callee with
  | value x =>
    rw [hcal] at hc
    simp only at hc
    have hx := hr x
    have hargs : VRL w M g (c.args.toList.map r) (c.args.map ρ).toList := by simpa using VRL.map hr c.args.toList
    cases hrx : r x with
    | d y =>
      cases y with
      | fn f' a b =>
        rw [hrx] at hx hc
        obtain ⟨av, bv, e1, h1, h2⟩ := hx
        simp only [Option.some.injEq, Prod.mk.injEq] at hc
        obtain ⟨rfl, rfl⟩ := hc
        refine ⟨av ++ c.args.map ρ ++ bv, ?_, ?_⟩
        · simp only [Array.toList_append]
          exact VRL.append (VRL.append (RDL.toVRL h1) hargs) (RDL.toVRL h2)
        · simp only [resolve, hcal, e1, Deferred.ofValue]
          rfl
      | _ => rw [hrx] at hc; simp at hc
    | fn f' a b =>
      rw [hrx] at hx hc
      obtain ⟨av, bv, e1, h1, h2⟩ := hx
      simp only [Option.some.injEq, Prod.mk.injEq] at hc
      obtain ⟨rfl, rfl⟩ := hc
      refine ⟨av ++ c.args.map ρ ++ bv, ?_, ?_⟩
      · simp only [Array.toList_append]
        exact VRL.append (VRL.append h1 hargs) h2
      · simp only [resolve, hcal, e1, Deferred.ofValue]
        rfl
    | yld b =>
      rw [hrx] at hx hc
      simp only [Option.some.injEq, Prod.mk.injEq] at hc
      obtain ⟨rfl, rfl⟩ := hc
      refine ⟨c.args.map ρ, hargs, hx.1, ?_⟩
      have hx2 : ρ x = .func (.yield (g.rho b)) #[] #[] := hx.2
      simp only [resolve, hcal, hx2, Deferred.ofValue, Array.empty_append]
      rfl
    | _ => rw [hrx] at hc; simp at hc
  | _ => rw [hcal] at hc; simp at hc

/-- one operation of a region, whatever it is -/
theorem op_sim (hC : CallOk P C.glob callF) (hB : B.glob = C.glob) (s : St B N ds e h g w a) {f : FuncId} {o : Oper} {id : Nat} (hid : ¬ g.dom id) (hlt : id < h.next) (hd : ∀ t, o.dst = some t → t < N) {v : V} {h' : Heap}
    (hv : stepC P C callF f o e id h = some (v, h')) {K : Act → World → Prop} {Q : Exit → Act → World → Prop}
    (hK : ∀ a' w' g', St B N ds (e.put o.dst v) h' g' w' a' → Ext w (Mut B.M0 h g) w' (Mut B.M0 h' g') → GLe g g' → (∀ b, g'.dom b → g.dom b ∨ b = id ∨ h.next ≤ b) → h.next ≤ h'.next → K a' w') : o.wpIn (Fe ds.rd) 0 P a w K Q := by
  have hev := s.eval
  rw [hB] at hev
  have hd' : ∀ t, o.dst = some t → t < a.tmps.size := fun t ht => by rw [s.size]; exact hd t ht
  have hnd : ∀ c, o.op ≠ .defer c := by
    intro c hc
    unfold stepC at hv
    simp [hc, stepV] at hv
  have fin : Did B h g w id v h' ((execOp a.eval o).run P w) → o.wpIn (Fe ds.rd) 0 P a w K Q := by
    rintro ⟨v', w', hres, g', h1, h2, h3, h4, h5, h6⟩
    have hst : St B N ds (e.put o.dst v) h' g' w' (a.put o.dst v') :=
      ⟨h1, put_env (fun t => VR.mono h3 h4 _ _ (s.env t)) hd' h2, by rw [(put_size _ _ _).1]; exact s.size, s.defers.mono h4 (put_size _ _ _).2⟩
    have hk := hK _ _ g' hst h3 h4 (fun b hb => (h5 b hb).imp (fun q => q) .inl) (by omega)
    refine ⟨fun _ _ => trivial, ?_⟩
    rw [Oper.semAt_eq _ _ _ hnd]
    rcases hres with hr | ⟨hr, rfl⟩
    · rw [hr]; exact hk
    · rw [hr]; exact hk
  unfold stepC at hv
  split at hv
  · rename_i b args ts ho
    exact fin (builtin_sim s.inv hid hlt hev ho hv)
  · rename_i c hnb ho
    split at hv
    · rename_i tg vs hcal
      obtain ⟨vals, h1, h2⟩ := calleeV_sim hev hcal o.type
      have h34 := hC B h g w tg vs vals v h' hB s.inv h1 hv
      refine ⟨fun _ _ => trivial, ?_⟩
      rw [Oper.semAt_eq _ _ _ hnd]
      cases tg with
      | fn f' =>
        obtain ⟨h3, h4⟩ := h34
        have : (execOp a.eval o).run P w = .ok (.enter f' vals) w := by
          rw [← h3, ← h2]
          simp only [execOp, ho]
        rw [this]
        refine ⟨(fun hq => by cases hq), CallsIn.mono (callsIn_fe h4) ?_⟩
        rintro en w' ⟨v', g', rfl, b1, b2, b3, b4, b5, b6⟩
        exact hK _ _ g' ⟨b1, put_env (fun t => VR.mono b3 b4 _ _ (s.env t)) hd' b2, by rw [(put_size _ _ _).1]; exact s.size, s.defers.mono b4 (put_size _ _ _).2⟩ b3 b4
          (fun b hb => (b5 b hb).imp (fun q => q) .inr) b6
      | yld b =>
        obtain ⟨hdb, h2⟩ := h2
        obtain ⟨f', tmps, x1, y1, h3, h4⟩ := h34 hdb
        have : (execOp a.eval o).run P w = .ok (.round (g.rho b) f' tmps x1 y1) w := by
          rw [← h3, ← h2]
          simp only [execOp, ho]
        rw [this]
        refine ⟨(fun hq => by cases hq), RoundIn.mono (roundIn_fe h4) ?_⟩
        rintro en w' ⟨v', g', rfl, b1, b2, b3, b4, b5, b6⟩
        exact hK _ _ g' ⟨b1, put_env (fun t => VR.mono b3 b4 _ _ (s.env t)) hd' b2, by rw [(put_size _ _ _).1]; exact s.size, s.defers.mono b4 (put_size _ _ _).2⟩ b3 b4
          (fun b hb => (b5 b hb).imp (fun q => q) .inr) b6
    · cases hv
  · rename_i op hnb hnc
    refine fin (step_sim s.inv hid hlt hev ?_ hv)
    cases hop : o.op with
    | call c => exact absurd hop (hnc c)
    | _ => rfl

theorem wanted_sim {ops : Array Oper} (s : St B N ds e h g w a) {o : Oper} {b : Bool} (hw : wantedV ops e o = some b) (hg : ∀ j x, o.guard = some (j, x) → ∀ oj d, ops[j]? = some oj → oj.dst = some d → d < N) :
    Region.wanted o (yielded ops a.tmps) = b := by
  unfold wantedV at hw
  unfold Region.wanted
  cases hgd : o.guard with
  | none => rw [hgd] at hw; simpa using hw
  | some jw =>
    obtain ⟨j, want⟩ := jw
    rw [hgd] at hw
    simp only at hw ⊢
    cases hj : (ops[j]?).bind (·.dst) with
    | none =>
      rw [hj] at hw
      simp only [Option.some.injEq] at hw
      subst hw
      simp [yielded, hj]
    | some d =>
      rw [hj] at hw
      simp only at hw
      obtain ⟨oj, ho1, ho2⟩ := Option.bind_eq_some_iff.1 hj
      have hlt : d < a.tmps.size := by rw [s.size]; exact hg j want hgd oj d ho1 ho2
      have hv := s.env d
      have hget : a.tmps[d]? = some (a.tmps.getD d undef) := by
        rw [Array.getD_eq_getD_getElem?, Array.getElem?_eq_getElem hlt]; rfl
      unfold yielded
      rw [hj]
      simp only [Option.bind_some, hget]
      generalize a.tmps.getD d undef = x at hv
      cases hed : e d with
      | d y =>
        rw [hed] at hw hv
        cases y with
        | bool c =>
          have e1 : x = .bool c := hv
          subst e1
          simp at hw
          cases c <;> cases want <;> simp_all
        | _ =>
          simp at hw
          have hnb : ∀ c, x ≠ .bool c := by
            rintro c rfl
            simp [VR, RD] at hv
          cases x <;> first | (simp at hw ⊢; exact hw) | exact absurd rfl (hnb _)
      | unk => rw [hed] at hw; simp at hw
      | _ =>
        rw [hed] at hw hv
        simp at hw
        have hnb : ∀ c, x ≠ .bool c := by
          rintro c rfl
          simp [VR] at hv
        cases x <;> first | (simp at hw ⊢; exact hw) | exact absurd rfl (hnb _)

theorem opsOk_spec {ops : Array Oper} (h : opsOk N ops = true) {i : Nat} {o : Oper} (ho : ops[i]? = some o) {d : Nat} (hd : o.dst = some d) : d < N := by
  unfold opsOk at h
  have := Array.all_eq_true_iff_forall_mem.1 h o (Array.mem_of_getElem? ho)
  rw [hd] at this
  simpa using this

theorem ops_sim (hC : CallOk P C.glob callF) (hB : B.glob = C.glob) {f : FuncId} {ops : Array Oper} (hok : opsOk N ops = true) {Q : Exit → Act → World → Prop} {base : Nat} {g0 : G} {h0 : Heap} {w0 : World} :
    ∀ (l : List Oper) (i : Nat) (e : Env) (h : Heap) (g : G) (w : World) (a : Act) (e' : Env) (h' : Heap), ops.toList.drop i = l → St B N ds e h g w a → (∀ j, i ≤ j → j < ops.size → ¬ g.dom (base + j)) → base + ops.size ≤ h.next →
      Ext w0 (Mut B.M0 h0 g0) w (Mut B.M0 h g) → GLe g0 g → (∀ b, g.dom b → g0.dom b ∨ base ≤ b) → runOps P C callF f ops base l i e h = some (e', h') →
      (∀ a' w' g', St B N ds e' h' g' w' a' → Ext w0 (Mut B.M0 h0 g0) w' (Mut B.M0 h' g') → GLe g0 g' → (∀ b, g'.dom b → g0.dom b ∨ base ≤ b) → h.next ≤ h'.next → Q .normal a' w') →
      wpOpsIn (Fe ds.rd) 0 P ops Q ((List.range ops.size).drop i) a w
  | [], i, e, h, g, w, a, e', h', hl, s, _, _, x, y, hdm, hr, hQ => by
    have hi : ops.size ≤ i := by
      have := List.drop_eq_nil_iff.1 hl
      simpa using this
    rw [List.drop_of_length_le (by simpa using hi)]
    simp only [runOps, Option.some.injEq, Prod.mk.injEq] at hr
    obtain ⟨rfl, rfl⟩ := hr
    exact hQ a w g s x y hdm (Nat.le_refl _)
  | o :: l, i, e, h, g, w, a, e', h', hl, s, hfr, hnx, x, y, hdm, hr, hQ => by
    have hi : i < ops.size := by
      rcases Nat.lt_or_ge i ops.size with h1 | h1
      · exact h1
      · rw [List.drop_of_length_le (by simpa using h1)] at hl; cases hl
    have ho : ops[i]? = some o := by
      have : (ops.toList.drop i)[0]? = some o := by rw [hl]; rfl
      rw [List.getElem?_drop] at this
      simpa using this
    have hl' : ops.toList.drop (i + 1) = l := by
      rw [← List.drop_drop, hl]; rfl
    have hrange : (List.range ops.size).drop i = i :: (List.range ops.size).drop (i + 1) := by
      rw [List.drop_eq_getElem_cons (by simpa using hi)]; simp
    rw [hrange, wpOpsIn_cons]
    unfold wpOpIn
    simp only [ho]
    simp only [runOps] at hr
    cases hw : wantedV ops e o with
    | none => rw [hw] at hr; cases hr
    | some b =>
      rw [hw] at hr
      rw [wanted_sim s hw (fun j x _ oj d h1 h2 => opsOk_spec hok h1 h2)]
      cases b with
      | false =>
        simp only [Bool.false_eq_true, if_false] at hr ⊢
        refine ⟨fun _ _ => trivial, ?_⟩
        refine ops_sim hC hB hok l (i + 1) _ h g w (a.put o.dst undef) e' h' hl' ⟨s.inv, put_env s.env (fun t ht => by rw [s.size]; exact opsOk_spec hok ho ht) undef_sim, by rw [(put_size _ _ _).1]; exact s.size, s.defers.mono (GLe.refl g) (put_size _ _ _).2⟩
          (fun j h1 h2 => hfr j (by omega) h2) hnx x y hdm hr hQ
      | true =>
        simp only [if_true] at hr ⊢
        cases hst : stepC P C callF f o e (base + i) h with
        | none => rw [hst] at hr; cases hr
        | some p =>
          obtain ⟨v, h1⟩ := p
          rw [hst] at hr
          refine op_sim hC hB s (hfr i (Nat.le_refl _) hi) (by omega) (fun t ht => opsOk_spec hok ho ht) hst ?_
          intro a' w' g' s' x' y' hdm' hnx'
          refine ops_sim hC hB hok l (i + 1) _ h1 g' w' a' e' h' hl' s' (fun j j1 j2 hj => ?_) (by omega) ?_ (y.trans y') (fun b hb => ?_) hr (fun a2 w2 g2 q1 q2 q3 q4 q5 => hQ a2 w2 g2 q1 q2 q3 q4 (by omega))
          · rcases hdm' _ hj with q | q | q
            · exact hfr j (by omega) j2 q
            · omega
            · omega
          · exact x.trans x'
          · rcases hdm' _ hb with q | q | q
            · exact hdm b q
            · exact .inr (by omega)
            · exact .inr (by omega)
end
end Go.AM
end
section
namespace Go.AM
open Go Go.RowKit
section
variable {P : Program} {C : Cfg} {callF : CallF}

theorem stepV_congr {mu : Bool} {op : Op} {r r2 : Operand → V} (hr : ∀ x ∈ op.operands, r x = r2 x) (hn : notCall op = true) (id : Nat) (h : Heap) : stepV P mu op r id h = stepV P mu op r2 id h := by
  cases op <;> simp only [Op.operands] at hr <;> simp only [stepV]
  case build t ps =>
    have : (ps.toList.map fun p => (p.1, r p.2)) = ps.toList.map fun p => (p.1, r2 p.2) := by
      apply List.map_congr_left; intro p hp; rw [hr p.2 (by simp; exact ⟨p.1, by simpa using hp⟩)]
    rw [this]
  case buildSlice t n ps =>
    have : (ps.toList.map fun p => (p.1, r p.2)) = ps.toList.map fun p => (p.1, r2 p.2) := by
      apply List.map_congr_left; intro p hp; rw [hr p.2 (by simp; exact ⟨p.1, by simpa using hp⟩)]
    rw [this]
  case makeFunc fn a c =>
    cases fn <;> try rfl
    simp only
    rw [List.map_congr_left (l := a.toList) (f := r) (g := r2) (fun x hx => hr x (by simp; exact .inl (by simpa using hx))),
      List.map_congr_left (l := c.toList) (f := r) (g := r2) (fun x hx => hr x (by simp; exact .inr (by simpa using hx)))]
  case makeMap t x => cases x <;> rfl
  case slice t x lo hi mx =>
    cases lo <;> cases hi <;> cases mx <;> simp_all
  case call c => simp [notCall] at hn
  all_goals simp_all
theorem footV_congr {op : Op} {r r2 : Operand → V} (hr : ∀ x ∈ op.operands, r x = r2 x) (id : Nat) : footV op r id = footV op r2 id := by
  cases op <;> simp only [Op.operands] at hr <;> simp only [footV]
  case call c =>
    obtain ⟨cal, args, ts⟩ := c
    cases cal with
    | builtin b =>
      simp only
      rw [List.map_congr_left (l := args.toList) (f := r) (g := r2) (fun x hx => hr x (by simp [Call.operands]; simpa using hx))]
    | _ => rfl
  all_goals simp_all

/-- the ids that an operation reads or writes; those it writes -/
def Fp.all : Fp → List Nat
  | .rd l | .wr l => l
  | _ => []
def Fp.writes : Fp → List Nat
  | .wr l => l
  | _ => []
/-- a step from a heap that agrees where it is touched -/
def Local (f : Heap → Option (V × Heap)) (fp : Fp) (h : Heap) : Prop :=
  ∀ v h', f h = some (v, h') → h'.next = h.next ∧ (∀ b, b ∉ fp.writes → h'.blk b = h.blk b) ∧
    ∀ h2 : Heap, (∀ b ∈ fp.all, h2.blk b = h.blk b) → ∃ h2', f h2 = some (v, h2') ∧ h2'.next = h2.next ∧ ∀ b, h2'.blk b = if b ∈ fp.writes then h'.blk b else h2.blk b
theorem Local.pure {x : Option V} {fp : Fp} {h : Heap} (hw : fp.writes = []) : Local (fun h => x.map (·, h)) fp h := by
  intro v h' hf
  obtain ⟨h1, rfl⟩ := opt_pair hf
  refine ⟨rfl, fun _ _ => rfl, fun h2 _ => ⟨h2, by simp [h1], rfl, fun b => by simp [hw]⟩⟩
theorem Local.read {x : Heap → Option V} {fp : Fp} {h : Heap} (hw : fp.writes = []) (hx : ∀ h2 : Heap, (∀ b ∈ fp.all, h2.blk b = h.blk b) → x h2 = x h) : Local (fun h => (x h).map (·, h)) fp h := by
  intro v h' hf
  obtain ⟨h1, rfl⟩ := opt_pair hf
  refine ⟨rfl, fun _ _ => rfl, fun h2 ha => ⟨h2, by simp [hx h2 ha, h1], rfl, fun b => by simp [hw]⟩⟩
theorem Local.none {fp : Fp} {h : Heap} : Local (fun _ => none) fp h := fun _ _ h => by cases h
/-- a new block -/
theorem Local.new {id : Nat} {x : Option (V × Block)} {h : Heap} : Local (fun h => x.map fun p => (p.1, h.upd id p.2)) (.wr [id]) h := by
  intro v h' hf
  cases x with
  | none => cases hf
  | some p =>
    simp only [Option.map_some, Option.some.injEq, Prod.mk.injEq] at hf
    obtain ⟨rfl, rfl⟩ := hf
    refine ⟨rfl, fun b hb => Heap.upd_ne _ _ (by simpa [Fp.writes] using hb), fun h2 _ => ⟨_, rfl, rfl, fun b => ?_⟩⟩
    by_cases e : b = id
    · subst e; simp [Fp.writes, Heap.upd_same]
    · simp [Fp.writes, e, Heap.upd_ne]
/-- a block that turns as it stands -/
theorem Local.turn {b0 : Nat} {x : Block → Option Block} {h : Heap} : Local (fun h => (x (h.blk b0)).map fun p => (undefV, h.upd b0 p)) (.wr [b0]) h := by
  intro v h' hf
  simp only at hf
  cases hx : x (h.blk b0) with
  | none => rw [hx] at hf; cases hf
  | some p =>
    rw [hx] at hf
    simp only [Option.map_some, Option.some.injEq, Prod.mk.injEq] at hf
    obtain ⟨rfl, rfl⟩ := hf
    refine ⟨rfl, fun b hb => Heap.upd_ne _ _ (by simpa [Fp.writes] using hb), fun h2 ha => ⟨h2.upd b0 p, ?_, rfl, fun b => ?_⟩⟩
    · show (x (h2.blk b0)).map _ = _
      rw [ha b0 (by simp [Fp.all]), hx]; rfl
    · by_cases e : b = b0
      · subst e; simp [Fp.writes, Heap.upd_same]
      · simp [Fp.writes, e, Heap.upd_ne]
theorem Local.of_eq {f f' : Heap → Option (V × Heap)} {fp : Fp} {h : Heap} (he : ∀ h, f h = f' h) (hl : Local f' fp h) : Local f fp h := by
  have : f = f' := funext he
  rw [this]; exact hl

theorem loadV_local {q : Bool × Nat} {a : V} {h : Heap} : Local (fun h => (loadV q.1 q.2 a h).map (·, h)) (fpR a) h := by
  cases a with
  | ref b off => exact Local.read rfl (fun h2 ha => by simp only [loadV]; rw [ha b (by simp [Fp.all, fpR])])
  | d x => exact Local.read rfl (fun h2 _ => by cases x <;> rfl)
  | _ => exact Local.read rfl (fun h2 _ => rfl)
theorem allocV_local' {id : Nat} {x : V} {h : Heap} : Local (fun h => allocV id x h) (.wr [id]) h := by
  refine Local.of_eq (f' := fun h => (if x.cells.all V.scalar = true then some (V.ref id 0, Block.cells x.cells) else none).map fun (p : V × Block) => (p.1, h.upd id p.2)) (fun h => ?_) Local.new
  unfold allocV; split <;> rfl
theorem Local.const {fp : Fp} {v : V} {h : Heap} : Local (fun h => some (v, h)) fp h := by
  intro v' h' hf
  simp only [Option.some.injEq, Prod.mk.injEq] at hf
  obtain ⟨rfl, rfl⟩ := hf
  refine ⟨rfl, fun _ _ => rfl, fun h2 ha => ⟨h2, rfl, rfl, fun b => ?_⟩⟩
  split
  · rename_i hb
    refine ha b ?_
    cases fp <;> simp_all [Fp.writes, Fp.all]
  · rfl
theorem boxV_local {mu : Bool} {id : Nat} {x : V} {h : Heap} : Local (fun h => boxV mu id x h) (.wr [id]) h := by
  unfold boxV
  split
  · exact allocV_local'
  · split
    · split
      · exact Local.const
      · exact Local.none
    · exact allocV_local'
def storeB (sz off : Nat) (x : V) (blk : Block) : Option Block := match blk with
  | .cells vs => if x.cells.length = sz ∧ off + sz ≤ vs.length ∧ x.cells.all V.scalar = true then some (.cells (spliceAt vs off x.cells)) else none
  | _ => none
theorem storeV_local {sz : Nat} {a x : V} {h : Heap} (hb : notBad (fpW a) = true) : Local (fun h => (storeV sz a x h).map (undefV, ·)) (fpW a) h := by
  cases a with
  | ref b off =>
    show Local _ (.wr [b]) h
    refine Local.of_eq (fun h => ?_) (Local.turn (b0 := b) (x := storeB sz off x))
    simp only [storeV, storeB]
    cases h.blk b with
    | cells vs => simp only; split <;> rfl
    | _ => rfl
  | _ => simp [notBad, fpW] at hb
def mapUpdB (P : Program) (t : TypeId) (k x : V) (blk : Block) : Option Block := match P.underlying t, k with
  | some (.map kt _), .d k => if keyTyped P kt k then (match blk with
    | .map ks vs => match findK k ks 0 with
      | some (some i) => some (.map ks (vs.set i x))
      | some none => some (.map (ks ++ [k]) (vs ++ [x]))
      | none => none
    | _ => none) else none
  | _, _ => none
theorem mapUpdV_local {t : TypeId} {m k x : V} {h : Heap} (hb : notBad (fpWM m) = true) : Local (fun h => (mapUpdV P t m k x h).map (undefV, ·)) (fpWM m) h := by
  cases m with
  | mref b =>
    show Local _ (.wr [b]) h
    refine Local.of_eq (fun h => ?_) (Local.turn (b0 := b) (x := mapUpdB P t k x))
    unfold mapUpdV mapUpdB
    cases P.underlying t with
    | none => rfl
    | some d =>
      cases d with
      | map kt e =>
        cases k with
        | d k =>
          simp only
          split
          · cases h.blk b with
            | map ks vs =>
              simp only
              cases findK k ks 0 with
              | none => rfl
              | some q => cases q <;> rfl
            | _ => rfl
          · rfl
        | _ => rfl
      | _ => rfl
  | _ => simp [notBad, fpWM] at hb
theorem lookupV_local {t : TypeId} {ok : Bool} {m k : V} {h : Heap} : Local (fun h => (lookupV P t ok m k h).map (·, h)) (fpRM m) h := by
  have key : ∀ h2 : Heap, (∀ k, foundV k m h2 = foundV k m h) → lookupV P t ok m k h2 = lookupV P t ok m k h := by
    intro h2 hf
    unfold lookupV
    split
    · rw [hf]
    · rfl
  cases m with
  | mref b => exact Local.read rfl (fun h2 ha => key h2 (fun k => by simp only [foundV]; rw [ha b (by simp [Fp.all, fpRM])]))
  | d x => exact Local.read rfl (fun h2 _ => key h2 (fun k => by cases x <;> rfl))
  | _ => exact Local.read rfl (fun h2 _ => key h2 (fun k => rfl))
theorem allocV_local {id : Nat} {x : V} {h : Heap} : Local (fun h => allocV id x h) (.wr [id]) h := by
  refine Local.of_eq (f' := fun h => (if x.cells.all V.scalar = true then some (V.ref id 0, Block.cells x.cells) else none).map fun (p : V × Block) => (p.1, h.upd id p.2)) (fun h => ?_) Local.new
  unfold allocV; split <;> rfl
theorem bsliceV_local {mu : Bool} {t : TypeId} {n : Nat} {ps : List (Nat × V)} {id : Nat} {h : Heap} : Local (fun h => bsliceV P mu t n ps id h) (.wr [id]) h := by
  refine Local.of_eq (f' := fun h => (match P.underlying t with
    | some (.slice e) => match sizeT P e, zeroT P e with
      | some sz, some z =>
        if 0 < sz ∧ n * sz ≤ 16777216 ∧ z.cells.length = sz then
          match (partsOf (fun i => some (i * sz, sz)) ps).bind (fillV (List.replicate n z.cells).flatten) with
          | some cells =>
            if cells.all V.scalar = true then
              if mu then some (V.sref id 0 n sz, Block.cells cells) else
              match allD cells with
              | some ds => some (V.own id (chunk sz n ds), Block.tok e sz)
              | none => none
            else none
          | none => none
        else none
      | _, _ => none
    | _ => none).map fun (p : V × Block) => (p.1, h.upd id p.2)) (fun h => ?_) Local.new
  unfold bsliceV
  cases P.underlying t with
  | none => rfl
  | some d =>
    cases d with
    | slice e =>
      simp only
      cases sizeT P e <;> cases zeroT P e <;> try rfl
      simp only
      split
      · cases hq : (partsOf (fun i => some (i * _, _)) ps).bind (fillV (List.replicate n _).flatten) with
        | none => rfl
        | some cells =>
          simp only
          by_cases h2 : cells.all V.scalar = true
          · simp only [if_pos h2]
            cases mu
            · simp only [Bool.false_eq_true, if_false]
              cases allD cells <;> rfl
            · rfl
          · simp only [if_neg h2]; rfl
      · rfl
    | _ => rfl
theorem msliceV_local {mu : Bool} {t : TypeId} {l c : V} {id : Nat} {h : Heap} : Local (fun h => msliceV P mu t l c id h) (.wr [id]) h := by
  refine Local.of_eq (f' := fun h => (match P.underlying t, l, c with
    | some (.slice e), .d (.int _ l), .d (.int _ c) => match sizeT P e, bytesT P e, zeroT P e with
      | some sz, some by_, some z =>
        if 0 ≤ l ∧ l ≤ c ∧ 0 < sz ∧ c ≤ 1099511627776 ∧ by_ * c ≤ 140737488355328 ∧ z.cells.length = sz ∧ z.cells.all V.scalar = true then
          if mu then some (V.sref id 0 l.toNat sz, Block.cells ((List.replicate l.toNat z.cells).flatten)) else
          match allD z.cells with
          | some ds => some (V.own id (List.replicate l.toNat ds), Block.tok e sz)
          | none => none
        else none
      | _, _, _ => none
    | _, _, _ => none).map fun (p : V × Block) => (p.1, h.upd id p.2)) (fun h => ?_) Local.new
  unfold msliceV
  cases P.underlying t with
  | none => rfl
  | some d =>
    cases d with
    | slice e =>
      cases l with
      | d l =>
        cases l with
        | int k l =>
          cases c with
          | d c =>
            cases c with
            | int k' c =>
              simp only
              cases sizeT P e <;> cases bytesT P e <;> cases zeroT P e <;> try rfl
              rename_i z
              simp only
              split
              · cases mu
                · simp only [Bool.false_eq_true, if_false]
                  cases allD z.cells <;> rfl
                · rfl
              · rfl
            | _ => rfl
          | _ => rfl
        | _ => rfl
      | _ => rfl
    | _ => rfl
def appTail (e sz by_ : Nat) (ys : List (List D)) (s : V) (id : Nat) (h2' : Heap) : Option (V × Heap) := match s with
  | .nils => if ys.length * by_ ≤ rowsBytes ∧ ys.length ≤ rowsBytes then some (.own id ys, h2'.upd id (.tok e sz)) else none
  | .own t rows => if (rows.length + ys.length) * by_ ≤ rowsBytes ∧ rows.length + ys.length ≤ rowsBytes then
      (match h2'.blk t with
      | .tok e' sz' => if e' = e ∧ sz' = sz then some (.own id (rows ++ ys), (h2'.upd t .dead).upd id (.tok e sz)) else none
      | _ => none) else none
  | _ => none
theorem appendV_local {t : TypeId} {s x : V} {id : Nat} {h : Heap} {fp : Fp} (hfp : fp = fpApp s x id) (hb : notBad fp = true) : Local (fun h => appendV P t s x id h) fp h := by
  have hx : ∀ h2 sz, newsOf sz x h2 = newsOf sz x h := by
    intro h2 sz
    cases x with
    | sref => simp [fpApp] at hfp; subst hfp; simp [notBad] at hb
    | _ => rfl
  have hsub : ∀ b, b ∈ fp.writes → b ∈ fp.all := by
    intro b hb'
    cases fp <;> simp [Fp.writes, Fp.all] at hb' ⊢; exact hb'
  intro v h' hv
  simp only at hv
  unfold appendV at hv
  split at hv
  · rename_i e ht
    split at hv
    · rename_i sz by_ z h1 h2 h3
      split at hv
      · rename_i hn
        split at hv
        · rename_i hss
          simp only [Option.some.injEq, Prod.mk.injEq] at hv
          obtain ⟨rfl, rfl⟩ := hv
          refine ⟨rfl, fun _ _ => rfl, fun h2' ha => ⟨h2', ?_, rfl, fun b => ?_⟩⟩
          · unfold appendV
            simp only [ht, h1, h2, h3, hx, hn, hss, if_true]
          · split
            · rename_i hm; exact ha b (hsub b hm)
            · rfl
        · cases hv
      · rename_i ys hne hn
        split at hv
        · rename_i hc
          have un : ∀ h2' : Heap, appendV P t s x id h2' = appTail e sz by_ ys s id h2' := by
            intro h2'
            unfold appendV
            simp only [ht, h1, h2, h3, hx h2', hn]
            cases ys with
            | nil => exact (hne rfl).elim
            | cons y ys =>
              simp only [if_pos hc, appTail]
              cases s <;> first | rfl | (split <;> first | rfl | (cases h2'.blk _ <;> rfl))
          cases s with
          | nils =>
            have hfp' : fp = .wr [id] := by rw [hfp]; cases x <;> first | rfl | (simp [fpApp] at hfp; subst hfp; simp [notBad] at hb)
            simp only at hv
            split at hv
            · rename_i hcc
              simp only [Option.some.injEq, Prod.mk.injEq] at hv
              obtain ⟨rfl, rfl⟩ := hv
              subst hfp'
              refine ⟨rfl, fun b hb => Heap.upd_ne _ _ (by simpa [Fp.writes] using hb), fun h2' _ => ⟨h2'.upd id (.tok e sz), ?_, rfl, fun b => ?_⟩⟩
              · show appendV P t _ x id h2' = _
                rw [un]; simp only [appTail, if_pos hcc]
              · by_cases e' : b = id
                · subst e'; simp [Fp.writes, Heap.upd_same]
                · simp [Fp.writes, e', Heap.upd_ne]
            · cases hv
          | own tk rows =>
            have hfp' : fp = .wr [tk, id] := by rw [hfp]; cases x <;> first | rfl | (simp [fpApp] at hfp; subst hfp; simp [notBad] at hb)
            simp only at hv
            split at hv
            · rename_i hcc
              cases hblk : h.blk tk with
              | tok e' sz' =>
                rw [hblk] at hv
                simp only at hv
                split at hv
                · rename_i hee
                  simp only [Option.some.injEq, Prod.mk.injEq] at hv
                  obtain ⟨rfl, rfl⟩ := hv
                  subst hfp'
                  refine ⟨rfl, fun b hb => ?_, fun h2' ha => ⟨(h2'.upd tk .dead).upd id (.tok e sz), ?_, rfl, fun b => ?_⟩⟩
                  · simp only [Fp.writes, List.mem_cons, List.mem_nil_iff, or_false, not_or] at hb
                    rw [Heap.upd_ne _ _ hb.2, Heap.upd_ne _ _ hb.1]
                  · show appendV P t _ x id h2' = _
                    rw [un]; simp only [appTail, if_pos hcc, ha tk (by simp [Fp.all]), hblk, if_pos hee]
                  · by_cases e1 : b = id
                    · subst e1; simp [Fp.writes, Heap.upd_same]
                    · by_cases e2 : b = tk
                      · subst e2; simp [Fp.writes, Heap.upd_ne _ _ e1, Heap.upd_same]
                      · simp [Fp.writes, e1, e2, Heap.upd_ne]
                · cases hv
              | _ => rw [hblk] at hv; simp at hv
            · cases hv
          | _ => simp at hv
        · cases hv
      · cases hv
    · cases hv
  · cases hv
theorem lenV_local {d : TypeDesc} {x : V} {h : Heap} : Local (fun h => (lenV d x h).map (·, h)) (fpRM x) h := by
  cases x with
  | mref b =>
    refine Local.read rfl (fun h2 ha => ?_)
    cases d <;> simp only [lenV]
    rw [ha b (by simp [Fp.all, fpRM])]
  | d y => exact Local.read rfl (fun h2 _ => by cases d <;> simp only [lenV] <;> cases y <;> rfl)
  | _ => exact Local.read rfl (fun h2 _ => by cases d <;> rfl)
theorem opt_bind_local {α : Type} {x : Option α} {f : α → Heap → Option (V × Heap)} {fp : Fp} {h : Heap} (hl : ∀ a, x = some a → Local (f a) fp h) : Local (fun h => x.bind fun a => f a h) fp h := by
  cases x with
  | none => exact fun _ _ hh => by cases hh
  | some a => exact Local.of_eq (fun h => rfl) (hl a rfl)
theorem stepV_local {mu : Bool} {op : Op} {r : Operand → V} {id : Nat} {h : Heap} (hn : notCall op = true) (hb : notBad (footV op r id) = true) : Local (fun h => stepV P mu op r id h) (footV op r id) h := by
  cases op with
  | move x => exact Local.of_eq (f' := fun h => (some (r x)).map (·, h)) (fun _ => rfl) (Local.pure rfl)
  | assign x => exact Local.of_eq (f' := fun h => (some (r x)).map (·, h)) (fun _ => rfl) (Local.pure rfl)
  | pick c a b =>
    refine Local.of_eq (f' := fun h => (match r c with | .d (.bool t) => some (if t then r a else r b) | _ => none).map (·, h)) (fun h => ?_) (Local.pure rfl)
    simp only [stepV]
    generalize r c = z
    cases z with
    | d y => cases y <;> rfl
    | _ => rfl
  | alloc t => exact opt_bind_local (fun z _ => allocV_local)
  | box t x => exact boxV_local
  | build t ps => exact Local.pure rfl
  | buildSlice t n ps => exact bsliceV_local
  | load t a => exact opt_bind_local (fun q _ => loadV_local)
  | store t a x => exact opt_bind_local (fun q _ => storeV_local hb)
  | nilCheck x => exact Local.pure rfl
  | binOp op t x y ty => exact Local.pure rfl
  | unOp op t x => exact Local.pure rfl
  | convert s d x => exact Local.pure rfl
  | makeInterface t x =>
    refine Local.of_eq (f' := fun h => (match P.underlying t with | some (.interface _) | none => none | some _ => mkIface t (r x)).map (·, h)) (fun h => ?_) (Local.pure rfl)
    simp only [stepV]
    cases P.underlying t with
    | none => rfl
    | some d => cases d <;> rfl
  | makeFunc fn a c =>
    cases fn with
    | func f => exact Local.of_eq (f' := fun h => (some (mkFn f (a.toList.map r) (c.toList.map r))).map (·, h)) (fun _ => rfl) (Local.pure rfl)
    | _ => exact fun _ _ hh => by simp [stepV] at hh
  | makeMap t x =>
    cases x with
    | none =>
      refine Local.of_eq (f' := fun h => (match P.underlying t with | some (.map _ _) => some (V.mref id, Block.map [] []) | _ => none).map fun (p : V × Block) => (p.1, h.upd id p.2)) (fun h => ?_) Local.new
      simp only [stepV]
      cases P.underlying t with
      | none => rfl
      | some d => cases d <;> rfl
    | some _ => exact fun _ _ hh => by simp [stepV] at hh
  | makeSlice t l c => exact msliceV_local
  | slice t x lo hi mx => exact Local.pure rfl
  | fieldAddr t x i =>
    refine Local.of_eq (f' := fun h => (match fieldOff P t i with
      | some (off, ft) => (match sizeT P ft with
        | some 0 | none => none
        | some _ => fieldAddrV off (r x))
      | none => none).map (·, h)) (fun h => ?_) (Local.pure rfl)
    simp only [stepV]
    cases fieldOff P t i with
    | none => rfl
    | some q =>
      obtain ⟨off, ft⟩ := q
      simp only
      cases sizeT P ft with
      | none => rfl
      | some n => cases n <;> rfl
  | field t x i =>
    refine Local.of_eq (f' := fun h => (match fieldOff P t i with
      | some (off, ft) => (tyT P ft).bind fun q => fieldV q.1 q.2 off (r x)
      | none => none).map (·, h)) (fun h => ?_) (Local.pure rfl)
    simp only [stepV]
    cases fieldOff P t i with
    | none => rfl
    | some q =>
      obtain ⟨off, ft⟩ := q
      simp only
      cases tyT P ft <;> rfl
  | indexAddr t x i =>
    refine Local.of_eq (f' := fun h => (match P.underlying t with
      | some (.slice e) => (sizeT P e).bind fun sz => indexAddrS sz (r x) (r i)
      | some (.array n e) => (sizeT P e).bind fun sz => indexAddrA n sz (r x) (r i)
      | _ => none).map (·, h)) (fun h => ?_) (Local.pure rfl)
    simp only [stepV]
    cases P.underlying t with
    | none => rfl
    | some d => cases d <;> first | rfl | (simp only; cases sizeT P _ <;> rfl)
  | index t x i =>
    refine Local.of_eq (f' := fun h => (match P.underlying t with
      | some .string => indexStr (r x) (r i)
      | some (.array n e) => (tyT P e).bind fun q => indexA n q.1 q.2 (r x) (r i)
      | _ => none).map (·, h)) (fun h => ?_) (Local.pure rfl)
    simp only [stepV]
    cases P.underlying t with
    | none => rfl
    | some d => cases d <;> first | rfl | (simp only; cases tyT P _ <;> rfl)
  | lookup t m k ok => exact lookupV_local
  | mapUpdate t m k x => exact mapUpdV_local hb
  | insert t m k x => exact mapUpdV_local hb
  | extract x i => exact Local.pure rfl
  | range t x => simp [footV, notBad] at hb
  | next x s => simp [footV, notBad] at hb
  | entry x => simp [footV, notBad] at hb
  | call c => simp [notCall] at hn
  | _ => exact fun _ _ hh => by simp [stepV] at hh
end
end Go.AM
end
section
namespace Go.AM
open Go Go.RowKit
section
variable {P : Program} {C : Cfg} {callF : CallF}

/-- the states that the run in the text's order goes through -/
structure Run (P : Program) (C : Cfg) (callF : CallF) (f : FuncId) (ops : Array Oper) (base : Nat) (i : Nat) (E : Nat → Env) (H : Nat → Heap) (U : Nat → V) (F : Nat → Fp) : Prop where
  step : ∀ k o, i ≤ k → ops[k]? = some o → E (k + 1) = (E k).put o.dst (U k) ∧
    ((wantedV ops (E k) o = some true ∧ stepC P C callF f o (E k) (base + k) (H k) = some (U k, H (k + 1)) ∧ F k = footC C o (E k) (base + k)) ∨
     (wantedV ops (E k) o = some false ∧ U k = undefV ∧ H (k + 1) = H k ∧ F k = .none))
theorem run_of {f : FuncId} {ops : Array Oper} {base : Nat} : ∀ (l : List Oper) (i : Nat) (e : Env) (h : Heap) (fps : List Fp) (e' : Env) (h' : Heap), ops.toList.drop i = l →
    runOpsF P C callF f ops base l i e h = some (fps, e', h') → ∃ E H U F, Run P C callF f ops base i E H U F ∧ E i = e ∧ H i = h ∧ E (i + l.length) = e' ∧ H (i + l.length) = h' ∧ fps = (List.range l.length).map fun j => F (i + j)
  | [], i, e, h, fps, e', h', hl, hr => by
    simp only [runOpsF, Option.some.injEq, Prod.mk.injEq] at hr
    obtain ⟨rfl, rfl, rfl⟩ := hr
    refine ⟨fun _ => e, fun _ => h, fun _ => undefV, fun _ => .none, ⟨fun k o hk ho => ?_⟩, rfl, rfl, rfl, rfl, rfl⟩
    have h1 := List.drop_eq_nil_iff.1 hl
    have h2 := (Array.getElem?_eq_some_iff.1 ho).1
    simp at h1; omega
  | o :: l, i, e, h, fps, e', h', hl, hr => by
    have hl' : ops.toList.drop (i + 1) = l := by rw [← List.drop_drop, hl]; rfl
    have ho : ops[i]? = some o := by
      have : (ops.toList.drop i)[0]? = some o := by rw [hl]; rfl
      rw [List.getElem?_drop] at this
      simpa using this
    have key : ∀ (v : V) (h1 : Heap) (fp : Fp) (fps' : List Fp), fps = fp :: fps' → runOpsF P C callF f ops base l (i + 1) (e.put o.dst v) h1 = some (fps', e', h') →
        ((wantedV ops e o = some true ∧ stepC P C callF f o e (base + i) h = some (v, h1) ∧ fp = footC C o e (base + i)) ∨ (wantedV ops e o = some false ∧ v = undefV ∧ h1 = h ∧ fp = .none)) →
        ∃ E H U F, Run P C callF f ops base i E H U F ∧ E i = e ∧ H i = h ∧ E (i + (l.length + 1)) = e' ∧ H (i + (l.length + 1)) = h' ∧ fps = (List.range (l.length + 1)).map fun j => F (i + j) := by
      intro v h1 fp fps' hf hr' hs
      obtain ⟨E, H, U, F, hR, e1, e2, e3, e4, e5⟩ := run_of l (i + 1) _ h1 fps' e' h' hl' hr'
      refine ⟨fun k => if k = i then e else E k, fun k => if k = i then h else H k, fun k => if k = i then v else U k, fun k => if k = i then fp else F k, ⟨fun k o' hk ho' => ?_⟩, by simp, by simp, ?_, ?_, ?_⟩
      · by_cases hki : k = i
        · subst hki
          have : o' = o := by rw [ho] at ho'; exact (Option.some.inj ho').symm
          subst this
          simp only [if_true, if_neg (show ¬ k + 1 = k from by omega), e1, e2]
          exact ⟨trivial, hs⟩
        · simp only [if_neg hki, if_neg (show ¬ k + 1 = i from by omega)]
          exact hR.step k o' (by omega) ho'
      · simp only [if_neg (show ¬ i + (l.length + 1) = i from by omega)]
        rw [show i + (l.length + 1) = i + 1 + l.length from by omega]; exact e3
      · simp only [if_neg (show ¬ i + (l.length + 1) = i from by omega)]
        rw [show i + (l.length + 1) = i + 1 + l.length from by omega]; exact e4
      · rw [hf, e5, List.range_succ_eq_map, List.map_cons, List.map_map]
        simp only [Nat.add_zero, if_true]
        congr 1
        apply List.map_congr_left
        intro j _
        simp only [Function.comp, if_neg (show ¬ i + (j + 1) = i from by omega)]
        congr 1; omega
    simp only [runOpsF] at hr
    cases hw : wantedV ops e o with
    | none => rw [hw] at hr; cases hr
    | some b =>
      rw [hw] at hr
      cases b with
      | false =>
        simp only at hr
        cases hr' : runOpsF P C callF f ops base l (i + 1) (e.put o.dst undefV) h with
        | none => rw [hr'] at hr; cases hr
        | some p =>
          obtain ⟨fps', e2, h2⟩ := p
          rw [hr'] at hr
          simp only [Option.map_some, Option.some.injEq, Prod.mk.injEq] at hr
          obtain ⟨h3, rfl, rfl⟩ := hr
          exact key undefV h .none fps' h3.symm hr' (.inr ⟨hw, rfl, rfl, rfl⟩)
      | true =>
        simp only at hr
        cases hst : stepC P C callF f o e (base + i) h with
        | none => rw [hst] at hr; cases hr
        | some p =>
          obtain ⟨v, h1⟩ := p
          rw [hst] at hr
          simp only at hr
          cases hr' : runOpsF P C callF f ops base l (i + 1) (e.put o.dst v) h1 with
          | none => rw [hr'] at hr; cases hr
          | some p =>
            obtain ⟨fps', e2, h2⟩ := p
            rw [hr'] at hr
            simp only [Option.map_some, Option.some.injEq, Prod.mk.injEq] at hr
            obtain ⟨h3, rfl, rfl⟩ := hr
            exact key v h1 _ fps' h3.symm hr' (.inl ⟨hw, hst, rfl⟩)

/-! what has come about when a set of operations has run -/
def eL (ops : Array Oper) (E : Nat → Env) (U : Nat → V) (L : Nat → Bool) : Nat → Env
  | 0 => E 0
  | k + 1 => if L k then (match ops[k]? with | some o => (eL ops E U L k).put o.dst (U k) | none => eL ops E U L k) else eL ops E U L k
def hL (H : Nat → Heap) (F : Nat → Fp) (L : Nat → Bool) : Nat → Nat → Block
  | 0 => (H 0).blk
  | k + 1 => if L k then fun b => if b ∈ (F k).writes then (H (k + 1)).blk b else hL H F L k b else hL H F L k

/-- slot t is written by operation k -/
def writesSlot (ops : Array Oper) (k : Nat) (t : Nat) : Prop := ∃ o, ops[k]? = some o ∧ o.dst = some t
theorem eL_agree {f : FuncId} {ops : Array Oper} {base : Nat} {E : Nat → Env} {H : Nat → Heap} {U : Nat → V} {F : Nat → Fp} (hR : Run P C callF f ops base 0 E H U F) {L : Nat → Bool} {i t : Nat} (n : Nat)
    (hn : n ≤ ops.size) (hw : ∀ k, k < ops.size → writesSlot ops k t → (L k = true ↔ k < i)) : eL ops E U L n t = E (min i n) t := by
  induction n with
  | zero => simp [eL]
  | succ n ih =>
    have ih := ih (by omega)
    have ho : ops[n]? = some ops[n] := Array.getElem?_eq_getElem (by omega)
    have hs := (hR.step n _ (Nat.zero_le _) ho).1
    have hput : ∀ (e : Env) (v : V), ¬ writesSlot ops n t → (e.put (ops[n]).dst v) t = e t := by
      intro e v hnw
      cases hd : (ops[n]).dst with
      | none => rfl
      | some s =>
        simp only [Env.put]
        rw [if_neg]
        rintro rfl
        exact hnw ⟨_, ho, hd⟩
    have hput2 : ∀ (e e2 : Env) (v : V), writesSlot ops n t → (e.put (ops[n]).dst v) t = (e2.put (ops[n]).dst v) t := by
      rintro e e2 v ⟨o, h1, h2⟩
      rw [ho] at h1
      obtain rfl := Option.some.inj h1
      rw [h2]; simp [Env.put]
    by_cases hwr : writesSlot ops n t
    · have hiff := hw n (by omega) hwr
      cases hLn : L n with
      | true =>
        have hlt : n < i := hiff.1 hLn
        simp only [eL, hLn, if_true, ho]
        rw [Nat.min_eq_right (by omega), hs]
        exact hput2 _ _ _ hwr
      | false =>
        have hge : i ≤ n := by
          rcases Nat.lt_or_ge n i with h1 | h1
          · rw [hiff.2 h1] at hLn; cases hLn
          · exact h1
        simp only [eL, hLn, Bool.false_eq_true, if_false]
        rw [ih, Nat.min_eq_left hge, Nat.min_eq_left (by omega)]
    · have h1 : eL ops E U L (n + 1) t = eL ops E U L n t := by
        simp only [eL]
        split
        · rw [ho]; exact hput _ _ hwr
        · rfl
      rw [h1, ih]
      by_cases hin : i ≤ n
      · rw [Nat.min_eq_left hin, Nat.min_eq_left (by omega)]
      · rw [Nat.min_eq_right (by omega), Nat.min_eq_right (by omega), hs, hput _ _ hwr]

/-- calls that are kept apart leave the machine's memory alone -/
def CallApart (C : Cfg) (callF : CallF) : Prop := ∀ f vs, apartC C f vs = true → ∃ x : Option V, ∀ h, callF f vs h = x.map (·, h)
theorem builtinV_local {mu : Bool} {b : Builtin} {args : Array Operand} {ts : Array TypeId} {r : Operand → V} {id : Nat} {h : Heap} (hb : notBad (footV (.call { callee := .builtin b, args := args, argTypes := ts }) r id) = true) :
    Local (fun h => builtinV P mu b ts.toList (args.toList.map r) id h) (footV (.call { callee := .builtin b, args := args, argTypes := ts }) r id) h := by
  simp only [footV] at hb ⊢
  generalize args.toList.map r = xs at hb ⊢
  cases b <;> try (simp [notBad] at hb; done)
  case len =>
    cases xs with
    | nil => simp [notBad] at hb
    | cons x xs =>
      cases xs with
      | cons y ys => simp [notBad] at hb
      | nil =>
        simp only
        cases ts.toList with
        | nil => exact fun _ _ hh => by simp [builtinV] at hh
        | cons t tl =>
          cases tl with
          | cons _ _ => exact fun _ _ hh => by simp [builtinV] at hh
          | nil =>
            simp only [builtinV]
            cases P.underlying t with
            | none => exact Local.none
            | some d => exact lenV_local
  case append =>
    cases xs with
    | nil => simp [notBad] at hb
    | cons s xs =>
      cases xs with
      | nil => simp [notBad] at hb
      | cons x xs =>
        cases xs with
        | cons _ _ => simp [notBad] at hb
        | nil =>
          simp only at hb ⊢
          cases ts.toList with
          | nil => exact fun _ _ hh => by simp [builtinV] at hh
          | cons t tl =>
            cases tl with
            | nil => exact fun _ _ hh => by simp [builtinV] at hh
            | cons tx tl =>
              cases tl with
              | cons _ _ => exact fun _ _ hh => by simp [builtinV] at hh
              | nil =>
                simp only [builtinV]
                by_cases hc : tx = t ∧ mu = false
                · simp only [if_pos hc]
                  exact appendV_local rfl hb
                · simp only [if_neg hc]
                  exact Local.none
  case max => exact Local.of_eq (f' := fun h => (foldD max2D xs).map (·, h)) (fun h => by unfold builtinV; cases xs with | nil => rfl | cons x xs => rfl) (Local.pure rfl)
  case min => exact Local.of_eq (f' := fun h => (foldD min2D xs).map (·, h)) (fun h => by unfold builtinV; cases xs with | nil => rfl | cons x xs => rfl) (Local.pure rfl)
theorem evO_congr {glob : Nat → V} {e e2 : Env} {x : Operand} (h : ∀ t, x = .tmp t → e2 t = e t) : evO glob e2 x = evO glob e x := by
  cases x with
  | tmp t => exact h t rfl
  | _ => rfl
theorem stepC_local (hA : CallApart C callF) {f : FuncId} {o : Oper} {e e2 : Env} {id : Nat} {h : Heap} (he : ∀ t, .tmp t ∈ o.op.operands → e2 t = e t) (hb : notBad (footC C o e id) = true) :
    Local (fun h => stepC P C callF f o e id h) (footC C o e id) h ∧ ∀ h, stepC P C callF f o e2 id h = stepC P C callF f o e id h := by
  have hev : ∀ x ∈ o.op.operands, evO C.glob e2 x = evO C.glob e x := fun x hx => evO_congr fun t ht => he t (ht ▸ hx)
  cases hop : o.op with
  | call c =>
    rw [hop] at hev
    obtain ⟨cal, args, ts⟩ := c
    have hargs : args.toList.map (evO C.glob e2) = args.toList.map (evO C.glob e) := List.map_congr_left fun x hx => hev x (by simp [Op.operands, Call.operands]; exact .inr (by simpa using hx))
    cases cal with
    | builtin b =>
      simp only [footC, hop] at hb ⊢
      refine ⟨?_, fun h => ?_⟩
      · refine Local.of_eq (fun h => ?_) (builtinV_local (P := P) (mu := muO C f o.dst) hb)
        simp only [stepC, hop, stepV]
      · simp only [stepC, hop, stepV, hargs]
    | value x =>
      have hx : evO C.glob e2 x = evO C.glob e x := hev x (by simp [Op.operands, Call.operands])
      have hcal : calleeV (evO C.glob e2) { callee := .value x, args := args, argTypes := ts } = calleeV (evO C.glob e) { callee := .value x, args := args, argTypes := ts } := by
        simp only [calleeV, hx, hargs]
      simp only [footC, hop] at hb ⊢
      refine ⟨?_, fun h => ?_⟩
      · cases hc : calleeV (evO C.glob e) { callee := .value x, args := args, argTypes := ts } with
        | none => exact fun _ _ hh => by simp [stepC, hop, hc] at hh
        | some p =>
          obtain ⟨g, vs⟩ := p
          rw [hc] at hb
          simp only at hb ⊢
          by_cases ha : apartC C g vs = true
          · simp only [if_pos ha]
            obtain ⟨y, hy⟩ := hA g vs ha
            exact Local.of_eq (f' := fun h => y.map (·, h)) (fun h => by simp only [stepC, hop, hc, hy]) (Local.pure rfl)
          · simp [if_neg ha, notBad] at hb
      · simp only [stepC, hop, hcal]
    | invoke x m =>
      simp only [footC, hop, calleeV] at hb
      simp [notBad] at hb
  | _ =>
    rw [hop] at hev
    simp only [footC, hop] at hb ⊢
    refine ⟨?_, fun h => ?_⟩
    · refine Local.of_eq (fun h => ?_) (stepV_local (P := P) (mu := muO C f o.dst) rfl hb)
      simp only [stepC, hop]
    · simp only [stepC, hop]
      exact stepV_congr hev rfl id h
theorem wantedV_congr {ops : Array Oper} {e e2 : Env} {o : Oper} (h : ∀ j x d, o.guard = some (j, x) → (ops[j]?).bind (·.dst) = some d → e2 d = e d) : wantedV ops e2 o = wantedV ops e o := by
  unfold wantedV
  cases hg : o.guard with
  | none => rfl
  | some p =>
    obtain ⟨j, x⟩ := p
    simp only
    cases hd : (ops[j]?).bind (·.dst) with
    | none => rfl
    | some d => simp only [h j x d hg hd]

theorem hL_agree {f : FuncId} {ops : Array Oper} {base : Nat} {E : Nat → Env} {H : Nat → Heap} {U : Nat → V} {F : Nat → Fp} (hR : Run P C callF f ops base 0 E H U F) (hA : CallApart C callF)
    (hbad : ∀ k, k < ops.size → notBad (F k) = true) {L : Nat → Bool} {i b : Nat} (n : Nat) (hn : n ≤ ops.size) (hw : ∀ k, k < ops.size → b ∈ (F k).writes → (L k = true ↔ k < i)) :
    hL H F L n b = (H (min i n)).blk b := by
  induction n with
  | zero => simp [hL]
  | succ n ih =>
    have ih := ih (by omega)
    have ho : ops[n]? = some ops[n] := Array.getElem?_eq_getElem (by omega)
    have hsame : b ∉ (F n).writes → (H (n + 1)).blk b = (H n).blk b := by
      intro hb
      rcases (hR.step n _ (Nat.zero_le _) ho).2 with ⟨_, h1, h2⟩ | ⟨_, _, h1, _⟩
      · have := hbad n (by omega)
        rw [h2] at this hb
        exact ((stepC_local (P := P) (f := f) (e2 := E n) (h := H n) hA (fun _ _ => rfl) this).1 _ _ h1).2.1 b hb
      · rw [h1]
    by_cases hwr : b ∈ (F n).writes
    · have hiff := hw n (by omega) hwr
      cases hLn : L n with
      | true =>
        have hlt : n < i := hiff.1 hLn
        simp only [hL, hLn, if_true, if_pos hwr]
        rw [Nat.min_eq_right (by omega)]
      | false =>
        have hge : i ≤ n := by
          rcases Nat.lt_or_ge n i with h1 | h1
          · rw [hiff.2 h1] at hLn; cases hLn
          · exact h1
        simp only [hL, hLn, Bool.false_eq_true, if_false]
        rw [ih, Nat.min_eq_left hge, Nat.min_eq_left (by omega)]
    · have h1 : hL H F L (n + 1) b = hL H F L n b := by
        simp only [hL]
        split
        · simp only [if_neg hwr]
        · rfl
      rw [h1, ih]
      by_cases hin : i ≤ n
      · rw [Nat.min_eq_left hin, Nat.min_eq_left (by omega)]
      · rw [Nat.min_eq_right (by omega), Nat.min_eq_right (by omega), hsame hwr]
theorem eL_skip {ops : Array Oper} {E : Nat → Env} {U : Nat → V} {L : Nat → Bool} {i t : Nat} (hnw : ¬ writesSlot ops i t) : eL ops E U L (i + 1) t = eL ops E U L i t := by
  simp only [eL]
  split
  · cases ho : ops[i]? with
    | none => rfl
    | some o =>
      simp only
      cases hd : o.dst with
      | none => rfl
      | some s =>
        simp only [Env.put]
        rw [if_neg]
        rintro rfl
        exact hnw ⟨o, ho, hd⟩
  · rfl
theorem eL_other {ops : Array Oper} {E : Nat → Env} {U : Nat → V} {L : Nat → Bool} {i t : Nat} (hnw : ¬ writesSlot ops i t) (n : Nat) :
    eL ops E U (fun k => if k = i then true else L k) n t = eL ops E U L n t := by
  induction n with
  | zero => rfl
  | succ n ih =>
    by_cases hni : n = i
    · subst hni
      rw [eL_skip hnw, eL_skip hnw]; exact ih
    · simp only [eL, if_neg hni]
      split
      · cases ho : ops[n]? with
        | none => exact ih
        | some o =>
          simp only
          cases o.dst with
          | none => exact ih
          | some s => simp only [Env.put]; split; rfl; exact ih
      · exact ih
theorem hL_skip {H : Nat → Heap} {F : Nat → Fp} {L : Nat → Bool} {i b : Nat} (hnw : b ∉ (F i).writes) : hL H F L (i + 1) b = hL H F L i b := by
  simp only [hL]
  split
  · simp only [if_neg hnw]
  · rfl
theorem hL_other {H : Nat → Heap} {F : Nat → Fp} {L : Nat → Bool} {i b : Nat} (hnw : b ∉ (F i).writes) (n : Nat) :
    hL H F (fun k => if k = i then true else L k) n b = hL H F L n b := by
  induction n with
  | zero => rfl
  | succ n ih =>
    by_cases hni : n = i
    · subst hni
      rw [hL_skip hnw, hL_skip hnw]; exact ih
    · simp only [hL, if_neg hni]
      split
      · simp only [ih]
      · exact ih

/-! the order by the edges -/
structure Ordered (ops : Array Oper) (T : List (List Nat)) : Prop where
  back : ∀ j o d, ops[j]? = some o → d ∈ o.after → Region.binds .any d = true → d.on < j
  cert : ∀ j o i, ops[j]? = some o → i ∈ T.getD j [] → ∃ d ∈ o.after, Region.binds .any d = true ∧ (d.on = i ∨ i ∈ T.getD d.on [])
  slot : ∀ i j p o s, ops[i]? = some p → ops[j]? = some o → i ≠ j → p.dst = some s → i ∈ T.getD j [] ∨ j ∈ T.getD i [] ∨ (s ∉ Oper.looksAt ops o ∧ o.dst ≠ some s)
theorem ordered_of {ops : Array Oper} (h : drawOk ops = true) : Ordered ops (predsOf ops) := by
  have hh : ∀ j o, ops[j]? = some o →
      ((o.after.toList.all fun d => !Region.binds .any d || decide (d.on < j)) = true ∧
      (((predsOf ops).getD j []).all fun i => (o.after.toList.any fun d => Region.binds .any d && (d.on == i || ((predsOf ops).getD d.on []).contains i))) = true) ∧
      ((List.range ops.size).all fun i => i == j || ((predsOf ops).getD j []).contains i || ((predsOf ops).getD i []).contains j ||
        (match ops[i]? with
        | some p => match p.dst with
          | some s => !(Oper.looksAt ops o).contains s && o.dst != some s
          | none => true
        | none => true)) = true := by
    intro j o ho
    have hm : (o, j) ∈ ops.toList.zipIdx := by
      rw [List.mem_zipIdx_iff_getElem?]; simpa using ho
    have := List.all_eq_true.1 h _ hm
    simp only [Bool.and_eq_true] at this
    exact ⟨⟨this.1.1, this.1.2⟩, this.2⟩
  refine ⟨fun j o d ho hd hb => ?_, fun j o i ho hi => ?_, fun i j p o s hp ho hne hs => ?_⟩
  · have := List.all_eq_true.1 (hh j o ho).1.1 d (by simpa using hd)
    simpa [hb] using this
  · have := List.all_eq_true.1 (hh j o ho).1.2 i hi
    obtain ⟨d, h1, h2⟩ := List.any_eq_true.1 this
    simp only [Bool.and_eq_true, Bool.or_eq_true, beq_iff_eq, List.contains_iff_mem] at h2
    exact ⟨d, by simpa using h1, h2.1, h2.2⟩
  · have hi : i < ops.size := (Array.getElem?_eq_some_iff.1 hp).1
    have := List.all_eq_true.1 (hh j o ho).2 i (List.mem_range.2 hi)
    rw [hp] at this
    simp only [hs, Bool.or_eq_true, beq_iff_eq, List.contains_iff_mem, Bool.and_eq_true, Bool.not_eq_true', bne_iff_ne, ne_eq] at this
    rcases this with ((h1 | h1) | h1) | h1
    · exact absurd h1 hne
    · exact .inl h1
    · exact .inr (.inl h1)
    · refine .inr (.inr ⟨fun hc => ?_, h1.2⟩)
      have := h1.1
      simp at this
      exact this hc
/-- sets that hold with an operation what must stand ahead of it -/
def Closed (ops : Array Oper) (L : Nat → Bool) : Prop := ∀ j o d, L j = true → ops[j]? = some o → d ∈ o.after → Region.binds .any d = true → L d.on = true
theorem closed_preds {ops : Array Oper} {T : List (List Nat)} (hO : Ordered ops T) {L : Nat → Bool} (hL : Closed ops L) : ∀ (j i : Nat) (o : Oper), ops[j]? = some o → L j = true → i ∈ T.getD j [] → L i = true ∧ i < j := by
  intro j
  induction j using Nat.strongRecOn with
  | _ j ih =>
    intro i o ho hj hi
    obtain ⟨d, h1, h2, h3⟩ := hO.cert j o i ho hi
    have hlt := hO.back j o d ho h1 h2
    have hd := hL j o d hj ho h1 h2
    rcases h3 with rfl | h3
    · exact ⟨hd, hlt⟩
    · have hsz : d.on < ops.size := Nat.lt_trans hlt (Array.getElem?_eq_some_iff.1 ho).1
      obtain ⟨h4, h5⟩ := ih d.on hlt i _ (Array.getElem?_eq_getElem hsz) hd h3
      exact ⟨h4, by omega⟩
end
end Go.AM
end
