/- What comes in, as the machine's data. Data of a plain type, leaf by leaf. From the row to the machine: what comes in, what the variables hold, and what is asked behind the call. The arguments of the laws, typed. -/
import Derived.Test.YtmfgnajlkoafkaaGreatDoorMd
import Derived.ChangeArms
import Derived.OpenShut
import Derived.DataReads
import Derived.ProofKit
import Derived.Test.YtmfgnajlkoafkaaGreatDoorZTi
import Derived.Test.YtmfgnajlkoafkaaGreatDoorCards
import Derived.Test.YtmfgnajlkoafkaaGreatDoorTie
import Derived.HandedShaped
import Derived.Handed
import Derived.LaidMore
import Derived.LaidLaws
import Derived.Stop.LaidErr
import Derived.Lib.LaidTab
import Derived.Lay
import Derived.Below
import Derived.ChangeSame
import Derived.Carry
import Derived.JoinedOf
import Derived.SevenTiedAt
import Derived.Stop.Joined
import Derived.MakeChecks
import Derived.WideKeyArgs
set_option linter.all false
set_option maxHeartbeats 2000000
section
namespace Go.AM
open Go Go.RowKit Go.ChangeShapes Go.WideShapes
set_option linter.unusedVariables false
/-- how data of a plain type look -/
def shapeD (P : Program) : Nat → TypeId → List D → Prop
  | 0, _, _ => False
  | n + 1, t, ds => match P.underlying t with
    | some .bool => ∃ b, ds = [.bool b]
    | some (.int k) => ∃ x, ds = [.int k x] ∧ (Lit.int k x).wf = true
    | some .string => ∃ s, ds = [.str s] ∧ s.size ≤ maxLen
    | some (.slice e) => ∃ rows, ds = [.list rows] ∧ rows.length ≤ maxLen ∧ ∀ r ∈ rows, shapeD P n e r
    | some (.struct fs) => ds.length = P.cellsOf t ∧ ∀ f ∈ fs.toList, shapeD P n f.type ((ds.drop f.offset).take (P.cellsOf f.type))
    | some (.array m e) => ds.length = P.cellsOf t ∧ ∀ i, i < m → shapeD P n e ((ds.drop (i * P.cellsOf e)).take (P.cellsOf e))
    | _ => False
/-- the fields lie one behind the other -/
def tileF (P : Program) : List Field → Nat → Nat → Bool
  | [], o, n => o == n
  | f :: fs, o, n => f.offset == o && tileF P fs (o + P.cellsOf f.type) n
def plainT (P : Program) : Nat → TypeId → Bool
  | 0, _ => false
  | n + 1, t => match P.underlying t with
    | some .bool | some (.int _) | some .string => true
    | some (.slice e) => decide (0 < P.cellsOf e) && plainT P n e
    | some (.struct fs) => tileF P fs.toList 0 (P.cellsOf t) && fs.toList.all fun f => plainT P n f.type
    | some (.array m e) => decide (m * P.cellsOf e = P.cellsOf t) && plainT P n e
    | _ => false
theorem tileF_le {P : Program} : ∀ {fs : List Field} {o n : Nat}, tileF P fs o n = true → o ≤ n
  | [], o, n, h => by simp [tileF] at h; omega
  | f :: fs, o, n, h => by simp [tileF] at h; have := tileF_le h.2; omega
theorem tileF_off {P : Program} : ∀ {fs : List Field} {o n : Nat}, tileF P fs o n = true → ∀ f ∈ fs, o ≤ f.offset
  | [], o, n, h, f, hf => by cases hf
  | g :: fs, o, n, h, f, hf => by
    simp [tileF] at h
    rcases List.mem_cons.1 hf with rfl | hf
    · omega
    · have := tileF_off h.2 f hf; omega
theorem RDL.app {w : World} {M : Muts} : ∀ {ds ds' : List D} {vs vs' : List Value}, RDL w M ds vs → RDL w M ds' vs' → RDL w M (ds ++ ds') (vs ++ vs')
  | [], ds', vs, vs', h, h' => by simp [RDL] at h; subst h; simpa using h'
  | d :: ds, ds', vs, vs', h, h' => by
    obtain ⟨v, ws, rfl, h1, h2⟩ := h
    exact ⟨v, ws ++ vs', rfl, h1, RDL.app h2 h'⟩
theorem tile_rd {P : Program} {w : World} {M : Muts} {cs : List Value} {n : Nat} (hl : cs.length = n) {Q : Field → List D → Prop} : ∀ {fs : List Field} {o : Nat}, tileF P fs o n = true →
    (∀ f ∈ fs, ∃ ds, RDL w M ds ((cs.drop f.offset).take (P.cellsOf f.type)) ∧ (∀ d ∈ ds, d.scalar = true) ∧ Q f ds) →
    ∃ ds, RDL w M ds (cs.drop o) ∧ (∀ d ∈ ds, d.scalar = true) ∧ ∀ f ∈ fs, Q f ((ds.drop (f.offset - o)).take (P.cellsOf f.type))
  | [], o, ht, h => by
    simp [tileF] at ht
    exact ⟨[], by rw [List.drop_eq_nil_of_le (by omega)]; rfl, (by simp), (by simp)⟩
  | f :: fs, o, ht, h => by
    simp only [tileF, Bool.and_eq_true, beq_iff_eq] at ht
    obtain ⟨ho, ht⟩ := ht
    obtain ⟨ds1, a1, a2, a3⟩ := h f (List.mem_cons_self ..)
    obtain ⟨ds2, b1, b2, b3⟩ := tile_rd hl ht (fun g hg => h g (List.mem_cons_of_mem _ hg))
    have hle := tileF_le ht
    have hlen : ds1.length = P.cellsOf f.type := by
      have := RDL.length a1
      simp at this; omega
    refine ⟨ds1 ++ ds2, ?_, ?_, ?_⟩
    · have := RDL.app a1 b1
      rw [ho, ← List.drop_drop, List.take_append_drop] at this
      exact this
    · intro d hd
      rcases List.mem_append.1 hd with hd | hd
      · exact a2 d hd
      · exact b2 d hd
    · intro g hg
      rcases List.mem_cons.1 hg with rfl | hg
      · rw [ho, Nat.sub_self, List.drop_zero, ← hlen, List.take_left]; exact a3
      · have hge := tileF_off ht g hg
        have e : (ds1 ++ ds2).drop (g.offset - o) = ds2.drop (g.offset - (o + P.cellsOf f.type)) := by
          rw [List.drop_append, List.drop_eq_nil_of_le (by omega), List.nil_append, hlen]
          congr 1; omega
        rw [e]; exact b3 g hg
theorem RowsAt.of_get {w : World} {M : Muts} {b sz : Nat} : ∀ {rows : List (List D)} {o : Nat}, (∀ i (h : i < rows.length), rows[i].length = sz ∧ At w M rows[i] b (o + i * sz)) → RowsAt w M rows b o sz
  | [], o, _ => trivial
  | r :: rows, o, h => by
    have h0 := h 0 (by simp)
    refine ⟨h0.1, by simpa using h0.2, RowsAt.of_get fun i hi => ?_⟩
    have := h (i + 1) (by simpa using hi)
    simp only [List.getElem_cons_succ] at this
    exact ⟨this.1, by rw [show o + sz + i * sz = o + (i + 1) * sz from by rw [Nat.add_mul]; omega]; exact this.2⟩
def noM : Muts := fun _ _ => False
section
variable {H : Type} {enc : TypeId × Value → H} {P : Program} {w : World} {sp : Nat → Bool} {held : Bool}
theorem array_rd {cs : List Value} {c : Nat} {Q : List D → Prop} : ∀ (m o : Nat), cs.length = (o + m) * c →
    (∀ i, i < o + m → ∃ ds, RDL w noM ds ((cs.drop (i * c)).take c) ∧ (∀ d ∈ ds, d.scalar = true) ∧ Q ds) →
    ∃ ds, RDL w noM ds (cs.drop (o * c)) ∧ (∀ d ∈ ds, d.scalar = true) ∧ ∀ i, i < m → Q ((ds.drop (i * c)).take c)
  | 0, o, hl, h => ⟨[], by rw [List.drop_eq_nil_of_le (by rw [hl, Nat.add_zero]; exact Nat.le_refl _)]; rfl, (by simp), fun i hi => absurd hi (Nat.not_lt_zero _)⟩
  | m + 1, o, hl, h => by
    obtain ⟨ds1, a1, a2, a3⟩ := h o (by omega)
    obtain ⟨ds2, b1, b2, b3⟩ := array_rd m (o + 1) (by rw [hl]; congr 1; omega) (fun i hi => h i (by omega))
    have e : (o + 1) * c = o * c + c := by rw [Nat.add_mul]; omega
    have hle : (o + 1) * c ≤ (o + (m + 1)) * c := Nat.mul_le_mul_right _ (by omega)
    have hlen : ds1.length = c := by
      have := RDL.length a1
      simp at this; omega
    refine ⟨ds1 ++ ds2, ?_, ?_, ?_⟩
    · have := RDL.app a1 b1
      rw [e, ← List.drop_drop, List.take_append_drop] at this
      exact this
    · intro d hd
      rcases List.mem_append.1 hd with hd | hd
      · exact a2 d hd
      · exact b2 d hd
    · intro i hi
      cases i with
      | zero => rw [Nat.zero_mul, List.drop_zero, ← hlen, List.take_left]; exact a3
      | succ i =>
        have e2 : (ds1 ++ ds2).drop ((i + 1) * c) = ds2.drop (i * c) := by
          rw [List.drop_append, List.drop_eq_nil_of_le (by rw [Nat.add_mul]; omega), List.nil_append, hlen]
          congr 1; rw [Nat.add_mul]; omega
        rw [e2]; exact b3 i (by omega)
theorem trod_rd : ∀ (n : Nat) {t : TypeId}, plainT P n t = true → ∀ {fuel : Nat} {cs : List Value} {x : DataW H × List MemPlace}, DataW.trod enc P w 0 sp held fuel t cs = some x →
    ∃ ds, RDL w noM ds cs ∧ (∀ d ∈ ds, d.scalar = true) ∧ shapeD P n t ds
  | 0, t, hp, _, _, _, _ => by simp [plainT] at hp
  | n + 1, t, hp, fuel, cs, x, hx => by
    unfold plainT at hp
    unfold shapeD
    split at hp
    · rename_i hu
      obtain ⟨b, rfl, _⟩ := DataW.trod_bool hu hx
      exact ⟨[.bool b], ⟨_, _, rfl, rfl, rfl⟩, (by simp [D.scalar]), b, rfl⟩
    · rename_i k hu
      obtain ⟨m, rfl, _, hw⟩ := DataW.trod_int hu hx
      exact ⟨[.int k m], ⟨_, _, rfl, rfl, rfl⟩, (by simp [D.scalar]), m, rfl, hw⟩
    · rename_i hu
      obtain ⟨s, rfl, _, hs⟩ := DataW.trod_string hu hx
      exact ⟨[.str s], ⟨_, _, rfl, rfl, rfl⟩, (by simp [D.scalar]), s, rfl, hs⟩
    · rename_i e hu
      simp only [Bool.and_eq_true, decide_eq_true_eq] at hp
      obtain ⟨hc, hp⟩ := hp
      rcases DataW.trod_slice hu hx with ⟨rfl, _⟩ | ⟨a, len, cap, elems, rest, m, _, rfl, _, _, hlc, hcm, hel, hget, _⟩
      · exact ⟨[.list []], ⟨_, _, rfl, ⟨none, 0, rfl, Nat.le_refl _, fun h => absurd rfl h⟩, rfl⟩, (by simp [D.scalar]), [], rfl, Nat.zero_le _, (by simp)⟩
      · have hspot : 0 < len → a.spot = none := fun h0 => by
          have hg := hget 0 h0
          rw [List.getElem?_eq_getElem (by omega)] at hg
          obtain ⟨cs, hcs, htr⟩ := Option.bind_eq_some_iff.1 hg
          obtain ⟨c1, c2, c3⟩ := World.cells?_some hcs
          have := World.cell?_spot ((c3 0 hc).trans (List.getElem?_eq_getElem (by omega)))
          simpa [Addr.add] using this
        have hrow : ∀ i : Fin len, ∃ r : List D, r.length = P.cellsOf e ∧ At w noM r a.block (a.off + i.val * P.cellsOf e) ∧ shapeD P n e r ∧ a.spot = none := fun ⟨i, hi⟩ => by
          have hg := hget i hi
          rw [List.getElem?_eq_getElem (by omega)] at hg
          obtain ⟨cs, hcs, htr⟩ := Option.bind_eq_some_iff.1 hg
          obtain ⟨ds, h1, h2, h3⟩ := trod_rd n hp htr
          obtain ⟨c1, c2, c3⟩ := World.cells?_some hcs
          have hs := hspot (by omega)
          refine ⟨ds, by rw [← RDL.length h1]; exact c2, ?_, h3, hs⟩
          refine At.of h1 h2 (fun j v hj => ?_) (fun _ _ h => h)
          have hj' : j < P.cellsOf e := by rw [← c2]; exact (List.getElem?_eq_some_iff.1 hj).1
          rw [← hj, ← c3 j hj']
          obtain ⟨b, o, s⟩ := a
          simp only at hs
          subst hs
          rw [add_plain, add_plain]
        obtain ⟨f, hf⟩ := Classical.axiomOfChoice hrow
        have hlen : (List.ofFn f).length = len := by simp
        refine ⟨[.list (List.ofFn f)], ⟨_, _, rfl, ⟨some a, cap, by rw [hlen], by rw [hlen]; exact hlc, fun hne => ?_⟩, rfl⟩, (by simp [D.scalar]), List.ofFn f, rfl, by rw [hlen]; omega, fun r hr => ?_⟩
        · have h0 : 0 < len := by
            rcases Nat.eq_zero_or_pos len with h | h
            · exact absurd (List.length_eq_zero_iff.1 (by rw [hlen, h])) hne
            · exact h
          refine ⟨a.block, a.off, P.cellsOf e, ?_, RowsAt.of_get fun i hi => ?_⟩
          · obtain ⟨b, o, s⟩ := a
            have := (hf ⟨0, h0⟩).2.2.2
            simp only at this
            subst this; rfl
          · have hi' : i < len := by omega
            rw [List.getElem_ofFn]
            exact ⟨(hf ⟨i, hi'⟩).1, (hf ⟨i, hi'⟩).2.1⟩
        · obtain ⟨i, rfl⟩ := List.mem_ofFn.1 hr
          exact (hf i).2.2.1
    · rename_i fs hu
      simp only [Bool.and_eq_true, List.all_eq_true] at hp
      obtain ⟨ht, hp⟩ := hp
      obtain ⟨xs, m, _, _, hl, hxl, hget⟩ := DataW.trod_struct hu hx
      obtain ⟨ds, h1, h2, h3⟩ := tile_rd hl (w := w) (M := noM) (Q := fun f ds => shapeD P n f.type ds) ht (fun f hf => by
        obtain ⟨i, hi, rfl⟩ := List.getElem_of_mem hf
        have hi' : i < fs.size := by simpa using hi
        have hg := hget i fs[i] (Array.getElem?_eq_getElem hi')
        rw [List.getElem?_eq_getElem (by omega)] at hg
        have hpi := hp _ (List.getElem_mem hi)
        simp only [Array.getElem_toList] at hpi ⊢
        exact trod_rd n hpi hg)
      rw [List.drop_zero] at h1
      exact ⟨ds, h1, h2, by rw [← RDL.length h1]; exact hl, fun f hf => by have := h3 f hf; rwa [Nat.sub_zero] at this⟩
    · rename_i m e hu
      simp only [Bool.and_eq_true, decide_eq_true_eq] at hp
      obtain ⟨ht, hp⟩ := hp
      obtain ⟨xs, m', _, _, hl, hxl, hget⟩ := DataW.trod_array hu hx
      obtain ⟨ds, h1, h2, h3⟩ := array_rd (w := w) (cs := cs) (c := P.cellsOf e) (Q := fun ds => shapeD P n e ds) m 0 (by rw [hl, ← ht]; congr 1; omega) (fun i hi => by
        have hg := hget i (by omega)
        rw [List.getElem?_eq_getElem (by omega)] at hg
        exact trod_rd n hp hg)
      rw [Nat.zero_mul, List.drop_zero] at h1
      exact ⟨ds, h1, h2, by rw [← RDL.length h1]; exact hl, h3⟩
    · cases hp
end
end Go.AM
end
section
namespace Go.AM
open Go Go.RowKit
open Go.AM.Enc (enc dec)
open Go.AM.Row (row ofRow)
set_option linter.unusedVariables false
def flatF (g : TypeId → Option (List TypeId)) : List Field → Option (List TypeId)
  | [] => some []
  | f :: fs => match g f.type, flatF g fs with
    | some a, some b => some (a ++ b)
    | _, _ => none
/-- a type's leaves -/
def flatT (P : Program) : Nat → TypeId → Option (List TypeId)
  | 0, _ => none
  | n + 1, t => match P.underlying t with
    | some .bool | some (.int _) | some .string | some (.slice _) => some [t]
    | some (.struct fs) => if tileF P fs.toList 0 (P.cellsOf t) = true then flatF (flatT P n) fs.toList else none
    | some (.array m e) => if m * P.cellsOf e = P.cellsOf t then (flatT P n e).map fun ts => (List.replicate m ts).flatten else none
    | _ => none
def leaf (P : Program) (t : TypeId) (d : D) : Prop := match P.underlying t with
  | some .bool => ∃ b, d = .bool b
  | some (.int k) => ∃ x, d = .int k x ∧ (Lit.int k x).wf = true
  | some .string => ∃ s, d = .str s ∧ s.size ≤ maxLen
  | some (.slice e) => ∃ rows, d = .list rows ∧ rows.length ≤ maxLen ∧ ∀ r ∈ rows, ∃ m, shapeD P m e r
  | _ => False
def leafs (P : Program) : List TypeId → List D → Prop
  | [], ds => ds = []
  | t :: ts, ds => ∃ d ds', ds = d :: ds' ∧ leaf P t d ∧ leafs P ts ds'
theorem leafs_app {P : Program} : ∀ {a b : List TypeId} {x y : List D}, leafs P a x → leafs P b y → leafs P (a ++ b) (x ++ y)
  | [], b, x, y, h, h' => by simp [leafs] at h; subst h; simpa using h'
  | t :: a, b, x, y, h, h' => by
    obtain ⟨d, ds, rfl, h1, h2⟩ := h
    exact ⟨d, ds ++ y, rfl, h1, leafs_app h2 h'⟩
theorem leafs_fields {P : Program} {g : TypeId → Option (List TypeId)} {ds : List D} {n : Nat} (hl : ds.length = n) : ∀ {fs : List Field} {o : Nat} {ts : List TypeId}, tileF P fs o n = true → flatF g fs = some ts →
    (∀ f ∈ fs, ∀ a, g f.type = some a → leafs P a ((ds.drop f.offset).take (P.cellsOf f.type))) → leafs P ts (ds.drop o)
  | [], o, ts, ht, hf, _ => by
    simp [flatF] at hf; subst hf
    simp [tileF] at ht
    show ds.drop o = []
    rw [List.drop_eq_nil_of_le (by omega)]
  | f :: fs, o, ts, ht, hf, h => by
    simp only [tileF, Bool.and_eq_true, beq_iff_eq] at ht
    obtain ⟨ho, ht⟩ := ht
    simp only [flatF] at hf
    split at hf
    · rename_i a b ha hb
      cases hf
      have h1 := h f (List.mem_cons_self ..) a ha
      have h2 := leafs_fields hl ht hb (fun g' hg => h g' (List.mem_cons_of_mem _ hg))
      have := leafs_app h1 h2
      rw [ho, ← List.drop_drop, List.take_append_drop] at this
      exact this
    · cases hf
theorem leafs_array {P : Program} {ds : List D} {a : List TypeId} {c : Nat} : ∀ (m o : Nat), ds.length = (o + m) * c → (∀ i, i < o + m → leafs P a ((ds.drop (i * c)).take c)) → leafs P (List.replicate m a).flatten (ds.drop (o * c))
  | 0, o, hl, h => by
    show ds.drop (o * c) = []
    rw [List.drop_eq_nil_of_le (by rw [hl, Nat.add_zero]; exact Nat.le_refl _)]
  | m + 1, o, hl, h => by
    have h2 := leafs_array m (o + 1) (by rw [hl]; congr 1; omega) (fun i hi => h i (by omega))
    have := leafs_app (h o (by omega)) h2
    rw [show (o + 1) * c = o * c + c by rw [Nat.add_mul]; omega, ← List.drop_drop, List.take_append_drop] at this
    rw [List.replicate_succ, List.flatten_cons]
    exact this
theorem shape_leafs {P : Program} : ∀ (m : Nat) {N : Nat} {t : TypeId} {ds : List D} {ts : List TypeId}, shapeD P m t ds → flatT P N t = some ts → leafs P ts ds
  | 0, N, t, ds, ts, h, _ => by simp [shapeD] at h
  | m + 1, 0, t, ds, ts, _, h => by simp [flatT] at h
  | m + 1, N + 1, t, ds, ts, h, hf => by
    unfold shapeD at h
    unfold flatT at hf
    have one : ∀ d, ds = [d] → leaf P t d → ts = [t] → leafs P ts ds := fun d e hd ht => by subst e; subst ht; exact ⟨d, [], rfl, hd, rfl⟩
    split at hf
    · rename_i hu
      rw [hu] at h
      obtain ⟨b, e⟩ := h
      exact one _ e (by unfold leaf; rw [hu]; exact ⟨b, rfl⟩) (Option.some.inj hf).symm
    · rename_i k hu
      rw [hu] at h
      obtain ⟨b, e, hw⟩ := h
      exact one _ e (by unfold leaf; rw [hu]; exact ⟨b, rfl, hw⟩) (Option.some.inj hf).symm
    · rename_i hu
      rw [hu] at h
      obtain ⟨b, e, hw⟩ := h
      exact one _ e (by unfold leaf; rw [hu]; exact ⟨b, rfl, hw⟩) (Option.some.inj hf).symm
    · rename_i e0 hu
      rw [hu] at h
      obtain ⟨b, e, hw, hr⟩ := h
      exact one _ e (by unfold leaf; rw [hu]; exact ⟨b, rfl, hw, fun r hm => ⟨m, hr r hm⟩⟩) (Option.some.inj hf).symm
    · rename_i fs hu
      rw [hu] at h
      obtain ⟨hl, h⟩ := h
      split at hf
      · rename_i ht
        have := leafs_fields hl ht hf (fun f hm a ha => shape_leafs m (h f hm) ha)
        simpa using this
      · cases hf
    · rename_i k e0 hu
      rw [hu] at h
      obtain ⟨hl, h⟩ := h
      split at hf
      · rename_i hk
        obtain ⟨a, ha, rfl⟩ := Option.map_eq_some_iff.1 hf
        have := leafs_array (P := P) (a := a) (ds := ds) (c := P.cellsOf e0) k 0 (by rw [hl, ← hk]; congr 1; omega) (fun i hi => shape_leafs m (h i (by omega)) ha)
        simpa using this
      · cases hf
    · cases hf
theorem rows_dec {α : Type} [Row α] : ∀ {rows : List (List D)}, (∀ r ∈ rows, ∃ x : α, r = row x) → ∃ l : List α, rows = l.map row
  | [], _ => ⟨[], rfl⟩
  | r :: rows, h => by
    obtain ⟨x, rfl⟩ := h r (List.mem_cons_self ..)
    obtain ⟨l, rfl⟩ := rows_dec (fun r hr => h r (List.mem_cons_of_mem _ hr))
    exact ⟨x :: l, rfl⟩
/-- an argument -/
def argOk (P : Program) (t : TypeId) (d : D) : Prop := if isAggB P t = true then ∃ ds m, d = .agg ds ∧ shapeD P m t ds else leaf P t d
end Go.AM
end
section
namespace Go.Proofs.YtmfgnajlkoafkaaGreatDoor
open Go Go.AM Go.RowKit Go.ChangeShapes Go.WideShapes Go.ChangeAt
open Go.AM.Enc (enc dec)
open Go.AM.Row (row ofRow)
set_option maxRecDepth 100000
set_option linter.unusedVariables false
theorem own : ownKnob Tryz.prog.godebug = none := by kernel_rfl
theorem laidOut : laidOutB Tryz.prog = true := by kernel_rfl
section
variable {H : Type} {enc : TypeId × Value → H}
theorem post_of_below {P : Program} {f : Func} {s : ChangeSpec} {apart fresh handsOn again : Bool} {W W' : World} {args : Array Value} {v : Value} {ds gs : List (DataW H)} {before pa pv : List MemPlace}
    (hW : DataW.Whole enc P f.params.toList s.vars apart W args.toList ds gs before)
    (hres : ∀ (b : Nat) (sp : Nat → Bool) (hd : Bool), DataW.TrodAll enc P W' b sp hd f.resultTypes.toList (v.resultList f.resultTypes.size) (s.fn H (ds ++ gs)).results [])
    (hargs : ∀ sp : Nat → Bool, (∀ p ∈ before, sp p.block = true) → DataW.TrodAll enc P W' 0 sp true f.params.toList args.toList (s.fn H (ds ++ gs)).args pa)
    (hvars : ∀ sp : Nat → Bool, (∀ p ∈ before, sp p.block = true) → DataW.TrodVars enc P W' sp s.vars (s.fn H (ds ++ gs)).vars pv)
    (hps : before = pa ++ pv) (hb : Below W.heap.size W W')
    (hok : ∀ (j : Nat) (t : TypeId) (r : Value), f.resultTypes[j]? = some t → (v.resultList f.resultTypes.size)[j]? = some r → Value.okWide P W' .any 0 t r) :
    s.post enc P f apart fresh handsOn again W args v W' := by
  have hlt : ∀ p ∈ before, p.block < W.heap.size := fun p hp => hW.lt p hp
  have hold : ∀ p ∈ before, (fun b => decide (b < W.heap.size)) p.block = true := fun p hp => by simpa using hlt p hp
  refine ⟨ds, gs, before, [], pa, pv, hW, hres _ _ _, hargs _ hold, hvars _ hold, World.keptBut_mono (fun p hp => ⟨hp, ?_⟩) (hb.frame (· ∈ before)), fun _ => ?_⟩
  · rw [hps, List.mem_append] at hp
    exact Or.inr hp
  · obtain ⟨_, _, _, _, _, hz, hn⟩ := hW
    refine ⟨hok, _, _, ([] ++ pa) ++ pv, ⟨[] ++ pa, pv, trodAll_append (hargs _ (fun _ _ => rfl)) (hres _ _ _), hvars _ (fun _ _ => rfl), rfl, ?_, ?_⟩, ?_⟩
    · intro b off hp
      have hin : MemPlace.cell b off ∈ before := by rw [hps]; simpa using hp
      rw [hb.frozen (hlt _ hin)]
      exact hz b off hin
    · intro ha
      have := hn ha
      rw [hps] at this
      simpa using this
    · intro p hp _
      rw [hps]
      simpa using hp
/-- one argument, as the machine's data -/
theorem arg_in {P : Program} {W : World} {base : Nat} {t : TypeId} {v : Value} {d : DataW H} {ps : List MemPlace} (hp : plainT P 40 t = true) (hok : Value.okWide P W .any base t v)
    (h : DataW.Trod enc P W 0 (fun _ => true) true t v d ps) : ∃ x : D, argOk P t x ∧ RD W noM x v := by
  obtain ⟨fuel, h⟩ := h
  obtain ⟨ds, h1, h2, h3⟩ := trod_rd 40 hp h
  unfold plainT at hp
  have h3' := h3
  unfold shapeD at h3
  have one : ∀ x, ds = [x] → v.cells.toList = [v] → RD W noM x v := fun x e ev => by
    subst e
    rw [ev] at h1
    obtain ⟨v', vs, e, hr, _⟩ := h1
    cases e; exact hr
  split at hp
  · rename_i hu
    rw [hu] at h3
    obtain ⟨b, e⟩ := h3
    obtain ⟨b', rfl⟩ := okWide_bool hu hok
    exact ⟨_, by unfold argOk isAggB leaf; rw [hu]; exact ⟨b, rfl⟩, one _ e rfl⟩
  · rename_i k hu
    rw [hu] at h3
    obtain ⟨b, e, hw⟩ := h3
    obtain ⟨b', rfl⟩ := okWide_int hu hok
    exact ⟨_, by unfold argOk isAggB leaf; rw [hu]; exact ⟨b, rfl, hw⟩, one _ e rfl⟩
  · rename_i hu
    rw [hu] at h3
    obtain ⟨b, e, hw⟩ := h3
    obtain ⟨b', rfl⟩ := okWide_string hu hok
    exact ⟨_, by unfold argOk isAggB leaf; rw [hu]; exact ⟨b, rfl, hw⟩, one _ e rfl⟩
  · rename_i e0 hu
    rw [hu] at h3
    obtain ⟨b, e, hw, hr⟩ := h3
    obtain ⟨x, y, z, rfl⟩ := okWide_slice hu hok
    exact ⟨_, by unfold argOk isAggB leaf; rw [hu]; exact ⟨b, rfl, hw, fun r hm => ⟨_, hr r hm⟩⟩, one _ e rfl⟩
  · rename_i fs hu
    obtain ⟨cs, rfl, _⟩ := okWide_struct hu hok
    exact ⟨.agg ds, by unfold argOk isAggB; rw [hu]; exact ⟨ds, 40, rfl, h3'⟩, cs, rfl, h1⟩
  · rename_i m e0 hu
    have : ∃ cs, v = .agg cs ∧ cs.size = P.cellsOf t := by
      simp only [Value.okWide, hu] at hok
      obtain ⟨cs, h, h', _⟩ := hok
      exact ⟨cs, h, h'⟩
    obtain ⟨cs, rfl, _⟩ := this
    exact ⟨.agg ds, by unfold argOk isAggB; rw [hu]; exact ⟨ds, 40, rfl, h3'⟩, cs, rfl, h1⟩
  · cases hp
/-- all arguments -/
def argsOk (P : Program) : List TypeId → List D → Prop
  | [], ds => ds = []
  | t :: ts, ds => ∃ d ds', ds = d :: ds' ∧ argOk P t d ∧ argsOk P ts ds'
theorem args_in {P : Program} (hl : laidOutB P = true) {W : World} {base : Nat} : ∀ {ts : List TypeId} {vs : List Value} {ds : List (DataW H)} {ps : List MemPlace}, (ts.all fun t => plainT P 40 t && (P.readableRec t && decide (t < P.types.size))) = true →
    (∀ (j : Nat) t v, ts[j]? = some t → vs[j]? = some v → Value.okWide P W .any base t v) → DataW.TrodAll enc P W 0 (fun _ => true) true ts vs ds ps → (∀ x ∈ ps, x.block < W.heap.size) →
    (∃ xs, argsOk P ts xs ∧ RDL W noM xs vs) ∧ ds.length = ts.length ∧ ∀ W', Below W.heap.size W W' → ∀ sp : Nat → Bool, (∀ p ∈ ps, sp p.block = true) → DataW.TrodAll enc P W' 0 sp true ts vs ds ps
  | [], [], [], ps, _, _, h, _ => ⟨⟨[], rfl, rfl⟩, rfl, fun _ _ _ _ => h⟩
  | t :: ts, v :: vs, d :: ds, ps, hp, hok, h, hlt => by
    obtain ⟨p, q, h1, h2, rfl⟩ := h
    simp only [List.all_cons, Bool.and_eq_true, decide_eq_true_eq] at hp
    obtain ⟨⟨hp1, hp2, hp3⟩, hp4⟩ := hp
    obtain ⟨x, hx1, hx2⟩ := arg_in hp1 (hok 0 t v rfl rfl) h1
    obtain ⟨⟨xs, k1, k2⟩, k3, k4⟩ := args_in hl (ts := ts) (by simpa using hp4) (fun j t v hj hv => hok (j + 1) t v (by simpa using hj) (by simpa using hv)) h2 (fun x hx => hlt x (List.mem_append_right _ hx))
    refine ⟨⟨x :: xs, ⟨x, xs, rfl, hx1, k1⟩, v, vs, rfl, hx2, k2⟩, by simp [k3], fun W' hb sp hsp => ?_⟩
    exact ⟨p, q, WideElems.Trod_stays hl hp2 hp3 h1 (fun x hx => hb.same (hlt x (List.mem_append_left _ hx))) (fun x hx => hsp x (List.mem_append_left _ hx)), k4 W' hb sp (fun x hx => hsp x (List.mem_append_right _ hx)), rfl⟩
  | [], _ :: _, _, _, _, _, h, _ => h.elim
  | [], [], _ :: _, _, _, _, h, _ => h.elim
  | _ :: _, [], _, _, _, _, h, _ => h.elim
  | _ :: _, _ :: _, [], _, _, _, h, _ => h.elim
end
/-! what the variables hold -/
theorem gPow : Tryz.prog.globalNamed "internal/strconv.uint64pow10" = some 3 := by kernel_rfl
theorem gRange : Tryz.prog.globalNamed "strconv.ErrRange" = some 2 := by kernel_rfl
theorem gSyntax : Tryz.prog.globalNamed "strconv.ErrSyntax" = some 1 := by kernel_rfl
theorem tErr : (Tryz.prog.globals[2]?).map (·.type) = some 193 := by kernel_rfl
theorem tErr2 : (Tryz.prog.globals[1]?).map (·.type) = some 193 := by kernel_rfl
theorem star : "*errors.errorString" = "*" ++ "errors.errorString" := by decide
theorem rowErr (u : TypeId) (h : Tryz.prog.typeName? 3 u = some "*errors.errorString") : u = 372 :=
  typeName_ptr_named (nm := "errors.errorString") (by rw [← star]; kernel_rfl) (by kernel_rfl) (by decide) u (by rw [← star]; exact h)
theorem cellsPow : Tryz.prog.cellsOf 363 = 20 := by kernel_rfl
theorem tPow : (Tryz.prog.globals[3]?).map (·.type) = some 363 := by kernel_rfl
theorem cells64 : Tryz.prog.cellsOf 304 = 1 := by kernel_rfl
theorem cellsES : Tryz.prog.cellsOf 374 = 1 := by kernel_rfl
theorem cellsStr : Tryz.prog.cellsOf 9 = 1 := by kernel_rfl
theorem powData : Rows.laid_internal_strconv_uint64pow10 (H := Unit) = Lib.tabData .u64 Lib.pow10Tab := by kernel_rfl
def laid5 : List (String × DataW Unit) := [("internal/strconv.uint64pow10", Rows.laid_internal_strconv_uint64pow10), ("unicode/utf8.acceptRanges", Rows.laid_unicode_utf8_acceptRanges), ("strconv.ErrRange", Rows.laid_strconv_ErrRange), ("strconv.ErrSyntax", Rows.laid_strconv_ErrSyntax), ("unicode/utf8.first", Rows.laid_unicode_utf8_first)]
theorem rd_cell {W : World} {b : Nat} {d : D} {v : Value} (h : W.cell? ⟨b, 0, none⟩ = some v) (hs : d.scalar = true) (hr : RD W noM d v) : RD W noM (.ptr [d] 0) (.pointer (some ⟨b, 0, none⟩)) :=
  ⟨b, 0, rfl, fun h => h, hs, ⟨v, h, hr⟩, trivial⟩
theorem str_of {s : ByteArray} {l : List UInt8} (h : s.data.toList = l) : s = ⟨l.toArray⟩ := by
  apply ByteArray.ext; apply Array.ext'; simpa using h
theorem maxCell (W : World) (h : W.ShapedOpen Tryz.prog) : ∃ m, W.cell? ⟨4, 0, none⟩ = some (.int .i64 m) :=
  Go.Proofs.cell_of_shapedOpen_int (zero := #[.int .i64 0]) (t := 3) h (of_decide_eq_true (by kernel_rfl)) (by kernel_rfl) rfl (by kernel_rfl) (by kernel_rfl) Tryz.underlying3
theorem gl_holds {W : World} (h : laidMet Tryz.prog laid5 W) (hsh : W.ShapedOpen Tryz.prog) : ∃ m, (Gl m).inv W ∧ ∀ n x, (Gl m) n = .d x → RD W noM x (.pointer (some ⟨n, 0, none⟩)) := by
  obtain ⟨m, hm⟩ := maxCell W hsh
  unfold laid5 at h
  rw [powData] at h
  have hT := Lib.tabIs_of_head gPow tPow Tryz.underlying363 Tryz.underlying304 cells64 cellsPow h
  have h2 := h.tail.tail
  obtain ⟨a1, s1, hv1, hc1, hs1, _⟩ := laid_sentinel h2 gRange tErr Tryz.underlying193 rowErr Tryz.underlying372 Tryz.underlying374 rfl rfl Tryz.underlying9 cellsES cellsStr
  obtain ⟨a2, s2, hv2, hc2, hs2, _⟩ := laid_sentinel h2.tail gSyntax tErr2 Tryz.underlying193 rowErr Tryz.underlying372 Tryz.underlying374 rfl rfl Tryz.underlying9 cellsES cellsStr
  obtain rfl := str_of hs1
  obtain rfl := str_of hs2
  have e1 := World.var?_cell gRange hv1 0
  have e2 := World.var?_cell gSyntax hv2 0
  simp at e1 e2
  have hp1 := World.cell?_spot hc1
  have hp2 := World.cell?_spot hc2
  obtain ⟨b1, o1, sp1⟩ := a1
  obtain ⟨b2, o2, sp2⟩ := a2
  simp only at hp1 hp2
  subst hp1; subst hp2
  refine ⟨m, hT, fun n x hx => ?_⟩
  change Glv m n = .d x at hx
  unfold Glv at hx
  split at hx
  · rename_i e; subst e; cases hx; exact rd_cell hm rfl rfl
  split at hx
  · rename_i e; subst e; cases hx
    exact rd_cell e2 rfl ⟨_, rfl, b2, o2, rfl, fun h => h, rfl, ⟨_, hc2, rfl⟩, trivial⟩
  split at hx
  · rename_i e; subst e; cases hx
    exact rd_cell e1 rfl ⟨_, rfl, b1, o1, rfl, fun h => h, rfl, ⟨_, hc1, rfl⟩, trivial⟩
  split at hx
  · rename_i e; subst e; cases hx
    refine ⟨3, 0, rfl, At.of (vs := Lib.pow10Tab.map fun z => Value.int .u64 z) ?_ (by simp [D.scalar]) (fun j v hj => ?_) (fun _ _ h => h)⟩
    · have : ∀ l : List Int, RDL W noM (l.map fun z => D.int .u64 z) (l.map fun z => Value.int .u64 z) := fun l => by
        induction l with
        | nil => rfl
        | cons a l ih => exact ⟨_, _, rfl, rfl, ih⟩
      exact this _
    · obtain ⟨hj1, hj2⟩ := List.getElem?_eq_some_iff.1 hj
      have hj1' : j < Lib.pow10Tab.length := by simpa using hj1
      have := hT.cell gPow j hj1'
      rw [Nat.zero_add, this, ← hj2]
      simp [List.getD, hj1']
  · cases hx
/-- the wrap: what is listed, and the world's shape -/
theorem returns_wrap {H : Type} {enc : TypeId × Value → H} {a : Assume} {C : Checked} {os : Os} {f : FuncId} {fn : Func} {s : ChangeSpec} {conds : List PathCond} {apart fresh handsOn again : Bool} {X : World → Array Value → Prop}
    (hX : ∀ (w w' : World) (args : Array Value), w.heap = w'.heap → X w args → X w' args)
    (own : ownKnob C.prog.godebug = none) (started : os.Started) (noInit : C.prog.inits.idxOf? f = none) (hfn : C.prog.funcs[f]? = some fn)
    (witness : ∃ (w : World) (tape : Tape) (i : Input), w.os = os ∧ (w.forCall tape i).Shaped C.prog ∧ i.vars = [] ∧ Input.okWide C.prog (w.forCall tape i) .any w.heap.size f i ∧
      ((s.pre enc C.prog fn conds apart (w.forCall tape i).memory i.args ∧ X (w.forCall tape i).memory i.args) ∧ sizedMet enc C.prog fn (OpenSpec.ofChange s) apart (w.forCall tape i).memory i.args) ∧ a.holds C.prog (lone (Frame.enter C.prog f i.args .normal) [] (w.forCall tape i)))
    (contract : ∀ (W : World) (base : Nat) (args : Array Value) (ds gs : List (DataW H)) (before : List MemPlace),
      (∀ (j : Nat) t v, fn.params[j]? = some t → args[j]? = some v → Value.okWide C.prog W .any base t v) →
      DataW.Whole enc C.prog fn.params.toList s.vars apart W args.toList ds gs before → X W args → W.ShapedOpen C.prog →
      Calls C.prog f args W fun e W' => ∃ v, e = .returned v ∧ s.post enc C.prog fn apart fresh handsOn again W args v W') :
    ReturnsInHanded a C os f .any (fun w args => (s.pre enc C.prog fn conds apart w args ∧ X w args) ∧ sizedMet enc C.prog fn (OpenSpec.ofChange s) apart w args) (s.post enc C.prog fn apart fresh handsOn again) := by
  refine returnsInHanded_of_calls own started noInit witness ?_
  intro w tape i _ hsh _ hok hpre hholds
  obtain ⟨_, _, _, fn', hfn', _, _, _, _, hval⟩ := hok
  have e : fn' = fn := Option.some.inj (hfn'.symm.trans hfn)
  subst e
  obtain ⟨⟨⟨ds, gs, before, hw, hc⟩, hx⟩, hz⟩ := hpre
  have hw' := DataW.Whole.of_heap (w' := w.forCall tape i) (by rfl) hw
  refine (contract (w.forCall tape i) w.heap.size i.args ds gs before hval hw' (hX _ _ _ (by rfl) hx) hsh).mono fun e W' ⟨v, he, hp⟩ => ?_
  subst he
  exact ChangeSpec.post_blind hp
/-- a law that the machine answers by true -/
theorem law_lifted {H : Type} {enc : TypeId × Value → H} (os : Os) (started : os.Started) {f : FuncId} {fn : Func} {s : ChangeSpec} {laid : List (String × DataW Unit)}
    (noInit : Tryz.prog.inits.idxOf? f = none) (hfn : Tryz.prog.funcs[f]? = some fn) (hsv : s.vars = [])
    (hsf : ∀ ds : List (DataW H), ds.length = fn.params.toList.length → s.fn H ds = { results := [.lit (.bool true)], args := ds })
    (hres : fn.resultTypes = #[4]) (hts : (fn.params.toList.all fun t => plainT Tryz.prog 40 t && (Tryz.prog.readableRec t && decide (t < Tryz.prog.types.size))) = true)
    (witness : ∃ (w : World) (tape : Tape) (i : Input), w.os = os ∧ (w.forCall tape i).Shaped Tryz.prog ∧ i.vars = [] ∧ Input.okWide Tryz.prog (w.forCall tape i) .any w.heap.size f i ∧
      ((s.pre enc Tryz.prog fn [] false (w.forCall tape i).memory i.args ∧ laidMetH Tryz.prog laid (w.forCall tape i).memory) ∧ sizedMet enc Tryz.prog fn (OpenSpec.ofChange s) false (w.forCall tape i).memory i.args) ∧ ({} : Assume).holds Tryz.prog (lone (Frame.enter Tryz.prog f i.args .normal) [] (w.forCall tape i)))
    (hlaid : ∀ W, laidMetH Tryz.prog laid W → laidMet Tryz.prog laid5 W)
    (C : Gb → Cfg) (hC : ∀ m, (C (Gl m)).Ok Tryz.prog) (hgl : ∀ m, (C (Gl m)).glob = Gl m)
    (hlaw : ∀ gl xs, argsOk Tryz.prog fn.params.toList xs → ∃ k, pcall Tryz.prog (C gl) k f xs = some (.bool true)) :
    ReturnsInHanded {} Tryz.checked os f .any (fun w args => (s.pre enc Tryz.prog fn [] false w args ∧ laidMetH Tryz.prog laid w) ∧ sizedMet enc Tryz.prog fn (OpenSpec.ofChange s) false w args) (s.post enc Tryz.prog fn false true false false) := by
  refine returns_wrap (C := Tryz.checked) (X := fun w _ => laidMetH Tryz.prog laid w) (fun _ _ _ hh h => h.of_heap hh) own started noInit hfn witness ?_
  intro W base args ds gs before hval0 hW hL hsh
  have hval : ∀ (j : Nat) t v, fn.params[j]? = some t → args[j]? = some v → Value.okWide Tryz.prog W .any base t v := hval0
  have hW' : DataW.Whole enc Tryz.prog fn.params.toList s.vars false W args.toList ds gs before := hW
  have hlt : ∀ x ∈ before, x.block < W.heap.size := fun x hx => hW'.lt x hx
  have hW2 := hW'
  obtain ⟨p, q, hA, hV, rfl, _, _⟩ := hW2
  rw [hsv] at hV
  obtain ⟨rfl, rfl⟩ := trodVars_none hV
  obtain ⟨⟨xs, k1, k2⟩, k3, k4⟩ := args_in laidOut hts (base := base) (fun j t v hj hv => hval j t v (by simpa using hj) (by simpa using hv)) hA (fun x hx => hlt x (List.mem_append_left _ hx))
  obtain ⟨m, hi, hg⟩ := gl_holds (hlaid W hL) hsh
  obtain ⟨k, hk⟩ := hlaw (Gl m) xs k1
  have hcall := pcall_sound (hC m) hk (vals := args) (w := W) (M := noM) (by rw [hgl]; exact hi) (fun _ _ h => h.elim) (by rw [hgl]; exact hg) k2
  refine hcall.mono ?_
  rintro e W' ⟨v', rfl, hv, hb⟩
  obtain rfl : v' = .bool true := hv
  refine ⟨_, rfl, post_of_below (pa := p) (pv := []) hW' (fun b sp hd => ?_) (fun sp hsp => ?_) (fun sp _ => ?_) rfl hb (ok_one hres rfl (okWide_bool_mk Tryz.underlying4 _))⟩
  · rw [List.append_nil, hsf ds (by rw [k3]), hres]
    exact trodAll_mk1 (shut_bool Tryz.underlying4 true)
  · rw [List.append_nil, hsf ds (by rw [k3])]
    exact k4 W' hb sp (fun x hx => hsp x (List.mem_append_left _ hx))
  · rw [List.append_nil, hsf ds (by rw [k3]), hsv]; rfl
end Go.Proofs.YtmfgnajlkoafkaaGreatDoor
end
section
namespace Go.Proofs.YtmfgnajlkoafkaaGreatDoor
open Go Go.AM
open Go.AM.Enc (enc dec)
open Go.AM.Row (row ofRow)
set_option maxRecDepth 100000
theorem leafs_Piece : flatT Tryz.prog 30 39 = some [9, 9, 3, 3, 3, 3, 3, 3, 3, 3, 3, 3] := by kernel_rfl
theorem shape_Piece {m : Nat} {ds : List D} (h : shapeD Tryz.prog m 39 ds) : ∃ x : Piece, ds = row x := by
  have h := shape_leafs m h leafs_Piece
  simp only [leafs, leaf, under_3, under_9] at h
  obtain ⟨_, _, rfl, ⟨a0, rfl, _⟩, _, _, rfl, ⟨a1, rfl, _⟩, _, _, rfl, ⟨a2, rfl, _⟩, _, _, rfl, ⟨a3, rfl, _⟩, _, _, rfl, ⟨a4, rfl, _⟩, _, _, rfl, ⟨a5, rfl, _⟩, _, _, rfl, ⟨a6, rfl, _⟩, _, _, rfl, ⟨a7, rfl, _⟩, _, _, rfl, ⟨a8, rfl, _⟩, _, _, rfl, ⟨a9, rfl, _⟩, _, _, rfl, ⟨a10, rfl, _⟩, _, _, rfl, ⟨a11, rfl, _⟩, rfl⟩ := h
  exact ⟨⟨a0, a1, ⟨a2, ⟨a3, a4, a5⟩⟩, ⟨⟨a6, a7, a8⟩, ⟨a9, a10, a11⟩⟩⟩, rfl⟩
theorem arg_pieces {d : D} (h : argOk Tryz.prog 22 d) : ∃ l : List Piece, d = enc l := by
  have ha : isAggB Tryz.prog 22 = false := by kernel_rfl
  unfold argOk at h
  rw [ha, if_neg (by decide)] at h
  unfold leaf at h
  rw [under_22] at h
  obtain ⟨rows, rfl, _, hr⟩ := h
  obtain ⟨l, rfl⟩ := rows_dec (fun r hm => (hr r hm).elim fun _ h => shape_Piece h)
  exact ⟨l, rfl⟩
theorem arg_str {d : D} (h : argOk Tryz.prog 9 d) : ∃ s : Str, d = enc s := by
  have ha : isAggB Tryz.prog 9 = false := by kernel_rfl
  unfold argOk at h
  rw [ha, if_neg (by decide)] at h
  unfold leaf at h
  rw [under_9] at h
  obtain ⟨s, rfl, _⟩ := h
  exact ⟨s, rfl⟩
end Go.Proofs.YtmfgnajlkoafkaaGreatDoor
end
