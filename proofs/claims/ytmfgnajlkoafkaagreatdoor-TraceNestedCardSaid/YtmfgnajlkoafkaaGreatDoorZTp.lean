/- The examples of the chapter, by the machine's run. -/
import Derived.Test.YtmfgnajlkoafkaaGreatDoorZTi
import Derived.Test.YtmfgnajlkoafkaaGreatDoorMe
set_option linter.all false
set_option maxHeartbeats 2000000
namespace Go.Proofs.YtmfgnajlkoafkaaGreatDoor
open Go Go.AM Go.RowKit Go.AM.Lineage
open Go.AM.Enc (enc dec)
open Go.AM.Row (row ofRow)
set_option maxRecDepth 100000
set_option linter.unusedVariables false
/-- Split at a dot, byte by byte -/
def p_SplitC : List D → Option D
  | [.str s, .str sep] => if sep.data.toList == [46] && decide (s.size < 4294967281) then some (.list ((splitL 46 s.data.toList).map fun l => [.str (ofBytes l)])) else none
  | _ => none
theorem prim_SplitC (m : Int) : PrimOk Tryz.prog (Gl m) 182 p_SplitC := by
  intro args d vals w M hd
  refine prim_Split m args d vals w M ?_
  unfold p_SplitC at hd
  split at hd
  · rename_i s sep
    split at hd
    · rename_i hc
      cases hd
      simp only [Bool.and_eq_true, beq_iff_eq, decide_eq_true_eq] at hc
      have hs : sep = dot := by apply ByteArray.ext; apply Array.ext'; rw [hc.1]; rfl
      subst hs
      have := parts_eq s
      unfold parts at this
      simp only [p_Split, p2_eq, dec_str, Option.bind_some]
      rw [if_pos ⟨hc.2, by decide⟩, this]
      simp [Function.comp_def]
    · cases hd
  · cases hd
def axisOff (a : Int) : Nat := if a = 0 then 0 else if a = 1 then 1 else 2
/-- a coordinate's address -/
def v_coord : List V → Option V
  | [.ref b off, .d (.int .i64 a)] => some (.ref b (off + axisOff a))
  | [.d (.ptr row off), .d (.int .i64 a)] => some (.d (.ptr row (off + axisOff a)))
  | _ => none
theorem coord_calls (b off : Nat) (a : Int) (w : World) : Calls Tryz.prog 309 #[.pointer (some ⟨b, off, none⟩), .int .i64 a] w fun e w' => e = .returned (.pointer (some ⟨b, off + axisOff a, none⟩)) ∧ w = w' := by
  unfold axisOff
  by_cases h0 : a = 0
  · subst h0
    go_enter Tryz.func309, Tryz.ntmps309
    go_wp2
    go_ret
    exact ⟨rfl, rfl⟩
  · by_cases h1 : a = 1
    · subst h1
      go_enter Tryz.func309, Tryz.ntmps309
      go_wp2
      go_ret
      exact ⟨rfl, rfl⟩
    · have e0 : decide (a = 0) = false := by simpa using h0
      have e1 : decide (a = 1) = false := by simpa using h1
      have e2 : (a == 0) = false := by simpa using h0
      have e3 : (a == 1) = false := by simpa using h1
      rw [if_neg h0, if_neg h1]
      go_enter Tryz.func309, Tryz.ntmps309
      go_wp2
      go_ret
      exact ⟨rfl, rfl⟩
def PrimVOk (P : Program) (f : FuncId) (gf : List V → Option V) : Prop := ∀ (vs : List V) (v : V) (vals : Array Value) (w : World) (M : Muts) (g : G), gf vs = some v → VRL w M g vs vals.toList →
    (callFunc f vals).run P w = .ok (.enter f vals) w ∧ Calls P f vals w fun e w' => ∃ v', e = .returned v' ∧ VR w M g v v' ∧ Below w.heap.size w w'
def moreV (C : Cfg) (g : FuncId → Option (List V → Option V)) : Cfg := { C with primV := fun f => match g f with | some x => some x | none => C.primV f }
theorem moreV_ok {P : Program} {C : Cfg} (hO : C.Ok P) {g : FuncId → Option (List V → Option V)} (h : ∀ f gf, g f = some gf → PrimVOk P f gf) : (moreV C g).Ok P where
  mix := hO.mix
  fns := hO.fns
  glob := hO.glob
  prim := hO.prim
  primV := by
    intro f gf hf
    unfold moreV at hf
    simp only at hf
    split at hf
    · rename_i hx; cases hf; exact h f _ hx
    · exact hO.primV f gf hf
theorem VRL_two {w : World} {M : Muts} {g : G} {a b : V} {vals : Array Value} (h : VRL w M g [a, b] vals.toList) : ∃ v u, vals = #[v, u] ∧ VR w M g a v ∧ VR w M g b u := by
  obtain ⟨v, vs, e, h1, u, us, e2, h2, h3⟩ := h
  simp only [VRL] at h3
  subst h3
  subst e2
  exact ⟨v, u, by rw [← Array.toArray_toList (xs := vals), e], h1, h2⟩
theorem prim_coord : PrimVOk Tryz.prog 309 v_coord := by
  intro vs v vals w M g hv hr
  refine ⟨enters _ _ Tryz.func309 _ rfl (by decide) _ _, ?_⟩
  unfold v_coord at hv
  split at hv
  · rename_i b off a
    cases hv
    obtain ⟨x, y, rfl, hx, hy⟩ := VRL_two hr
    obtain ⟨hd, rfl⟩ := hx
    obtain rfl : y = .int .i64 a := hy
    refine (coord_calls _ off a w).mono ?_
    rintro e w' ⟨rfl, rfl⟩
    exact ⟨_, rfl, ⟨hd, rfl⟩, Below.refl _ _⟩
  · rename_i row off a
    cases hv
    obtain ⟨x, y, rfl, hx, hy⟩ := VRL_two hr
    obtain ⟨b, o, rfl, hat⟩ := hx
    obtain rfl : y = .int .i64 a := hy
    refine (coord_calls b (o + off) a w).mono ?_
    rintro e w' ⟨rfl, rfl⟩
    exact ⟨_, rfl, ⟨b, o, by rw [Nat.add_assoc], hat⟩, Below.refl _ _⟩
  · cases hv
def prims_Ca (f : FuncId) : Option (List D → Option D) := match f with
  | 182 => some p_SplitC
  | _ => none
def primsV_Ca (f : FuncId) : Option (List V → Option V) := match f with
  | 309 => some v_coord
  | _ => none
noncomputable def Ca (gl : Gb) : Cfg := moreV ((Cz gl).more prims_Ca) primsV_Ca
theorem Ca_ok (m : Int) : (Ca (Gl m)).Ok Tryz.prog := moreV_ok ((Cz_ok (Glv_ok m)).lib (by
  intro f gf hf
  unfold prims_Ca at hf
  split at hf
  · simp only [Option.some.injEq] at hf; subst hf; exact prim_SplitC m
  · cases hf)) (by
  intro f gf hf
  unfold primsV_Ca at hf
  split at hf
  · simp only [Option.some.injEq] at hf; subst hf; exact prim_coord
  · cases hf)
end Go.Proofs.YtmfgnajlkoafkaaGreatDoor
