/- The examples of the chapter about traces: they answer true. -/
import Derived.Test.YtmfgnajlkoafkaaGreatDoorZTze
set_option linter.all false
set_option maxHeartbeats 2000000
namespace Go.AM
open Go
open Go.AM.Enc (enc dec)
open Go.AM.Row (row ofRow)
mutual
def sameD : D → D → Bool
  | .str a, .str b => a.data.toList == b.data.toList
  | .int k a, .int l b => decide (k = l) && decide (a = b)
  | .ptr r o, .ptr r' o' => sameDs r r' && decide (o = o')
  | .list r, .list r' => sameDss r r'
  | .map k v, .map k' v' => sameDs k k' && sameDs v v'
  | _, _ => false
def sameDs : List D → List D → Bool
  | [], [] => true
  | x :: xs, y :: ys => sameD x y && sameDs xs ys
  | _, _ => false
def sameDss : List (List D) → List (List D) → Bool
  | [], [] => true
  | x :: xs, y :: ys => sameDs x y && sameDss xs ys
  | _, _ => false
end
mutual
theorem sameD_eq : ∀ (a b : D), sameD a b = true → a = b
  | .str a, .str b, h => by
    simp only [sameD, beq_iff_eq] at h
    congr 1
    exact ByteArray.ext (Array.ext' h)
  | .int k a, .int l b, h => by simp only [sameD, Bool.and_eq_true, decide_eq_true_eq] at h; rw [h.1, h.2]
  | .ptr r o, .ptr r' o', h => by simp only [sameD, Bool.and_eq_true, decide_eq_true_eq] at h; rw [sameDs_eq _ _ h.1, h.2]
  | .list r, .list r', h => by simp only [sameD] at h; rw [sameDss_eq _ _ h]
  | .map k v, .map k' v', h => by simp only [sameD, Bool.and_eq_true] at h; rw [sameDs_eq _ _ h.1, sameDs_eq _ _ h.2]
theorem sameDs_eq : ∀ (a b : List D), sameDs a b = true → a = b
  | [], [], _ => rfl
  | x :: xs, y :: ys, h => by simp only [sameDs, Bool.and_eq_true] at h; rw [sameD_eq _ _ h.1, sameDs_eq _ _ h.2]
theorem sameDss_eq : ∀ (a b : List (List D)), sameDss a b = true → a = b
  | [], [], _ => rfl
  | x :: xs, y :: ys, h => by simp only [sameDss, Bool.and_eq_true] at h; rw [sameDs_eq _ _ h.1, sameDss_eq _ _ h.2]
end
end Go.AM
namespace Go.Proofs.YtmfgnajlkoafkaaGreatDoor
open Go Go.AM Go.RowKit Go.AM.Orient Go.AM.Lineage
open Go.AM.Enc (enc dec)
open Go.AM.Row (row ofRow)
set_option maxRecDepth 100000
set_option linter.unusedVariables false
set_option linter.unusedSimpArgs false
/-- the pieces of the examples -/
def exPieces : List Piece := [⟨⟨#[98]⟩, ByteArray.empty, ⟨0, ⟨100, 0, 0⟩⟩, ⟨⟨100, 0, 0⟩, ⟨110, 4, 2⟩⟩⟩, ⟨⟨#[98, 46, 49]⟩, ⟨#[98]⟩, ⟨0, ⟨0, 0, 0⟩⟩, ⟨⟨0, 0, 0⟩, ⟨4, 4, 2⟩⟩⟩]
def p_idsT : List D → Option D
  | [t, .list [[.int .i64 n]]] => if decide (n = 1) && sameD t (treeD exPieces) then some (.list [[.str ⟨#[98, 46, 49]⟩]]) else none
  | _ => none
theorem prim_idsT (m : Int) : PrimOk Tryz.prog (Gl m) 81 p_idsT := by
  intro args d vals w M hd
  refine prim_ids m args d vals w M ?_
  unfold p_idsT at hd
  split at hd
  · rename_i t n
    split at hd
    · rename_i hc
      cases hd
      simp only [Bool.and_eq_true, decide_eq_true_eq] at hc
      obtain ⟨rfl, hc⟩ := hc
      rw [sameD_eq _ _ hc]
      unfold p_ids
      simp only [onTree_eq]
      have e : decRows (α := Int) [[D.int .i64 1]] = some [1] := rfl
      rw [e]
      simp [exPieces, natsOf, idsAt, sortS, ofBytes]
    · cases hd
  · cases hd
def joinS (l : List Str) (sep : Str) : Str := ⟨(Lib.join (l.map (·.data.toList)) sep.data.toList).toArray⟩
def p_SJoin : List D → Option D := p2 fun (l : List Str) (sep : Str) => if l.length ≤ 1000000 ∧ (Lib.join (l.map (·.data.toList)) sep.data.toList).length ≤ 140737488355328 then some (.str (joinS l sep)) else none
theorem prim_SJoin (m : Int) : PrimOk Tryz.prog (Gl m) 115 p_SJoin := PrimOk.p2 (enters _ _ Tryz.func115 _ rfl (by decide)) fun l sep d v u w M hd hv hu hi hm hg => by
  split at hd
  · rename_i hc
    cases hd
    obtain rfl : u = .string sep := hu
    obtain ⟨x, cap, rfl, hcap, hrows⟩ := hv
    rw [List.length_map] at hcap ⊢
    by_cases hl : l = []
    · subst hl
      refine (Tryz.strings_Join_none x cap sep w).mono ?_
      rintro e w' ⟨rfl, rfl⟩
      exact ⟨_, rfl, rfl, Below.refl _ _⟩
    · obtain ⟨b, o, sz, rfl, hr⟩ := hrows (by simpa using hl)
      have hsz : sz = 1 := by
        cases l with
        | nil => exact absurd rfl hl
        | cons a l => exact hr.1.symm
      subst hsz
      have hcells := rows_cells (ss := l) hr
      have hbk : b < w.heap.size := by
        cases l with
        | nil => exact absurd rfl hl
        | cons a l => exact World.block_lt_of_cell? _ _ (hcells 0 (by simp))
      refine (Tryz.strings_Join b o cap l sep w (fun j x hx => ?_) hbk (by omega) hcap hc.2).mono ?_
      · obtain ⟨hj, rfl⟩ := List.getElem?_eq_some_iff.1 hx
        exact hcells j hj
      · rintro e w' ⟨rfl, hb⟩
        exact ⟨_, rfl, rfl, hb⟩
  · cases hd
/-- the numbers of the examples -/
def p_ItoaC : List D → Option D
  | [.int .i64 n] => if n = 0 then some (.str ⟨#[48]⟩) else if n = 1 then some (.str ⟨#[49]⟩) else if n = 2 then some (.str ⟨#[50]⟩) else if n = 4 then some (.str ⟨#[52]⟩) else if n = 100 then some (.str ⟨#[49, 48, 48]⟩) else if n = 104 then some (.str ⟨#[49, 48, 52]⟩) else none
  | _ => none
theorem itoa_small : Lib.itoa 0 = [48] ∧ Lib.itoa 1 = [49] ∧ Lib.itoa 2 = [50] ∧ Lib.itoa 4 = [52] ∧ Lib.itoa 100 = [49, 48, 48] ∧ Lib.itoa 104 = [49, 48, 52] := by
  refine ⟨?_, ?_, ?_, ?_, ?_, ?_⟩ <;> simp [Lib.itoa, Lib.decDigits] <;> decide
theorem prim_ItoaC (m : Int) : PrimOk Tryz.prog (Gl m) 114 p_ItoaC := by
  intro args d vals w M hd
  refine prim_Itoa m args d vals w M ?_
  unfold p_ItoaC at hd
  obtain ⟨e0, e1, e2, e4, e5, e6⟩ := itoa_small
  split at hd
  · rename_i n
    have hI : ∀ z : Int, -9223372036854775808 ≤ z → z ≤ 9223372036854775807 → p_Itoa [I z] = some (.str ⟨(Lib.itoa z).toArray⟩) := fun z h1 h2 => by
      show (if -9223372036854775808 ≤ z ∧ z ≤ 9223372036854775807 then _ else _) = _
      rw [if_pos ⟨h1, h2⟩]
    split at hd
    · subst_vars; cases hd; rw [hI _ (by decide) (by decide), e0]
    split at hd
    · subst_vars; cases hd; rw [hI _ (by decide) (by decide), e1]
    split at hd
    · subst_vars; cases hd; rw [hI _ (by decide) (by decide), e2]
    split at hd
    · subst_vars; cases hd; rw [hI _ (by decide) (by decide), e4]
    split at hd
    · subst_vars; cases hd; rw [hI _ (by decide) (by decide), e5]
    split at hd
    · subst_vars; cases hd; rw [hI _ (by decide) (by decide), e6]
    · cases hd
  · cases hd
def prims_Cc (f : FuncId) : Option (List D → Option D) := match f with
  | 115 => some p_SJoin
  | 114 => some p_ItoaC
  | 81 => some p_idsT
  | _ => none
noncomputable def Cc (gl : Gb) : Cfg := (Ca gl).more prims_Cc
theorem Cc_ok (m : Int) : (Cc (Gl m)).Ok Tryz.prog := (Ca_ok m).lib (by
  intro f gf hf
  unfold prims_Cc at hf
  split at hf
  · simp only [Option.some.injEq] at hf; subst hf; exact prim_SJoin m
  · simp only [Option.some.injEq] at hf; subst hf; exact prim_ItoaC m
  · simp only [Option.some.injEq] at hf; subst hf; exact prim_idsT m
  · cases hf)
theorem awake56_run (gl : Gb) : pcall Tryz.prog (Cc gl) 300 45 [] = some (.bool true) := by kernel_rfl
theorem prim_awake56 (m : Int) : PrimOk Tryz.prog (Gl m) 45 p_awake := PrimOk.of_does (Cc_ok m) fun args d hd => by
  unfold p_awake at hd
  split at hd
  · cases hd; exact ⟨300, awake56_run _⟩
  · cases hd
end Go.Proofs.YtmfgnajlkoafkaaGreatDoor
