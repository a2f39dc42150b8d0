/- Disjoint boxes within a box: their volumes add up to at most its own; in plain Lean. -/
import Derived.Test.YtmfgnajlkoafkaaGreatDoorMl
set_option linter.all false
set_option maxHeartbeats 2000000
namespace Go.AM.Orient
open Go Go.AM
open Go.AM.Enc (enc dec)
open Go.AM.Row (row ofRow)
set_option linter.unusedVariables false
theorem count_range (lo hi : Nat) (h1 : lo ≤ hi) : ∀ n, hi ≤ n → (List.range n).countP (fun x => decide (lo ≤ x) && decide (x < hi)) = hi - lo := by
  have key : ∀ n, (List.range n).countP (fun x => decide (lo ≤ x) && decide (x < hi)) = min n hi - min n lo := by
    intro n
    induction n with
    | zero => simp
    | succ n ih =>
      rw [List.range_succ, List.countP_append, ih]
      simp only [List.countP_cons, List.countP_nil, Nat.zero_add, Bool.and_eq_true, decide_eq_true_eq]
      split <;> omega
  intro n hn
  rw [key]; omega
theorem count_pairs {α β : Type} (p : α → Bool) (q : β → Bool) (B : List β) : ∀ (A : List α), (A.flatMap fun a => B.map fun b => (a, b)).countP (fun c => p c.1 && q c.2) = A.countP p * B.countP q
  | [] => by simp
  | a :: A => by
    rw [List.flatMap_cons, List.countP_append, count_pairs p q B A, List.countP_map, List.countP_cons]
    cases hp : p a with
    | true =>
      have : ((fun c : α × β => p c.1 && q c.2) ∘ fun b => (a, b)) = q := by funext b; simp [hp]
      rw [this]
      simp only [reduceIte]
      rw [Nat.add_mul, Nat.one_mul, Nat.add_comm]
    | false =>
      have : ((fun c : α × β => p c.1 && q c.2) ∘ fun b => (a, b)) = fun _ => false := by funext b; simp [hp]
      rw [this]
      simp
theorem sum_excl {α : Type} (ps : List (α → Bool)) : ∀ (C : List α), (∀ c ∈ C, ps.Pairwise fun p q => ¬ (p c = true ∧ q c = true)) → (ps.map fun p => C.countP p).sum ≤ C.length
  | [], _ => by
    have : (ps.map fun p => ([] : List α).countP p) = ps.map fun _ => 0 := List.map_congr_left fun p _ => rfl
    rw [this]
    induction ps with
    | nil => simp
    | cons p ps ih => simpa using ih (by simp) (by simp)
  | c :: C, h => by
    have h1 := sum_excl ps C fun x hx => h x (List.mem_cons_of_mem _ hx)
    have h2 := h c (List.mem_cons_self ..)
    have key : ∀ (qs : List (α → Bool)), qs.Pairwise (fun p q => ¬ (p c = true ∧ q c = true)) → (qs.map fun p => (c :: C).countP p).sum ≤ (qs.map fun p => C.countP p).sum + 1 ∧ ((∀ q ∈ qs, q c = false) → (qs.map fun p => (c :: C).countP p).sum = (qs.map fun p => C.countP p).sum) := by
      intro qs
      induction qs with
      | nil => simp
      | cons q qs ih =>
        intro hq
        obtain ⟨a1, a2⟩ := List.pairwise_cons.1 hq
        obtain ⟨i1, i2⟩ := ih a2
        simp only [List.map_cons, List.sum_cons, List.countP_cons]
        cases hc : q c with
        | true =>
          have := i2 fun r hr => by
            cases hrc : r c with
            | false => rfl
            | true => exact absurd ⟨hc, hrc⟩ (a1 r hr)
          simp only [List.countP_cons] at this
          refine ⟨?_, fun hf => ?_⟩
          · rw [this]; simp; omega
          · have := hf q (List.mem_cons_self ..); rw [hc] at this; cases this
        | false =>
          simp only [List.countP_cons] at i1 i2
          refine ⟨?_, fun hf => ?_⟩
          · simp; omega
          · rw [i2 fun r hr => hf r (List.mem_cons_of_mem _ hr)]; simp
    have := (key ps h2).1
    rw [List.length_cons]; omega
/-- a box's volume -/
def volZ (b : Box) : Int := (b.Max.X - b.Min.X) * ((b.Max.Y - b.Min.Y) * (b.Max.Z - b.Min.Z))
def gridOf (B : Box) : List (Nat × Nat × Nat) := (List.range (B.Max.X - B.Min.X).toNat).flatMap fun x => ((List.range (B.Max.Y - B.Min.Y).toNat).flatMap fun y => (List.range (B.Max.Z - B.Min.Z).toNat).map fun z => (y, z)).map fun c => (x, c)
def ax (lo hi o : Int) (x : Nat) : Bool := decide ((lo - o).toNat ≤ x) && decide (x < (hi - o).toNat)
def inB (B b : Box) (c : Nat × Nat × Nat) : Bool := ax b.Min.X b.Max.X B.Min.X c.1 && (ax b.Min.Y b.Max.Y B.Min.Y c.2.1 && ax b.Min.Z b.Max.Z B.Min.Z c.2.2)
theorem count_ax {lo hi o e : Int} (h1 : o ≤ lo) (h2 : lo ≤ hi) (h3 : hi ≤ e) : (List.range (e - o).toNat).countP (ax lo hi o) = (hi - lo).toNat := by
  unfold ax
  rw [count_range _ _ (by omega) _ (by omega)]; omega
theorem pos_of {b : Box} (h : bad b = false) : b.Min.X ≤ b.Max.X ∧ b.Min.Y ≤ b.Max.Y ∧ b.Min.Z ≤ b.Max.Z := by
  simp [bad] at h; omega
theorem count_box {B b : Box} (hb : bad b = false) (hi : inside b B = true) : (((gridOf B).countP (inB B b) : Nat) : Int) = volZ b := by
  obtain ⟨p1, p2, p3⟩ := pos_of hb
  simp [inside] at hi
  unfold gridOf inB volZ
  rw [count_pairs (ax b.Min.X b.Max.X B.Min.X) (fun c : Nat × Nat => ax b.Min.Y b.Max.Y B.Min.Y c.1 && ax b.Min.Z b.Max.Z B.Min.Z c.2), count_pairs, count_ax (by omega) (by omega) (by omega), count_ax (by omega) (by omega) (by omega), count_ax (by omega) (by omega) (by omega)]
  rw [Int.natCast_mul, Int.natCast_mul, Int.toNat_of_nonneg (by omega), Int.toNat_of_nonneg (by omega), Int.toNat_of_nonneg (by omega)]
theorem grid_len {B : Box} (hb : bad B = false) : ((gridOf B).length : Int) = volZ B := by
  rw [← count_box hb (inside_refl B)]
  congr 1
  rw [eq_comm, List.countP_eq_length]
  intro c hc
  unfold gridOf at hc
  obtain ⟨x, hx, hc⟩ := List.mem_flatMap.1 hc
  obtain ⟨c2, hc2, rfl⟩ := List.mem_map.1 hc
  obtain ⟨y, hy, hc2⟩ := List.mem_flatMap.1 hc2
  obtain ⟨z, hz, rfl⟩ := List.mem_map.1 hc2
  simp only [List.mem_range] at hx hy hz
  simp [inB, ax]; omega
theorem excl {B a b : Box} (ha : bad a = false) (hb : bad b = false) (hia : inside a B = true) (hib : inside b B = true) (h : overlap a b = false) (c : Nat × Nat × Nat) : ¬ (inB B a c = true ∧ inB B b c = true) := by
  obtain ⟨p1, p2, p3⟩ := pos_of ha
  obtain ⟨q1, q2, q3⟩ := pos_of hb
  simp [inside] at hia hib
  rintro ⟨h1, h2⟩
  simp only [inB, ax, Bool.and_eq_true, decide_eq_true_eq] at h1 h2
  have : overlap a b = true := by simp [overlap]; omega
  rw [h] at this; cases this
theorem vol_sum {B : Box} (hB : bad B = false) {bs : List Box} (h1 : ∀ b ∈ bs, bad b = false ∧ inside b B = true) (h2 : bs.Pairwise fun a b => overlap a b = false) : (bs.map volZ).sum ≤ volZ B := by
  have h := sum_excl (bs.map (inB B)) (gridOf B) fun c _ => by
    rw [List.pairwise_map]
    exact h2.imp_of_mem fun {a b} ha hb ho => excl (h1 a ha).1 (h1 b hb).1 (h1 a ha).2 (h1 b hb).2 ho c
  have e : (((bs.map (inB B)).map fun p => (gridOf B).countP p).sum : Int) = (bs.map volZ).sum := by
    clear h h2
    induction bs with
    | nil => simp
    | cons b bs ih =>
      simp only [List.map_cons, List.sum_cons]
      rw [Int.natCast_add, ih fun x hx => h1 x (List.mem_cons_of_mem _ hx), count_box (h1 b (List.mem_cons_self ..)).1 (h1 b (List.mem_cons_self ..)).2]
  rw [← e, ← grid_len hB]
  omega
theorem volZ_nn {b : Box} (h : bad b = false) : 0 ≤ volZ b := by
  obtain ⟨p1, p2, p3⟩ := pos_of h
  unfold volZ
  exact Int.mul_nonneg (by omega) (Int.mul_nonneg (by omega) (by omega))
end Go.AM.Orient
