/- lineage.build. lineage: open, Check, Find, poses and places. -/
import Derived.Test.YtmfgnajlkoafkaaGreatDoorMg
import Derived.Test.YtmfgnajlkoafkaaGreatDoorMe
set_option linter.all false
set_option maxHeartbeats 2000000
section
namespace Go.Proofs.YtmfgnajlkoafkaaGreatDoor
open Go Go.AM Go.AM.Orient Go.AM.Lineage
open Go.AM.Enc (enc dec)
open Go.AM.Row (row ofRow)
set_option maxRecDepth 100000
set_option linter.unusedVariables false
set_option linter.unusedSimpArgs false
variable {gl : Gb}
noncomputable def p_build : List D → Option D := p1 fun (l : List Piece) => if shortIds l then some (if checkE l = 0 then .tuple [treeD l, I 0] else .tuple [.nilp, I (checkE l)]) else none
theorem found_none {k : Str} {ks : List Str} {vs : List V} {b : Nat} {h : Heap} (hb : h.blk b = .map (ks.map D.str) vs) (hl : ks.length = vs.length) (hk : idxK k ks = none) : foundV (.str k) (.mref b) h = some none := by
  simp [foundV, hb, hl, findK_str, hk]
theorem found_some {k : Str} {ks : List Str} {vs : List V} {b j : Nat} {h : Heap} {v : V} (hb : h.blk b = .map (ks.map D.str) vs) (hl : ks.length = vs.length) (hk : idxK k ks = some j) (hv : vs[j]? = some v) : foundV (.str k) (.mref b) h = some (some v) := by
  simp [foundV, hb, hl, findK_str, hk, hv]
/-- ahead of a round of the first loop -/
def At1 (l : List Piece) (i : Nat) (e : Env) (h : Heap) : Prop :=
  e 35 = .d (I i) ∧ e 34 = .d (I l.length) ∧ e 33 = .d (.list (l.map row)) ∧ e 0 = .d (.list (l.map row)) ∧ e 4 = .ref 11 0 ∧ i ≤ l.length ∧ (∃ m, h.next = m + 16) ∧
  h.blk 11 = .cells [.d (.list (l.map row)), .mref 8, .mref 9] ∧ h.blk 8 = .map ((idsTo l i).map D.str) ((List.range i).map fun (j : Nat) => V.d (I j)) ∧
  (∃ toks : List Nat, toks.length = (kidsTo l i).length ∧ toks.Nodup ∧ (∀ t ∈ toks, h.blk t = .tok 3 1 ∧ t < h.next) ∧ h.blk 9 = .map (kidKeys (kidsTo l i)) (zipOwn toks (kidsTo l i))) ∧
  ∀ j (hj : j < i) (h2 : j < l.length), l[j].Id ∉ idsTo l j
/-- behind the first loop -/
def Full (l : List Piece) (toks : List Nat) (e : Env) (h : Heap) : Prop :=
  e 0 = .d (.list (l.map row)) ∧ e 4 = .ref 11 0 ∧ (∃ m, h.next = m + 16) ∧ h.blk 11 = .cells [.d (.list (l.map row)), .mref 8, .mref 9] ∧
  h.blk 8 = .map ((idsTo l l.length).map D.str) ((List.range l.length).map fun (j : Nat) => V.d (I j)) ∧ h.blk 9 = .map (kidKeys (kids l)) (zipOwn toks (kids l))
def At2 (l : List Piece) (toks : List Nat) (i : Nat) (e : Env) (h : Heap) : Prop :=
  Full l toks e h ∧ e 77 = .d (I i) ∧ e 76 = .d (I l.length) ∧ e 75 = .d (.list (l.map row)) ∧ i ≤ l.length ∧ ∀ j (hj : j < i) (h2 : j < l.length), l[j].Parent = ByteArray.empty ∨ l[j].Parent ∈ idsTo l j
def At3 (l : List Piece) (toks : List Nat) (i : Nat) (e : Env) (h : Heap) : Prop :=
  Full l toks e h ∧ e 109 = .d (I i) ∧ e 108 = .d (I l.length) ∧ e 107 = .d (.list (l.map row)) ∧ i ≤ l.length ∧
  ∀ j (hj : j < i) (h2 : j < l.length), l[j].Parent ≠ ByteArray.empty → ∀ k (hk : k < l.length), l[k].Id = l[j].Parent → inside l[j].Box ⟨zeroV, (Lineage.sizeOf l[k]).1⟩ = true
theorem build_run (l : List Piece) (hl : shortIds l) (ic : CallF) : W (bodyC Tryz.prog (C18 gl) (pickC (C18 gl) ic 10000) 10000 80 [.d (enc l)] Heap.empty) (fun r => freezeV r.2 10001 r.1 = some (if checkE l = 0 then .tuple [treeD l, I 0] else .tuple [.nilp, I (checkE l)])) := by
  refine W_body (c := _) Tryz.func80 rfl (by simp [Tryz.f80]) ?_
  by_cases h1 : 4096 < l.length
  · have he : checkE l = 7 := by simp [checkE, h1]
    have h1' : (4096 : Int) < l.length := by omega
    simp (config := {decide := true}) [Tryz.f80, h1', he]
  · by_cases h2 : l.any (fun p => !idOk p.Id) = true
    · have he : checkE l = 4 := by simp only [checkE, if_neg h1, if_pos h2]
      have h1' : ¬ (4096 : Int) < l.length := by omega
      simp (config := {decide := true}) [Tryz.f80, h1', he, p_ContainsFunc, hl, -List.any_eq_true, h2]
    · have h1' : ¬ (4096 : Int) < l.length := by omega
      simp (config := {decide := true}) [Tryz.f80, h1', p_ContainsFunc, hl, -List.any_eq_true, h2]
      refine W_loop rfl (At1 l) (fun i => l.length - i) 0 (by have := hl.1; omega) (by simp [At1, idsTo, kidsTo, zipOwn, kidKeys]) ?_
      rintro i e h ⟨g1, g2, g3, g4, g5, g6, ⟨m, g7⟩, g8, g9, ⟨toks, k1, k2, k3, k4⟩, g11⟩
      by_cases hlt : i < l.length
      · have hw : IntKind.i64.wrap ((i : Int) + 1) = ((i + 1 : Nat) : Int) := by have := hl.1; rw [wrap_i64] <;> omega
        by_cases hd : l[i].Id ∈ idsTo l i
        · have he : checkE l = 5 := by
            have : Dup l := ⟨i, hlt, hd⟩
            simp only [checkE, if_neg h1, if_neg h2, if_pos this]
          have hkl := idsTo_length g6
          cases hk : idxK l[i].Id (idsTo l i) with
          | none => exact absurd hd (idxK_none.1 hk)
          | some j =>
            obtain ⟨hj, _⟩ := idxK_some hk
            have hj' : j < i := by omega
            simp (config := {decide := true}) [g1, g2, g3, g4, g5, g7, g8, g9, hlt, lookupV, keyTyped, keyKind, foundV, hkl, findK_str, hk, he, hj', Nat.add_assoc]
        · have hz := zipOwn_length k1
          have hkl := idsTo_length g6
          have hs1 := idsTo_succ hlt
          have hs2 := kidsTo_succ hlt
          have hr1 : List.map (fun (j : Nat) => V.d (I j)) (List.range (i + 1)) = List.map (fun (j : Nat) => V.d (I j)) (List.range i) ++ [V.d (I i)] := by rw [List.range_succ, List.map_append]; rfl
          have hdd : ∀ j (hj : j < i + 1) (h2 : j < l.length), l[j].Id ∉ idsTo l j := fun j hj h2 => by
            by_cases e : j = i
            · subst e; exact hd
            · exact g11 j (by omega) h2
          cases hk : idxK l[i].Parent ((kidsTo l i).map (·.1)) with
          | none =>
            have ha := addKid_none (i := (i : Int)) hk
            simp (config := {decide := true}) [g1, g2, g3, g4, g5, g7, g8, g9, k4, hlt, hw, lookupV, keyTyped, keyKind, foundV, hkl, hz, findK_str, findK_kids, hk, idxK_none.2 hd, mapUpdV, Nat.add_assoc]
            refine ⟨i + 1, by omega, ?_⟩
            simp only [At1, hs1, hs2, hr1, ha]
            simp [g1, g2, g3, g4, g5, g7, g8, Nat.add_assoc]
            refine ⟨hlt, ⟨toks ++ [m + 59], by simp [k1], ?_, ?_, ?_⟩, hdd⟩
            · rw [List.nodup_append]
              refine ⟨k2, by simp, fun a ha b hb => ?_⟩
              simp at hb; subst hb
              have := (k3 a ha).2; omega
            · intro t ht
              rcases List.mem_append.1 ht with ht | ht
              · obtain ⟨tb, tl⟩ := k3 t ht
                have n1 : ¬ t = m + 58 := by omega
                have n2 : ¬ t = m + 20 := by omega
                have n6 : ¬ t = m + 59 := by omega
                have n3 : ¬ t = 8 := fun e => by rw [e, g9] at tb; cases tb
                have n4 : ¬ t = 9 := fun e => by rw [e, k4] at tb; cases tb
                simp [n1, n2, n3, n4, n6, tb]; omega
              · simp at ht; subst ht
                simp
            · rw [kidKeys_snoc, zipOwn_snoc k1]; exact ⟨rfl, rfl⟩
          | some j =>
            obtain ⟨hj, ha⟩ := addKid_some (i := (i : Int)) hk
            have hzg := zipOwn_get k1 hj
            have hjt : j < toks.length := by omega
            obtain ⟨tb, tl⟩ := k3 _ (List.getElem_mem hjt)
            have n1 : ¬ toks[j] = m + 58 := by omega
            have n2 : ¬ toks[j] = m + 20 := by omega
            have n3 : ¬ toks[j] = 8 := fun e => by rw [e, g9] at tb; cases tb
            have n4 : ¬ toks[j] = 9 := fun e => by rw [e, k4] at tb; cases tb
            have n3' : ¬ 8 = toks[j] := fun e => n3 e.symm
            have n4' : ¬ 9 = toks[j] := fun e => n4 e.symm
            have n5 : ¬ toks[j] = 11 := fun e => by rw [e, g8] at tb; cases tb
            have n2' : ¬ m + 20 = toks[j] := fun e => n2 e.symm
            have n1' : ¬ m + 58 = toks[j] := fun e => n1 e.symm
            have n5' : ¬ 11 = toks[j] := fun e => n5 e.symm
            have hkl2 := kidsTo_len _ (List.getElem_mem hj)
            have b1 : ((kidsTo l i)[j].2.length + 1) * 8 ≤ 17592186044416 := by have := hl.1; omega
            have b2 : (kidsTo l i)[j].2.length ≤ 17592186044415 := by have := hl.1; omega
            simp (config := {decide := true}) [g1, g2, g3, g4, g5, g7, g8, g9, k4, hlt, hw, lookupV, keyTyped, keyKind, foundV, hkl, hz, findK_str, findK_kids, hk, idxK_none.2 hd, mapUpdV, hzg, Nat.add_assoc, n1, n2, n3, n4, n5, n3', n4', n5', n1', n2', tb, b1, b2]
            refine ⟨i + 1, by omega, ?_⟩
            simp only [At1, hs1, hs2, hr1, ha]
            simp [g1, g2, g3, g4, g5, g7, g8, Nat.add_assoc, n3', n5']
            refine ⟨hlt, ⟨toks.set j (m + 59), by simp [k1], ?_, ?_, ?_⟩, hdd⟩
            · exact nodup_set k2 (fun hm => by have := (k3 _ hm).2; omega)
            · intro t ht
              rcases mem_set_nodup k2 hjt ht with rfl | ⟨ht, hne⟩
              · simp
              · obtain ⟨tb', tl'⟩ := k3 t ht
                have n1 : ¬ t = m + 58 := by omega
                have n2 : ¬ t = m + 20 := by omega
                have n6 : ¬ t = m + 59 := by omega
                have n3 : ¬ t = 8 := fun e => by rw [e, g9] at tb'; cases tb'
                have n4 : ¬ t = 9 := fun e => by rw [e, k4] at tb'; cases tb'
                simp [n1, n2, n3, n4, n6, tb', hne]; omega
            · obtain ⟨hj', hj2⟩ := idxK_some hk
              rw [kidKeys_set ⟨hj, by simpa using hj2⟩, zipOwn_set]; simp
      · obtain rfl : i = l.length := by omega
        have hnd : ∀ j (h : j < l.length), l[j].Id ∉ idsTo l j := fun j h => g11 j h h
        have hNdup : ¬ Dup l := fun ⟨j, hj, hm⟩ => hnd j hj hm
        have hlr : l.length < 1000000 := hl.1
        have he0 : checkE l = (open Classical in if BadParent l then 3 else if l.any (fun p => !right p) then 1 else if Lineage.Outside l then 12 else if Clash l then 11 else 0) := by
          simp only [checkE, if_neg h1, if_neg h2, if_neg hNdup]
        simp (config := {decide := true}) [g1, g2, g3, g4, g5]
        refine W_loop rfl (At2 l toks) (fun i => l.length - i) 0 (by omega) (by simp [At2, Full, g4, g5, g7, g8, g9, k4, kids, Nat.add_assoc]) ?_
        clear g1 g2 g3 g4 g5 g7 g8 g9 k3 k4 g11
        clear e h
        rintro i e h ⟨⟨g4, g5, ⟨m, g7⟩, g8, g9, k4⟩, g1, g2, g3, g6', g11⟩
        by_cases hlt : i < l.length
        · have hw : IntKind.i64.wrap ((i : Int) + 1) = ((i + 1 : Nat) : Int) := by rw [wrap_i64] <;> omega
          have hkl := idsTo_length (Nat.le_refl l.length)
          have hnext : (l[i].Parent = ByteArray.empty ∨ l[i].Parent ∈ idsTo l i) → ∀ j (hj : j < i + 1) (h2 : j < l.length), l[j].Parent = ByteArray.empty ∨ l[j].Parent ∈ idsTo l j := fun hx j hj h2 => by
            by_cases e : j = i
            · subst e; exact hx
            · exact g11 j (by omega) h2
          by_cases hp : l[i].Parent = ByteArray.empty
          · have hp' : l[i].Parent = ⟨#[]⟩ := hp
            cases hk : idxK l[i].Parent (idsTo l l.length) with
            | none =>
              have hk' := hk; rw [hp'] at hk'
              simp (config := {decide := true}) [g1, g2, g3, g4, g5, g7, g8, g9, hlt, hw, lookupV, keyTyped, keyKind, foundV, hkl, findK_str, hk', hp', Nat.add_assoc]
              exact ⟨i + 1, by omega, by simp [At2, Full, g4, g5, g8, g9, k4, g2, g3, Nat.add_assoc]; exact ⟨hlt, hnext (.inl hp)⟩⟩
            | some k =>
              have hk' := hk; rw [hp'] at hk'
              obtain ⟨hkl', _⟩ := idxK_id hnd hk
              simp (config := {decide := true}) [g1, g2, g3, g4, g5, g7, g8, g9, hlt, hw, lookupV, keyTyped, keyKind, foundV, hkl, findK_str, hk', hp', hkl', Nat.add_assoc]
              exact ⟨i + 1, by omega, by simp [At2, Full, g4, g5, g8, g9, k4, g2, g3, Nat.add_assoc]; exact ⟨hlt, hnext (.inl hp)⟩⟩
          · have hp' : ¬ l[i].Parent = ⟨#[]⟩ := hp
            have hbad : l[i].Parent ∉ idsTo l i → checkE l = 3 := fun hx => by rw [he0, if_pos ⟨i, hlt, hp, hx⟩]
            cases hk : idxK l[i].Parent (idsTo l l.length) with
            | none =>
              have he := hbad (fun hm => idxK_none.1 hk (idsTo_sub hm))
              simp (config := {decide := true}) [g1, g2, g3, g4, g5, g7, g8, g9, hlt, hw, lookupV, keyTyped, keyKind, foundV, hkl, findK_str, hk, hp', he, Nat.add_assoc]
            | some k =>
              obtain ⟨hkl', _⟩ := idxK_id hnd hk
              by_cases hki : k < i
              · have hki' : ¬ (i : Int) ≤ k := by omega
                simp (config := {decide := true}) [g1, g2, g3, g4, g5, g7, g8, g9, hlt, hw, lookupV, keyTyped, keyKind, foundV, hkl, findK_str, hk, hp', hkl', hki', hki, Nat.add_assoc]
                exact ⟨i + 1, by omega, by simp [At2, Full, g4, g5, g8, g9, k4, g2, g3, Nat.add_assoc]; exact ⟨hlt, hnext (.inr ((idxK_lt hk (by omega)).1 hki))⟩⟩
              · have he := hbad (fun hm => hki ((idxK_lt hk (by omega)).2 hm))
                have hki' : i ≤ k := by omega
                simp (config := {decide := true}) [g1, g2, g3, g4, g5, g7, g8, g9, hlt, hw, lookupV, keyTyped, keyKind, foundV, hkl, findK_str, hk, hp', hkl', hki', he, Nat.add_assoc]
        · obtain rfl : i = l.length := by omega
          have hgp : ∀ j (h2 : j < l.length), l[j].Parent = ByteArray.empty ∨ l[j].Parent ∈ idsTo l j := fun j h2 => g11 j h2 h2
          have hNbad : ¬ BadParent l := fun ⟨j, hj, h3, h4⟩ => (hgp j hj).elim h3 h4
          rw [if_neg hNbad] at he0
          by_cases hr : l.any (fun p => !right p) = true
          · rw [if_pos hr] at he0
            simp (config := {decide := true}) [g1, g2, g3, g4, g5, p_ContainsFunc, hlr, -List.any_eq_true, hr, he0]
          · rw [if_neg hr] at he0
            simp (config := {decide := true}) [g1, g2, g3, g4, g5, p_ContainsFunc, hlr, -List.any_eq_true, hr]
            refine W_loop rfl (At3 l toks) (fun i => l.length - i) 0 (by omega) (by simp [At3, Full, g4, g5, g7, g8, g9, k4, Nat.add_assoc]) ?_
            clear g1 g2 g3 g4 g5 g7 g8 g9 k4 g11
            clear e h
            rintro i e h ⟨⟨g4, g5, ⟨m, g7⟩, g8, g9, k4⟩, g1, g2, g3, g6'', g11⟩
            have hkl := idsTo_length (Nat.le_refl l.length)
            by_cases hlt : i < l.length
            · have hw : IntKind.i64.wrap ((i : Int) + 1) = ((i + 1 : Nat) : Int) := by rw [wrap_i64] <;> omega
              have hnext : (l[i].Parent ≠ ByteArray.empty → ∀ k (hk : k < l.length), l[k].Id = l[i].Parent → inside l[i].Box ⟨zeroV, (Lineage.sizeOf l[k]).1⟩ = true) →
                  ∀ j (hj : j < i + 1) (h2 : j < l.length), l[j].Parent ≠ ByteArray.empty → ∀ k (hk : k < l.length), l[k].Id = l[j].Parent → inside l[j].Box ⟨zeroV, (Lineage.sizeOf l[k]).1⟩ = true := fun hx j hj h2 => by
                by_cases e : j = i
                · subst e; exact hx
                · exact g11 j (by omega) h2
              by_cases hp : l[i].Parent = ByteArray.empty
              · have hp' : l[i].Parent = ⟨#[]⟩ := hp
                simp (config := {decide := true}) [g1, g2, g3, g4, g5, g7, g8, g9, hlt, hw, hp', Nat.add_assoc]
                exact ⟨i + 1, by omega, by simp [At3, Full, g4, g5, g8, g9, k4, g2, g3, Nat.add_assoc]; exact ⟨hlt, hnext (fun h => absurd hp h)⟩⟩
              · have hp' : ¬ l[i].Parent = ⟨#[]⟩ := hp
                cases hk : idxK l[i].Parent (idsTo l l.length) with
                | none => exact absurd (idsTo_sub ((hgp i hlt).resolve_left hp)) (idxK_none.1 hk)
                | some k =>
                  obtain ⟨hkl', hkid⟩ := idxK_id hnd hk
                  by_cases hin : inside l[i].Box ⟨zeroV, (Lineage.sizeOf l[k]).1⟩ = true
                  · have hin' := hin
                    simp only [zeroV] at hin'
                    simp (config := {decide := true}) [g1, g2, g3, g4, g5, g7, g8, g9, hlt, hw, hp', lookupV, keyTyped, keyKind, foundV, hkl, findK_str, hk, hkl', p_sizeOf, p_inside, hin', Nat.add_assoc]
                    have hx : l[i].Parent ≠ ByteArray.empty → ∀ k (hk : k < l.length), l[k].Id = l[i].Parent → inside l[i].Box ⟨zeroV, (Lineage.sizeOf l[k]).1⟩ = true := fun _ k' hk' he => by
                      obtain rfl : k' = k := ids_inj hnd hk' hkl' (by rw [he, hkid])
                      exact hin
                    exact ⟨i + 1, by omega, by simp [At3, Full, g4, g5, g8, g9, k4, g2, g3, Nat.add_assoc]; exact ⟨hlt, hnext hx⟩⟩
                  · have hO : Lineage.Outside l := ⟨i, hlt, hp, k, hkl', hkid, by simpa using hin⟩
                    rw [if_pos hO] at he0
                    have hin' := hin
                    simp only [zeroV] at hin'
                    simp (config := {decide := true}) [g1, g2, g3, g4, g5, g7, g8, g9, hlt, hw, hp', lookupV, keyTyped, keyKind, foundV, hkl, findK_str, hk, hkl', p_sizeOf, p_inside, hin', he0, Nat.add_assoc]
            · obtain rfl : i = l.length := by omega
              have hNout : ¬ Lineage.Outside l := fun ⟨j, hj, h3, k, hk, h4, h5⟩ => by rw [g11 j hj hj h3 k hk h4] at h5; cases h5
              rw [if_neg hNout] at he0
              have hzl := zipOwn_length k1
              simp (config := {decide := true}) [g1, g2, g3, g4, g5, g7, g8, g9, k4, rangeV, mapOf, kids, hzl, Nat.add_assoc]
              have hkn : (kidKeys (kidsTo l l.length)).length = (kidsTo l l.length).length := by simp
              refine W_mapLoop (L := _) rfl (b := m + 21) (m := .mref 9) (ks := kidKeys (kidsTo l l.length)) (vs := zipOwn toks (kidsTo l l.length)) (by simp) (by simp) (by simp [mapOf, k4, kids]) (by rw [hkn, hzl]) (by rfl)
                (K := [(2, .d .nilp), (3, .d (I 11))]) (by
                  intro p hp
                  simp at hp
                  rcases hp with rfl | rfl
                  · exact ⟨rfl, fun v hv => by cases v with | d x => cases x <;> simp_all [likeV] | _ => simp_all [likeV]⟩
                  · exact ⟨rfl, fun v hv => by cases v with | d x => cases x <;> simp_all [likeV] | _ => simp_all [likeV]⟩)
                (fun j => ∀ (hj : j < (kidsTo l l.length).length), groupOk l (kidsTo l l.length)[j].2) ?_ ?_ ?_
              · intro j hj
                rw [hkn] at hj
                have hzg := zipOwn_get k1 hj
                have hkg : (kidKeys (kidsTo l l.length))[j]? = some (.str (kidsTo l l.length)[j].1) := by simp [kidKeys, hj]
                obtain ⟨nv, hnv, hs, hm⟩ := kidIdx_nat l (kidsTo l l.length)[j].1 l.length
                have hgv : (kidsTo l l.length)[j].2 = nv.map (fun (j : Nat) => (j : Int)) := by rw [(kidsTo_spec (Nat.le_refl l.length)).2.1 _ (List.getElem_mem hj), hnv]
                have hnl : ∀ a (h : a < nv.length), nv[a] < l.length := fun a h => ((hm _).1 (List.getElem_mem h)).1
                have hnvl : nv.length ≤ l.length := by
                  have := kidsTo_len (l := l) (i := l.length) _ (List.getElem_mem hj)
                  rw [hgv] at this; simpa using this
                simp (config := {decide := true}) [nextV, entryV, atV, mapOf, k4, kids, hkn, hzl, hzg, hkg, forget, g4, Nat.add_assoc]
                rw [hgv]
                refine W_loopR rfl (fun (i : Nat) e h => e 148 = .d (I i) ∧ e 147 = .d (I nv.length) ∧ e 146 = .own toks[j] (nv.map fun (x : Nat) => [I x]) ∧ e 18 = .own toks[j] (nv.map fun (x : Nat) => [I x]) ∧ e 0 = .d (.list (l.map row)) ∧ i ≤ nv.length ∧
                  ∀ a b : Nat, b < a → a < i → ∀ p q, l[((nv.map fun (j : Nat) => (j : Int)).getD a 0).toNat]? = some p → l[((nv.map fun (j : Nat) => (j : Int)).getD b 0).toNat]? = some q → overlap p.Box q.Box = false) (fun i => nv.length - i) 0 (by omega)
                  (by simp (config := {decide := true}) [hgv, forget, g4, Function.comp_def]) ?_
                rintro i e1 hp1 ⟨c1, c2, c3, c4, c5, c6, c7⟩
                by_cases hlt : i < nv.length
                · have hw : IntKind.i64.wrap ((i : Int) + 1) = ((i + 1 : Nat) : Int) := by rw [wrap_i64] <;> omega
                  have hni := hnl i hlt
                  have htk : ((nv.map fun (x : Nat) => [I (x : Int)]).take i).length = i := by simp; omega
                  have hh : headLen 1 (nv.map fun (x : Nat) => [I (x : Int)]) = true := by cases nv <;> rfl
                  have hli : l[nv[i]]? = some (l[nv[i]]'hni) := List.getElem?_eq_getElem hni
                  simp (config := {decide := true}) [c1, c2, c3, c4, c5, hlt, Nat.le_of_lt hlt, -headLen, hh]
                  refine W_loopR rfl (fun (b : Nat) e h => e 157 = .d (I b) ∧ e 156 = .d (I i) ∧ e 155 = .d (.list ((nv.map fun (x : Nat) => [I x]).take i)) ∧ e 20 = .d (I nv[i]) ∧ e 148 = .d (I i) ∧ e 147 = .d (I nv.length) ∧ e 146 = .own toks[j] (nv.map fun (x : Nat) => [I x]) ∧ e 18 = .own toks[j] (nv.map fun (x : Nat) => [I x]) ∧ e 0 = .d (.list (l.map row)) ∧ b ≤ i ∧
                    ∀ b' (hb : b' < b) (h2 : b' < nv.length), overlap (l[nv[i]]'hni).Box (l[nv[b']]'(hnl b' h2)).Box = false) (fun b => i - b) 0 (by omega) (by simp [c1, c2, c3, c4, c5, Nat.min_eq_left (Nat.le_of_lt hlt)]) ?_
                  rintro b e2 hp2 ⟨d1, d2, d3, d4, d5, d6, d7, d8, d9, d10, d11⟩
                  by_cases hbi : b < i
                  · have hwb : IntKind.i64.wrap ((b : Int) + 1) = ((b + 1 : Nat) : Int) := by rw [wrap_i64] <;> omega
                    have hbl : b < nv.length := by omega
                    have hnb := hnl b hbl
                    have hlb : l[nv[b]]? = some (l[nv[b]]'hnb) := List.getElem?_eq_getElem hnb
                    have hrow : ((nv.map fun (x : Nat) => [I (x : Int)]).take i)[b]? = some [I (nv[b] : Int)] := by
                      rw [List.getElem?_take, if_pos hbi, List.getElem?_map, List.getElem?_eq_getElem hbl]; rfl
                    cases ho : overlap (l[nv[i]]'hni).Box (l[nv[b]]'hnb).Box with
                    | false =>
                      simp (config := {decide := true}) [d1, d2, d3, d4, d5, d6, d7, d8, d9, hbi, hbl, hlb, hli, p_overlap, ho, hwb]
                      refine ⟨b + 1, by omega, by simp, by omega, fun b' hb' h2 => ?_⟩
                      by_cases e : b' = b
                      · subst e; exact ho
                      · exact d11 b' (by omega) h2
                    | true =>
                      simp (config := {decide := true}) [d1, d2, d3, d4, d5, d6, d7, d8, d9, hbi, hbl, hlb, hli, p_overlap, ho, hwb]
                      refine ⟨hj, fun hg => ?_⟩
                      rw [hgv] at hg
                      have := hg i b hbi (by simpa using hlt) _ _ (by rw [getD_map_nat nv hlt]; exact hli) (by rw [getD_map_nat nv hbl]; exact hlb)
                      rw [this] at ho; cases ho
                  · obtain rfl : b = i := by omega
                    simp (config := {decide := true}) [d1, d2, d3, d4, d5, d6, d7, d8, d9, hw]
                    refine ⟨b + 1, by omega, by simp, by omega, fun a b' hab ha p q hp hq => ?_⟩
                    have e1 : ∀ x (hx : x < nv.length), ((Option.map (fun (j : Nat) => (j : Int)) nv[x]?).getD 0).toNat = nv[x] := fun x hx => by simp [hx]
                    have hal : a < nv.length := by omega
                    have hbl : b' < nv.length := by omega
                    by_cases e : a = b
                    · subst e
                      rw [e1 _ hal, hli] at hp
                      rw [e1 _ hbl, List.getElem?_eq_getElem (hnl b' hbl)] at hq
                      cases hp; cases hq
                      exact d11 b' hab hbl
                    · refine c7 a b' hab (by omega) p q ?_ ?_
                      · rw [getD_map_nat nv hal]; rw [e1 _ hal] at hp; exact hp
                      · rw [getD_map_nat nv hbl]; rw [e1 _ hbl] at hq; exact hq
                · obtain rfl : i = nv.length := by omega
                  simp (config := {decide := true}) [c1, c2, c3, c4, c5]
                  intro hj'
                  rw [hgv]
                  intro a b hab ha
                  exact c7 a b hab (by simpa using ha)
              · intro hall
                have hNc : ¬ Clash l := clash_iff.1 (fun j hj => hall j (by rw [hkn]; exact hj) hj)
                rw [if_neg hNc] at he0
                simp (config := {decide := true}) [forget, g5, g4, he0, Nat.add_assoc]
                rw [freeze_tree (l := l) (toks := toks) (k := 9997) k1 (by simp [g8]) (by simp [g9]) (by simp [k4])]
                rfl
              · intro e' hex hK hrest
                have hc : Clash l := by
                  apply Classical.byContradiction
                  intro hNc
                  obtain ⟨j, hj, hn⟩ := hex
                  exact hn (fun hj => clash_iff.2 hNc j hj)
                rw [if_pos hc] at he0
                have q2 := hK (2, .d .nilp) (by simp) (by rfl)
                have q3 := hK (3, .d (I 11)) (by simp) (by rfl)
                simp only at q2 q3
                simp [q2, q3, he0]
theorem does_build : Does Tryz.prog (C18 gl) 80 p_build := Does.p1 fun l d hd => by
  split at hd
  · rename_i hc
    cases hd
    exact ⟨_, pcall_of (build_run l hc _)⟩
  · cases hd
noncomputable def prims_C19 (gl : Gb) (f : FuncId) : Option (List D → Option D) := match f with
  | 80 => some p_build
  | _ => none
noncomputable def C19 (gl : Gb) : Cfg := (C18 gl).more (prims_C19 gl)
@[simp] theorem mutS_C19 (gl : Gb) (f s) : (C19 gl).mutS f s = mutTab f s := rfl
@[simp] theorem pureF_C19 (gl : Gb) (f) : (C19 gl).pureF f = true := rfl
@[simp] theorem glob_C19 (gl : Gb) : (C19 gl).glob = gl := rfl
@[simp] theorem C19_p92 (gl : Gb) : (C19 gl).primF 92 = some p_is := rfl
@[simp] theorem C19_p149 (gl : Gb) : (C19 gl).primF 149 = some p_array := rfl
@[simp] theorem C19_p196 (gl : Gb) : (C19 gl).primF 196 = some p_vec := rfl
@[simp] theorem C19_p98 (gl : Gb) : (C19 gl).primF 98 = some p_add := rfl
@[simp] theorem C19_p148 (gl : Gb) : (C19 gl).primF 148 = some p_neg := rfl
@[simp] theorem C19_p145 (gl : Gb) : (C19 gl).primF 145 = some p_lengths := rfl
@[simp] theorem C19_p140 (gl : Gb) : (C19 gl).primF 140 = some p_inside := rfl
@[simp] theorem C19_p99 (gl : Gb) : (C19 gl).primF 99 = some p_overlap := rfl
@[simp] theorem C19_p150 (gl : Gb) : (C19 gl).primF 150 = some p_apply := rfl
@[simp] theorem C19_p96 (gl : Gb) : (C19 gl).primF 96 = some p_near := rfl
@[simp] theorem C19_p194 (gl : Gb) : (C19 gl).primF 194 = some p_compose1 := rfl
@[simp] theorem C19_p97 (gl : Gb) : (C19 gl).primF 97 = some p_image := rfl
@[simp] theorem C19_p193 (gl : Gb) : (C19 gl).primF 193 = some p_find := rfl
@[simp] theorem C19_p147 (gl : Gb) : (C19 gl).primF 147 = some p_compose := rfl
@[simp] theorem C19_p93 (gl : Gb) : (C19 gl).primF 93 = some p_invert := rfl
@[simp] theorem C19_p190 (gl : Gb) : (C19 gl).primF 190 = some p_result := rfl
@[simp] theorem C19_p95 (gl : Gb) : (C19 gl).primF 95 = some p_turned := rfl
@[simp] theorem C19_p94 (gl : Gb) : (C19 gl).primF 94 = some p_sized := rfl
@[simp] theorem C19_p38 (gl : Gb) : (C19 gl).primF 38 = some p_Invert := rfl
@[simp] theorem C19_p39 (gl : Gb) : (C19 gl).primF 39 = some p_Size := rfl
@[simp] theorem C19_p41 (gl : Gb) : (C19 gl).primF 41 = some p_Box := rfl
@[simp] theorem C19_p142 (gl : Gb) : (C19 gl).primF 142 = some p_Join := rfl
@[simp] theorem C19_p187 (gl : Gb) : (C19 gl).primF 187 = some p_Place := rfl
@[simp] theorem C19_p125 (gl : Gb) : (C19 gl).primF 125 = some p_sizeOf := rfl
@[simp] theorem C19_p139 (gl : Gb) : (C19 gl).primF 139 = some p_right := rfl
@[simp] theorem C19_p182 (gl : Gb) : (C19 gl).primF 182 = some p_Split := rfl
@[simp] theorem C19_p114 (gl : Gb) : (C19 gl).primF 114 = some p_Itoa := rfl
@[simp] theorem C19_p131 (gl : Gb) : (C19 gl).primF 131 = some p_Atoi := rfl
@[simp] theorem C19_p316 (gl : Gb) : (C19 gl).primF 316 = some p_classes := rfl
@[simp] theorem C19_p252 (gl : Gb) : (C19 gl).primF 252 = some p_inner := rfl
@[simp] theorem C19_p251 (gl : Gb) : (C19 gl).primF 251 = some p_Name1 := rfl
@[simp] theorem C19_p250 (gl : Gb) : (C19 gl).primF 250 = some p_run := rfl
@[simp] theorem C19_p183 (gl : Gb) : (C19 gl).primF 183 = some p_Name := rfl
@[simp] theorem C19_p128 (gl : Gb) : (C19 gl).primF 128 = some p_isId := rfl
@[simp] theorem C19_p137 (gl : Gb) : (C19 gl).primF 137 = some p_build1 := rfl
@[simp] theorem C19_p138 (gl : Gb) : (C19 gl).primF 138 = some p_build2 := rfl
@[simp] theorem C19_p184 (gl : Gb) : (C19 gl).primF 184 = some p_IndexFunc := rfl
@[simp] theorem C19_p129 (gl : Gb) : (C19 gl).primF 129 = some p_ContainsFunc := rfl
@[simp] theorem C19_p80 (gl : Gb) : (C19 gl).primF 80 = some p_build := rfl
theorem C19_ok {gl : Gb} (h : (C18 gl).Ok Tryz.prog) : (C19 gl).Ok Tryz.prog := h.more (by
  intro f gf hf
  unfold prims_C19 at hf
  split at hf
  · simp only [Option.some.injEq] at hf; subst hf; exact does_build
  · cases hf)
end Go.Proofs.YtmfgnajlkoafkaaGreatDoor
end
section
namespace Go.Proofs.YtmfgnajlkoafkaaGreatDoor
open Go Go.AM Go.AM.Orient Go.AM.Lineage
open Go.AM.Enc (enc dec)
open Go.AM.Row (row ofRow)
set_option maxRecDepth 100000
set_option linter.unusedVariables false
set_option linter.unusedSimpArgs false
variable {gl : Gb}
noncomputable def p_open : List D → Option D := p2 fun (l : List Piece) (id : Str) => if shortIds l then some (openD l id) else none
theorem does_open : Does Tryz.prog (C19 gl) 84 p_open := con2 (fun _ _ => 10) fun l id hl ic => by
  refine W_body (c := _) Tryz.func84 rfl (by simp [Tryz.f84]) ?_
  by_cases hc : checkE l = 0
  · obtain ⟨_, _, hnd, _⟩ := valid_of hc
    cases hk : idxK id (idsTo l l.length) with
    | none =>
      have ho : openD l id = .tuple [.nilp, I 0, I 3] := by simp [openD, hc, hk]
      simp (config := {decide := true}) [Tryz.f84, p_build, hl, hc, treeD, treeCells, lookupV, keyTyped, keyKind, foundV, findK_ids, hk, ho]
    | some k =>
      obtain ⟨hkl, _⟩ := idxK_id hnd hk
      have ho : openD l id = .tuple [treeD l, I k, I 0] := by simp [openD, hc, hk]
      simp (config := {decide := true}) [Tryz.f84, p_build, hl, hc, treeD, treeCells, lookupV, keyTyped, keyKind, foundV, findK_ids, hk, ho, idVals_get hkl]
  · have ho : openD l id = .tuple [.nilp, I 0, I (checkE l)] := by simp [openD, hc]
    simp (config := {decide := true}) [Tryz.f84, p_build, hl, hc, ho]
noncomputable def p_Check : List D → Option D := p1 fun (l : List Piece) => if shortIds l then some (I (checkE l)) else none
theorem does_Check : Does Tryz.prog (C19 gl) 19 p_Check := con1 (fun _ => 10) fun l hl ic => by
  refine W_body (c := _) Tryz.func19 rfl (by simp [Tryz.f19]) ?_
  by_cases hc : checkE l = 0
  · simp (config := {decide := true}) [Tryz.f19, p_build, hl, hc]
  · simp (config := {decide := true}) [Tryz.f19, p_build, hl, hc]
noncomputable def prims_C20 (gl : Gb) (f : FuncId) : Option (List D → Option D) := match f with
  | 84 => some p_open
  | 19 => some p_Check
  | _ => none
noncomputable def C20 (gl : Gb) : Cfg := (C19 gl).more (prims_C20 gl)
@[simp] theorem mutS_C20 (gl : Gb) (f s) : (C20 gl).mutS f s = mutTab f s := rfl
@[simp] theorem pureF_C20 (gl : Gb) (f) : (C20 gl).pureF f = true := rfl
@[simp] theorem glob_C20 (gl : Gb) : (C20 gl).glob = gl := rfl
@[simp] theorem C20_p92 (gl : Gb) : (C20 gl).primF 92 = some p_is := rfl
@[simp] theorem C20_p149 (gl : Gb) : (C20 gl).primF 149 = some p_array := rfl
@[simp] theorem C20_p196 (gl : Gb) : (C20 gl).primF 196 = some p_vec := rfl
@[simp] theorem C20_p98 (gl : Gb) : (C20 gl).primF 98 = some p_add := rfl
@[simp] theorem C20_p148 (gl : Gb) : (C20 gl).primF 148 = some p_neg := rfl
@[simp] theorem C20_p145 (gl : Gb) : (C20 gl).primF 145 = some p_lengths := rfl
@[simp] theorem C20_p140 (gl : Gb) : (C20 gl).primF 140 = some p_inside := rfl
@[simp] theorem C20_p99 (gl : Gb) : (C20 gl).primF 99 = some p_overlap := rfl
@[simp] theorem C20_p150 (gl : Gb) : (C20 gl).primF 150 = some p_apply := rfl
@[simp] theorem C20_p96 (gl : Gb) : (C20 gl).primF 96 = some p_near := rfl
@[simp] theorem C20_p194 (gl : Gb) : (C20 gl).primF 194 = some p_compose1 := rfl
@[simp] theorem C20_p97 (gl : Gb) : (C20 gl).primF 97 = some p_image := rfl
@[simp] theorem C20_p193 (gl : Gb) : (C20 gl).primF 193 = some p_find := rfl
@[simp] theorem C20_p147 (gl : Gb) : (C20 gl).primF 147 = some p_compose := rfl
@[simp] theorem C20_p93 (gl : Gb) : (C20 gl).primF 93 = some p_invert := rfl
@[simp] theorem C20_p190 (gl : Gb) : (C20 gl).primF 190 = some p_result := rfl
@[simp] theorem C20_p95 (gl : Gb) : (C20 gl).primF 95 = some p_turned := rfl
@[simp] theorem C20_p94 (gl : Gb) : (C20 gl).primF 94 = some p_sized := rfl
@[simp] theorem C20_p38 (gl : Gb) : (C20 gl).primF 38 = some p_Invert := rfl
@[simp] theorem C20_p39 (gl : Gb) : (C20 gl).primF 39 = some p_Size := rfl
@[simp] theorem C20_p41 (gl : Gb) : (C20 gl).primF 41 = some p_Box := rfl
@[simp] theorem C20_p142 (gl : Gb) : (C20 gl).primF 142 = some p_Join := rfl
@[simp] theorem C20_p187 (gl : Gb) : (C20 gl).primF 187 = some p_Place := rfl
@[simp] theorem C20_p125 (gl : Gb) : (C20 gl).primF 125 = some p_sizeOf := rfl
@[simp] theorem C20_p139 (gl : Gb) : (C20 gl).primF 139 = some p_right := rfl
@[simp] theorem C20_p182 (gl : Gb) : (C20 gl).primF 182 = some p_Split := rfl
@[simp] theorem C20_p114 (gl : Gb) : (C20 gl).primF 114 = some p_Itoa := rfl
@[simp] theorem C20_p131 (gl : Gb) : (C20 gl).primF 131 = some p_Atoi := rfl
@[simp] theorem C20_p316 (gl : Gb) : (C20 gl).primF 316 = some p_classes := rfl
@[simp] theorem C20_p252 (gl : Gb) : (C20 gl).primF 252 = some p_inner := rfl
@[simp] theorem C20_p251 (gl : Gb) : (C20 gl).primF 251 = some p_Name1 := rfl
@[simp] theorem C20_p250 (gl : Gb) : (C20 gl).primF 250 = some p_run := rfl
@[simp] theorem C20_p183 (gl : Gb) : (C20 gl).primF 183 = some p_Name := rfl
@[simp] theorem C20_p128 (gl : Gb) : (C20 gl).primF 128 = some p_isId := rfl
@[simp] theorem C20_p137 (gl : Gb) : (C20 gl).primF 137 = some p_build1 := rfl
@[simp] theorem C20_p138 (gl : Gb) : (C20 gl).primF 138 = some p_build2 := rfl
@[simp] theorem C20_p184 (gl : Gb) : (C20 gl).primF 184 = some p_IndexFunc := rfl
@[simp] theorem C20_p129 (gl : Gb) : (C20 gl).primF 129 = some p_ContainsFunc := rfl
@[simp] theorem C20_p80 (gl : Gb) : (C20 gl).primF 80 = some p_build := rfl
@[simp] theorem C20_p84 (gl : Gb) : (C20 gl).primF 84 = some p_open := rfl
@[simp] theorem C20_p19 (gl : Gb) : (C20 gl).primF 19 = some p_Check := rfl
theorem C20_ok {gl : Gb} (h : (C19 gl).Ok Tryz.prog) : (C20 gl).Ok Tryz.prog := h.more (by
  intro f gf hf
  unfold prims_C20 at hf
  split at hf
  · simp only [Option.some.injEq] at hf; subst hf; exact does_open
  · simp only [Option.some.injEq] at hf; subst hf; exact does_Check
  · cases hf)
theorem pick_pure {P : Program} {C : Cfg} {k : Nat} {f : FuncId} {vs : List V} {h : Heap} (hp : C.primF f = none) (hv : C.primV f = none) (hq : C.pureF f = true) {ds : List D} (hd : allD vs = some ds) {d : D} (hk : pcall P C k f ds = some d) : pickC C (icall P C k) k (.fn f) vs h = some (.d d, h) := by
  simp only [pickC, hp, hv, hq, if_true, hd]
  unfold pcall at hk
  cases hi : icall P C k (.fn f) (ds.map .d) Heap.empty with
  | none => rw [hi] at hk; cases hk
  | some r =>
    obtain ⟨v, h'⟩ := r
    rw [hi] at hk
    simp only at hk ⊢
    rw [hk]; rfl
theorem pose_run (l : List Piece) (hc : checkE l = 0) : ∀ (K i : Nat), i < l.length → i + 10 ≤ K → pcall Tryz.prog (C20 gl) K 85 [treeD l, I i] = some (enc (poseOf l i))
  | 0, i, _, h => by omega
  | K + 1, i, hi, hK => by
    refine pcall_of ?_
    refine W_body (c := _) Tryz.func85 rfl (by simp [Tryz.f85]) ?_
    by_cases hp : l[i].Parent = ByteArray.empty
    · have hp' : l[i].Parent = ⟨#[]⟩ := hp
      rw [poseOf_top hi hp]
      simp (config := {decide := true}) [Tryz.f85, treeD, treeCells, hi, hp']
    · have hp' : ¬ l[i].Parent = ⟨#[]⟩ := hp
      obtain ⟨k, hk, hki⟩ := parent_of hc hi hp
      have hkl : k < l.length := by omega
      have ih := pose_run l hc K k hkl (by omega)
      rw [poseOf_kid hc hi hp hk hki]
      have hpk : ∀ h, pickC (C20 gl) (icall Tryz.prog (C20 gl) K) K (.fn 85) [V.d (.ptr [.list (l.map row), .map (idKeys l) (idVals l), .map (kKeys l) (kVals l)] 0), V.d (I k)] h = some (V.d (enc (poseOf l k)), h) := fun h => pick_pure (by rfl) (by rfl) rfl (by rfl) ih
      simp only [enc_Pose] at hpk
      simp (config := {decide := true}) [Tryz.f85, treeD, treeCells, hi, hp', lookupV, keyTyped, keyKind, foundV, findK_ids, hk, idVals_get hkl, hpk, p_Join]
noncomputable def p_pose : List D → Option D
  | [t, .int .i64 i] => onTree (fun l => open Classical in if checkE l = 0 ∧ 0 ≤ i ∧ i < l.length then some (enc (poseOf l i.toNat)) else none) t
  | _ => none
theorem does_pose : Does Tryz.prog (C20 gl) 85 p_pose := by
  intro ds d hd
  unfold p_pose at hd
  split at hd
  · obtain ⟨l, rfl, h⟩ := onTree_some hd
    rename_i i
    split at h
    · rename_i hc
      cases h
      have := pose_run (gl := gl) l hc.1 (i.toNat + 10) i.toNat (by omega) (by omega)
      simp only [Int.toNat_of_nonneg hc.2.1] at this
      exact ⟨_, this⟩
    · cases h
  · cases hd
noncomputable def prims_C21 (gl : Gb) (f : FuncId) : Option (List D → Option D) := match f with
  | 85 => some p_pose
  | _ => none
noncomputable def C21 (gl : Gb) : Cfg := (C20 gl).more (prims_C21 gl)
@[simp] theorem mutS_C21 (gl : Gb) (f s) : (C21 gl).mutS f s = mutTab f s := rfl
@[simp] theorem pureF_C21 (gl : Gb) (f) : (C21 gl).pureF f = true := rfl
@[simp] theorem glob_C21 (gl : Gb) : (C21 gl).glob = gl := rfl
@[simp] theorem C21_p92 (gl : Gb) : (C21 gl).primF 92 = some p_is := rfl
@[simp] theorem C21_p149 (gl : Gb) : (C21 gl).primF 149 = some p_array := rfl
@[simp] theorem C21_p196 (gl : Gb) : (C21 gl).primF 196 = some p_vec := rfl
@[simp] theorem C21_p98 (gl : Gb) : (C21 gl).primF 98 = some p_add := rfl
@[simp] theorem C21_p148 (gl : Gb) : (C21 gl).primF 148 = some p_neg := rfl
@[simp] theorem C21_p145 (gl : Gb) : (C21 gl).primF 145 = some p_lengths := rfl
@[simp] theorem C21_p140 (gl : Gb) : (C21 gl).primF 140 = some p_inside := rfl
@[simp] theorem C21_p99 (gl : Gb) : (C21 gl).primF 99 = some p_overlap := rfl
@[simp] theorem C21_p150 (gl : Gb) : (C21 gl).primF 150 = some p_apply := rfl
@[simp] theorem C21_p96 (gl : Gb) : (C21 gl).primF 96 = some p_near := rfl
@[simp] theorem C21_p194 (gl : Gb) : (C21 gl).primF 194 = some p_compose1 := rfl
@[simp] theorem C21_p97 (gl : Gb) : (C21 gl).primF 97 = some p_image := rfl
@[simp] theorem C21_p193 (gl : Gb) : (C21 gl).primF 193 = some p_find := rfl
@[simp] theorem C21_p147 (gl : Gb) : (C21 gl).primF 147 = some p_compose := rfl
@[simp] theorem C21_p93 (gl : Gb) : (C21 gl).primF 93 = some p_invert := rfl
@[simp] theorem C21_p190 (gl : Gb) : (C21 gl).primF 190 = some p_result := rfl
@[simp] theorem C21_p95 (gl : Gb) : (C21 gl).primF 95 = some p_turned := rfl
@[simp] theorem C21_p94 (gl : Gb) : (C21 gl).primF 94 = some p_sized := rfl
@[simp] theorem C21_p38 (gl : Gb) : (C21 gl).primF 38 = some p_Invert := rfl
@[simp] theorem C21_p39 (gl : Gb) : (C21 gl).primF 39 = some p_Size := rfl
@[simp] theorem C21_p41 (gl : Gb) : (C21 gl).primF 41 = some p_Box := rfl
@[simp] theorem C21_p142 (gl : Gb) : (C21 gl).primF 142 = some p_Join := rfl
@[simp] theorem C21_p187 (gl : Gb) : (C21 gl).primF 187 = some p_Place := rfl
@[simp] theorem C21_p125 (gl : Gb) : (C21 gl).primF 125 = some p_sizeOf := rfl
@[simp] theorem C21_p139 (gl : Gb) : (C21 gl).primF 139 = some p_right := rfl
@[simp] theorem C21_p182 (gl : Gb) : (C21 gl).primF 182 = some p_Split := rfl
@[simp] theorem C21_p114 (gl : Gb) : (C21 gl).primF 114 = some p_Itoa := rfl
@[simp] theorem C21_p131 (gl : Gb) : (C21 gl).primF 131 = some p_Atoi := rfl
@[simp] theorem C21_p316 (gl : Gb) : (C21 gl).primF 316 = some p_classes := rfl
@[simp] theorem C21_p252 (gl : Gb) : (C21 gl).primF 252 = some p_inner := rfl
@[simp] theorem C21_p251 (gl : Gb) : (C21 gl).primF 251 = some p_Name1 := rfl
@[simp] theorem C21_p250 (gl : Gb) : (C21 gl).primF 250 = some p_run := rfl
@[simp] theorem C21_p183 (gl : Gb) : (C21 gl).primF 183 = some p_Name := rfl
@[simp] theorem C21_p128 (gl : Gb) : (C21 gl).primF 128 = some p_isId := rfl
@[simp] theorem C21_p137 (gl : Gb) : (C21 gl).primF 137 = some p_build1 := rfl
@[simp] theorem C21_p138 (gl : Gb) : (C21 gl).primF 138 = some p_build2 := rfl
@[simp] theorem C21_p184 (gl : Gb) : (C21 gl).primF 184 = some p_IndexFunc := rfl
@[simp] theorem C21_p129 (gl : Gb) : (C21 gl).primF 129 = some p_ContainsFunc := rfl
@[simp] theorem C21_p80 (gl : Gb) : (C21 gl).primF 80 = some p_build := rfl
@[simp] theorem C21_p84 (gl : Gb) : (C21 gl).primF 84 = some p_open := rfl
@[simp] theorem C21_p19 (gl : Gb) : (C21 gl).primF 19 = some p_Check := rfl
@[simp] theorem C21_p85 (gl : Gb) : (C21 gl).primF 85 = some p_pose := rfl
theorem C21_ok {gl : Gb} (h : (C20 gl).Ok Tryz.prog) : (C21 gl).Ok Tryz.prog := h.more (by
  intro f gf hf
  unfold prims_C21 at hf
  split at hf
  · simp only [Option.some.injEq] at hf; subst hf; exact does_pose
  · cases hf)
noncomputable def p_place : List D → Option D
  | [t, .int .i64 i] => onTree (fun l => open Classical in if checkE l = 0 ∧ 0 ≤ i ∧ i < l.length then some (enc (placeOf l i.toNat)) else none) t
  | _ => none
theorem does_place : Does Tryz.prog (C21 gl) 86 p_place := by
  intro ds d hd
  unfold p_place at hd
  split at hd
  · obtain ⟨l, rfl, h⟩ := onTree_some hd
    rename_i i
    split at h
    · rename_i hc
      cases h
      have hi : i.toNat < l.length := by omega
      refine ⟨_, pcall_of (k := 10) ?_⟩
      refine W_body (c := _) Tryz.func86 rfl (by simp [Tryz.f86]) ?_
      simp (config := {decide := true}) [Tryz.f86, treeD, treeCells, hi, hc, onTree_eq', p_pose, p_sizeOf, p_Box, placeOf, zeroV]
    · cases h
  · cases hd
noncomputable def prims_C22 (gl : Gb) (f : FuncId) : Option (List D → Option D) := match f with
  | 86 => some p_place
  | _ => none
noncomputable def C22 (gl : Gb) : Cfg := (C21 gl).more (prims_C22 gl)
@[simp] theorem mutS_C22 (gl : Gb) (f s) : (C22 gl).mutS f s = mutTab f s := rfl
@[simp] theorem pureF_C22 (gl : Gb) (f) : (C22 gl).pureF f = true := rfl
@[simp] theorem glob_C22 (gl : Gb) : (C22 gl).glob = gl := rfl
@[simp] theorem C22_p92 (gl : Gb) : (C22 gl).primF 92 = some p_is := rfl
@[simp] theorem C22_p149 (gl : Gb) : (C22 gl).primF 149 = some p_array := rfl
@[simp] theorem C22_p196 (gl : Gb) : (C22 gl).primF 196 = some p_vec := rfl
@[simp] theorem C22_p98 (gl : Gb) : (C22 gl).primF 98 = some p_add := rfl
@[simp] theorem C22_p148 (gl : Gb) : (C22 gl).primF 148 = some p_neg := rfl
@[simp] theorem C22_p145 (gl : Gb) : (C22 gl).primF 145 = some p_lengths := rfl
@[simp] theorem C22_p140 (gl : Gb) : (C22 gl).primF 140 = some p_inside := rfl
@[simp] theorem C22_p99 (gl : Gb) : (C22 gl).primF 99 = some p_overlap := rfl
@[simp] theorem C22_p150 (gl : Gb) : (C22 gl).primF 150 = some p_apply := rfl
@[simp] theorem C22_p96 (gl : Gb) : (C22 gl).primF 96 = some p_near := rfl
@[simp] theorem C22_p194 (gl : Gb) : (C22 gl).primF 194 = some p_compose1 := rfl
@[simp] theorem C22_p97 (gl : Gb) : (C22 gl).primF 97 = some p_image := rfl
@[simp] theorem C22_p193 (gl : Gb) : (C22 gl).primF 193 = some p_find := rfl
@[simp] theorem C22_p147 (gl : Gb) : (C22 gl).primF 147 = some p_compose := rfl
@[simp] theorem C22_p93 (gl : Gb) : (C22 gl).primF 93 = some p_invert := rfl
@[simp] theorem C22_p190 (gl : Gb) : (C22 gl).primF 190 = some p_result := rfl
@[simp] theorem C22_p95 (gl : Gb) : (C22 gl).primF 95 = some p_turned := rfl
@[simp] theorem C22_p94 (gl : Gb) : (C22 gl).primF 94 = some p_sized := rfl
@[simp] theorem C22_p38 (gl : Gb) : (C22 gl).primF 38 = some p_Invert := rfl
@[simp] theorem C22_p39 (gl : Gb) : (C22 gl).primF 39 = some p_Size := rfl
@[simp] theorem C22_p41 (gl : Gb) : (C22 gl).primF 41 = some p_Box := rfl
@[simp] theorem C22_p142 (gl : Gb) : (C22 gl).primF 142 = some p_Join := rfl
@[simp] theorem C22_p187 (gl : Gb) : (C22 gl).primF 187 = some p_Place := rfl
@[simp] theorem C22_p125 (gl : Gb) : (C22 gl).primF 125 = some p_sizeOf := rfl
@[simp] theorem C22_p139 (gl : Gb) : (C22 gl).primF 139 = some p_right := rfl
@[simp] theorem C22_p182 (gl : Gb) : (C22 gl).primF 182 = some p_Split := rfl
@[simp] theorem C22_p114 (gl : Gb) : (C22 gl).primF 114 = some p_Itoa := rfl
@[simp] theorem C22_p131 (gl : Gb) : (C22 gl).primF 131 = some p_Atoi := rfl
@[simp] theorem C22_p316 (gl : Gb) : (C22 gl).primF 316 = some p_classes := rfl
@[simp] theorem C22_p252 (gl : Gb) : (C22 gl).primF 252 = some p_inner := rfl
@[simp] theorem C22_p251 (gl : Gb) : (C22 gl).primF 251 = some p_Name1 := rfl
@[simp] theorem C22_p250 (gl : Gb) : (C22 gl).primF 250 = some p_run := rfl
@[simp] theorem C22_p183 (gl : Gb) : (C22 gl).primF 183 = some p_Name := rfl
@[simp] theorem C22_p128 (gl : Gb) : (C22 gl).primF 128 = some p_isId := rfl
@[simp] theorem C22_p137 (gl : Gb) : (C22 gl).primF 137 = some p_build1 := rfl
@[simp] theorem C22_p138 (gl : Gb) : (C22 gl).primF 138 = some p_build2 := rfl
@[simp] theorem C22_p184 (gl : Gb) : (C22 gl).primF 184 = some p_IndexFunc := rfl
@[simp] theorem C22_p129 (gl : Gb) : (C22 gl).primF 129 = some p_ContainsFunc := rfl
@[simp] theorem C22_p80 (gl : Gb) : (C22 gl).primF 80 = some p_build := rfl
@[simp] theorem C22_p84 (gl : Gb) : (C22 gl).primF 84 = some p_open := rfl
@[simp] theorem C22_p19 (gl : Gb) : (C22 gl).primF 19 = some p_Check := rfl
@[simp] theorem C22_p85 (gl : Gb) : (C22 gl).primF 85 = some p_pose := rfl
@[simp] theorem C22_p86 (gl : Gb) : (C22 gl).primF 86 = some p_place := rfl
theorem C22_ok {gl : Gb} (h : (C21 gl).Ok Tryz.prog) : (C22 gl).Ok Tryz.prog := h.more (by
  intro f gf hf
  unfold prims_C22 at hf
  split at hf
  · simp only [Option.some.injEq] at hf; subst hf; exact does_place
  · cases hf)
noncomputable def p_Find : List D → Option D := p2 fun (l : List Piece) (id : Str) => if shortIds l then some (enc2 (findE l id)) else none
theorem does_Find : Does Tryz.prog (C22 gl) 22 p_Find := con2 (fun _ _ => 10) fun l id hl ic => by
  refine W_body (c := _) Tryz.func22 rfl (by simp [Tryz.f22]) ?_
  by_cases hc : checkE l = 0
  · obtain ⟨_, _, hnd, _⟩ := valid_of hc
    cases hk : idxK id (idsTo l l.length) with
    | none =>
      have ho : openD l id = .tuple [.nilp, I 0, I 3] := by simp [openD, hc, hk]
      have hf : findE l id = (zeroPiece, 3) := by simp [findE, firstE, hc, hk]
      simp (config := {decide := true}) [Tryz.f22, p_open, hl, ho, hf, zeroPiece, zeroP, zeroB, zeroV]
    | some k =>
      obtain ⟨hkl, _⟩ := idxK_id hnd hk
      have ho : openD l id = .tuple [treeD l, I k, I 0] := by simp [openD, hc, hk]
      have hf : findE l id = (l[k], 0) := by simp [findE, firstE, hc, hk, idxN, hkl]
      simp (config := {decide := true}) [Tryz.f22, p_open, hl, ho, hf, treeD, treeCells, hkl]
  · have ho : openD l id = .tuple [.nilp, I 0, I (checkE l)] := by simp [openD, hc]
    have hf : findE l id = (zeroPiece, checkE l) := by simp [findE, firstE, hc]
    simp (config := {decide := true}) [Tryz.f22, p_open, hl, ho, hf, hc, zeroPiece, zeroP, zeroB, zeroV]
noncomputable def p_PoseL : List D → Option D := p2 fun (l : List Piece) (id : Str) => if shortIds l then some (enc2 (poseE l id)) else none
theorem does_PoseL : Does Tryz.prog (C22 gl) 23 p_PoseL := con2 (fun _ _ => 10) fun l id hl ic => by
  refine W_body (c := _) Tryz.func23 rfl (by simp [Tryz.f23]) ?_
  by_cases hc : checkE l = 0
  · obtain ⟨_, _, hnd, _⟩ := valid_of hc
    cases hk : idxK id (idsTo l l.length) with
    | none =>
      have ho : openD l id = .tuple [.nilp, I 0, I 3] := by simp [openD, hc, hk]
      have hf : poseE l id = (zeroP, 3) := by simp [poseE, firstE, hc, hk]
      simp (config := {decide := true}) [Tryz.f23, p_open, hl, ho, hf, zeroP, zeroV]
    | some k =>
      obtain ⟨hkl, _⟩ := idxK_id hnd hk
      have ho : openD l id = .tuple [treeD l, I k, I 0] := by simp [openD, hc, hk]
      have hf : poseE l id = (poseOf l k, 0) := by simp [poseE, firstE, hc, hk, idxN]
      simp (config := {decide := true}) [Tryz.f23, p_open, hl, ho, hf, hkl, p_pose, onTree_eq, hc]
  · have ho : openD l id = .tuple [.nilp, I 0, I (checkE l)] := by simp [openD, hc]
    have hf : poseE l id = (zeroP, checkE l) := by simp [poseE, firstE, hc]
    simp (config := {decide := true}) [Tryz.f23, p_open, hl, ho, hf, hc, zeroP, zeroV]
noncomputable def p_PlaceL : List D → Option D := p2 fun (l : List Piece) (id : Str) => if shortIds l then some (enc2 (placeE l id)) else none
theorem does_PlaceL : Does Tryz.prog (C22 gl) 24 p_PlaceL := con2 (fun _ _ => 10) fun l id hl ic => by
  refine W_body (c := _) Tryz.func24 rfl (by simp [Tryz.f24]) ?_
  by_cases hc : checkE l = 0
  · obtain ⟨_, _, hnd, _⟩ := valid_of hc
    cases hk : idxK id (idsTo l l.length) with
    | none =>
      have ho : openD l id = .tuple [.nilp, I 0, I 3] := by simp [openD, hc, hk]
      have hf : placeE l id = (zeroB, 3) := by simp [placeE, firstE, hc, hk]
      simp (config := {decide := true}) [Tryz.f24, p_open, hl, ho, hf, zeroB, zeroV]
    | some k =>
      obtain ⟨hkl, _⟩ := idxK_id hnd hk
      have ho : openD l id = .tuple [treeD l, I k, I 0] := by simp [openD, hc, hk]
      have hf : placeE l id = (placeOf l k, 0) := by simp [placeE, firstE, hc, hk, idxN]
      simp (config := {decide := true}) [Tryz.f24, p_open, hl, ho, hf, hkl, p_place, onTree_eq, hc]
  · have ho : openD l id = .tuple [.nilp, I 0, I (checkE l)] := by simp [openD, hc]
    have hf : placeE l id = (zeroB, checkE l) := by simp [placeE, firstE, hc]
    simp (config := {decide := true}) [Tryz.f24, p_open, hl, ho, hf, hc, zeroB, zeroV]
noncomputable def prims_C23 (gl : Gb) (f : FuncId) : Option (List D → Option D) := match f with
  | 22 => some p_Find
  | 23 => some p_PoseL
  | 24 => some p_PlaceL
  | _ => none
noncomputable def C23 (gl : Gb) : Cfg := (C22 gl).more (prims_C23 gl)
@[simp] theorem mutS_C23 (gl : Gb) (f s) : (C23 gl).mutS f s = mutTab f s := rfl
@[simp] theorem pureF_C23 (gl : Gb) (f) : (C23 gl).pureF f = true := rfl
@[simp] theorem glob_C23 (gl : Gb) : (C23 gl).glob = gl := rfl
@[simp] theorem C23_p92 (gl : Gb) : (C23 gl).primF 92 = some p_is := rfl
@[simp] theorem C23_p149 (gl : Gb) : (C23 gl).primF 149 = some p_array := rfl
@[simp] theorem C23_p196 (gl : Gb) : (C23 gl).primF 196 = some p_vec := rfl
@[simp] theorem C23_p98 (gl : Gb) : (C23 gl).primF 98 = some p_add := rfl
@[simp] theorem C23_p148 (gl : Gb) : (C23 gl).primF 148 = some p_neg := rfl
@[simp] theorem C23_p145 (gl : Gb) : (C23 gl).primF 145 = some p_lengths := rfl
@[simp] theorem C23_p140 (gl : Gb) : (C23 gl).primF 140 = some p_inside := rfl
@[simp] theorem C23_p99 (gl : Gb) : (C23 gl).primF 99 = some p_overlap := rfl
@[simp] theorem C23_p150 (gl : Gb) : (C23 gl).primF 150 = some p_apply := rfl
@[simp] theorem C23_p96 (gl : Gb) : (C23 gl).primF 96 = some p_near := rfl
@[simp] theorem C23_p194 (gl : Gb) : (C23 gl).primF 194 = some p_compose1 := rfl
@[simp] theorem C23_p97 (gl : Gb) : (C23 gl).primF 97 = some p_image := rfl
@[simp] theorem C23_p193 (gl : Gb) : (C23 gl).primF 193 = some p_find := rfl
@[simp] theorem C23_p147 (gl : Gb) : (C23 gl).primF 147 = some p_compose := rfl
@[simp] theorem C23_p93 (gl : Gb) : (C23 gl).primF 93 = some p_invert := rfl
@[simp] theorem C23_p190 (gl : Gb) : (C23 gl).primF 190 = some p_result := rfl
@[simp] theorem C23_p95 (gl : Gb) : (C23 gl).primF 95 = some p_turned := rfl
@[simp] theorem C23_p94 (gl : Gb) : (C23 gl).primF 94 = some p_sized := rfl
@[simp] theorem C23_p38 (gl : Gb) : (C23 gl).primF 38 = some p_Invert := rfl
@[simp] theorem C23_p39 (gl : Gb) : (C23 gl).primF 39 = some p_Size := rfl
@[simp] theorem C23_p41 (gl : Gb) : (C23 gl).primF 41 = some p_Box := rfl
@[simp] theorem C23_p142 (gl : Gb) : (C23 gl).primF 142 = some p_Join := rfl
@[simp] theorem C23_p187 (gl : Gb) : (C23 gl).primF 187 = some p_Place := rfl
@[simp] theorem C23_p125 (gl : Gb) : (C23 gl).primF 125 = some p_sizeOf := rfl
@[simp] theorem C23_p139 (gl : Gb) : (C23 gl).primF 139 = some p_right := rfl
@[simp] theorem C23_p182 (gl : Gb) : (C23 gl).primF 182 = some p_Split := rfl
@[simp] theorem C23_p114 (gl : Gb) : (C23 gl).primF 114 = some p_Itoa := rfl
@[simp] theorem C23_p131 (gl : Gb) : (C23 gl).primF 131 = some p_Atoi := rfl
@[simp] theorem C23_p316 (gl : Gb) : (C23 gl).primF 316 = some p_classes := rfl
@[simp] theorem C23_p252 (gl : Gb) : (C23 gl).primF 252 = some p_inner := rfl
@[simp] theorem C23_p251 (gl : Gb) : (C23 gl).primF 251 = some p_Name1 := rfl
@[simp] theorem C23_p250 (gl : Gb) : (C23 gl).primF 250 = some p_run := rfl
@[simp] theorem C23_p183 (gl : Gb) : (C23 gl).primF 183 = some p_Name := rfl
@[simp] theorem C23_p128 (gl : Gb) : (C23 gl).primF 128 = some p_isId := rfl
@[simp] theorem C23_p137 (gl : Gb) : (C23 gl).primF 137 = some p_build1 := rfl
@[simp] theorem C23_p138 (gl : Gb) : (C23 gl).primF 138 = some p_build2 := rfl
@[simp] theorem C23_p184 (gl : Gb) : (C23 gl).primF 184 = some p_IndexFunc := rfl
@[simp] theorem C23_p129 (gl : Gb) : (C23 gl).primF 129 = some p_ContainsFunc := rfl
@[simp] theorem C23_p80 (gl : Gb) : (C23 gl).primF 80 = some p_build := rfl
@[simp] theorem C23_p84 (gl : Gb) : (C23 gl).primF 84 = some p_open := rfl
@[simp] theorem C23_p19 (gl : Gb) : (C23 gl).primF 19 = some p_Check := rfl
@[simp] theorem C23_p85 (gl : Gb) : (C23 gl).primF 85 = some p_pose := rfl
@[simp] theorem C23_p86 (gl : Gb) : (C23 gl).primF 86 = some p_place := rfl
@[simp] theorem C23_p22 (gl : Gb) : (C23 gl).primF 22 = some p_Find := rfl
@[simp] theorem C23_p23 (gl : Gb) : (C23 gl).primF 23 = some p_PoseL := rfl
@[simp] theorem C23_p24 (gl : Gb) : (C23 gl).primF 24 = some p_PlaceL := rfl
theorem C23_ok {gl : Gb} (h : (C22 gl).Ok Tryz.prog) : (C23 gl).Ok Tryz.prog := h.more (by
  intro f gf hf
  unfold prims_C23 at hf
  split at hf
  · simp only [Option.some.injEq] at hf; subst hf; exact does_Find
  · simp only [Option.some.injEq] at hf; subst hf; exact does_PoseL
  · simp only [Option.some.injEq] at hf; subst hf; exact does_PlaceL
  · cases hf)
end Go.Proofs.YtmfgnajlkoafkaaGreatDoor
end
