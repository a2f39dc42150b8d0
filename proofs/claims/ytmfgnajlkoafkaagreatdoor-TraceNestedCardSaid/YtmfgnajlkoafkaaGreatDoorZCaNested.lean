/- For every input that the row lets in, TraceNested returns true and leaves its arguments as they were; condition: the library's listed variables start as the program's text lays them (the card ties them). -/
import Derived.Test.YtmfgnajlkoafkaaGreatDoorZEp
import Derived.Test.YtmfgnajlkoafkaaGreatDoorZTzi
set_option linter.all false
set_option maxHeartbeats 2000000
namespace Go.Proofs.YtmfgnajlkoafkaaGreatDoor
open Go Go.AM Go.RowKit Go.ChangeShapes Go.WideShapes Go.ChangeAt
open Go.AM.Enc (enc dec)
open Go.AM.Row (row ofRow)
set_option maxRecDepth 100000
theorem joined_traceNested : joinedFacts Tryz.prog 9 Tryz.f9 Rows.traceNestedSpec Rows.traceNestedRow = true := by
  unfold joinedFacts
  repeat' with_reducible apply and_of
  all_goals first | with_reducible exact laidOut | with_reducible exact maps_rowed | as_aux_lemma => kernel_rfl
theorem ok_traceNested (m : Int) : (C54 (Gl m)).Ok Tryz.prog := (C54_ok (C53_ok (C52_ok (C51_ok (C50_ok (C49_ok (C48_ok (C47_ok (C46_ok (C45_ok (C44_ok (C43_ok (C42_ok (C41_ok (C40_ok (C39_ok (C38_ok (C37_ok (C36_ok (C35_ok (C34_ok (C33_ok (C32_ok (C31_ok (C30_ok (C29_ok (C28_ok (C27_ok (C26_ok (C25_ok (C24_ok (C23_ok (C22_ok (C21_ok (C20_ok (C19_ok (C18_ok (C17_ok (C16_ok (C15_ok (C14_ok (C13_ok (C12_ok (C11_ok (C10_ok (C9_ok (C8_ok (C7_ok (C6_ok (C5_ok (C4_ok (C3_ok (C2_ok (C1_ok (Cz_ok (Glv_ok m))))))))))))))))))))))))))))))))))))))))))))))))))))))))
theorem said_traceNested : Rows.TraceNestedSaid :=
  OpenClaim.holds_of_wide 9 Tryz.f9 rfl rfl rfl rfl rfl rfl rfl ⟨rfl, rfl, rfl, rfl, rfl⟩ rfl rfl rfl rfl rfl (by as_aux_lemma => kernel_rfl) Tryz.func9 joined_traceNested
    (of_decide_eq_true (by as_aux_lemma => kernel_rfl)) (by unfold Func.isWrapper; first | (rw [if_pos (by decide +kernel)]; kernel_rfl) | (rw [if_neg (by decide +kernel)]; exact ⟨rfl, rfl⟩))
    (fun os started H enc _ => law_lifted os started (s := Rows.traceNestedSpec) (laid := Rows.traceNestedRow.laid) (by as_aux_lemma => kernel_rfl) Tryz.func9 rfl
      (fun ds h => by match ds, h with | [a0, a1], _ => rfl) rfl (by as_aux_lemma => kernel_rfl)
      (ChangeSpec.witness_shaped (enc := enc) (C := Tryz.checked) (os := os) (X := fun w _ => laidMetH Tryz.prog Rows.traceNestedRow.laid w) false (World.laidAll Tryz.prog os Rows.traceNestedRow.laid) #[.slice none 0 0, .string ByteArray.empty] 8 (World.laidAll_os _ _ _)
        (World.shaped_of_ZipB (by as_aux_lemma => kernel_rfl) (by as_aux_lemma => kernel_rfl)) (by as_aux_lemma => kernel_rfl) (by as_aux_lemma => kernel_rfl) (by as_aux_lemma => kernel_rfl)
        (by rw [MakeChecks.laidMetH_plain _ _ _ (by as_aux_lemma => kernel_rfl)]; exact laidMet_laidAll _ (by as_aux_lemma => kernel_rfl) (by as_aux_lemma => kernel_rfl)))
      (fun W h => by rw [MakeChecks.laidMetH_plain _ _ _ (by as_aux_lemma => kernel_rfl)] at h; exact h.tail.tail)
      C54 ok_traceNested (fun _ => rfl)
      (fun gl xs h => by
        obtain ⟨d0, _, rfl, h0, d1, _, rfl, h1, rfl⟩ := h
        obtain ⟨x0, rfl⟩ := arg_pieces h0
        obtain ⟨x1, rfl⟩ := arg_str h1
        exact does_Nested _ _ (by simp [p_law1, p_law, p_law3, p_law4])))
theorem card_traceNested : Rows.TraceNestedCardSaid :=
  Claim7.holds_tied_plain_at .later [] [.data, .data, .data, .data, .sentinel, .sentinel, .pinned] true (true, "cc44ed9c4e12e2028538bd977500a2e826d11eced8931b02e3a85813b8a3333b") true
    said_traceNested (fun _ h => by cases h) (by as_aux_lemma => kernel_rfl) (fun _ h => by cases h) traceNested_row_tie rfl ⟨rfl, rfl⟩ main_is rfl
    (fun f fn hf hfn => by
      obtain rfl : f = 9 := Option.some.inj ((show Tryz.prog.funcNamed "gangsaw/gangsawlaw56.TraceNested" = some 9 from by as_aux_lemma => kernel_rfl).symm.trans hf) |>.symm
      obtain rfl : fn = Tryz.f9 := (Option.some.inj (Tryz.func9.symm.trans hfn)).symm
      exact ⟨looks_are, fun j t ht => by
        rw [Tryz.params9] at ht
        have hm : t ∈ [22, 9] := by simpa using Array.mem_of_getElem? ht
        have hall : ([22, 9].all fun u => !Tryz.prog.wantsStandIn u) = true := by as_aux_lemma => kernel_rfl
        exact (show Tryz.prog.wantsStandIn t = false by simpa using List.all_eq_true.1 hall t hm)⟩)
    (by as_aux_lemma => kernel_rfl)
#print axioms card_traceNested
end Go.Proofs.YtmfgnajlkoafkaaGreatDoor
