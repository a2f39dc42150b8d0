/- A function that puts a slice together, sorts it, and goes on with it alone. lineage: sorted ids. Pieces without kids lie apart, in plain Lean. lineage: pieces without kids, Present, Overlap; the law LineageApart. The law LineageApart at the machine: it answers true. -/
import Derived.Test.YtmfgnajlkoafkaaGreatDoorMd
import Derived.Test.YtmfgnajlkoafkaaGreatDoorMj
import Derived.Test.YtmfgnajlkoafkaaGreatDoorZShelf2
import Derived.Test.YtmfgnajlkoafkaaGreatDoorMe
set_option linter.all false
set_option maxHeartbeats 2000000
section
namespace Go.AM
open Go Go.RowKit
set_option linter.unusedVariables false
/-- one block's contents turn; new blocks may come -/
structure Turned (w w' : World) (b : Nat) : Prop where
  os : w'.os = w.os
  tape : w'.tape = w.tape
  output : w'.output = w.output
  size : w.heap.size ≤ w'.heap.size
  other : ∀ k, k < w.heap.size → k ≠ b → w'.heap[k]? = w.heap[k]?
def deadH (n : Nat) : Heap := ⟨fun _ => .dead, n⟩
section
variable {P : Program} {C : Cfg} {B : Base} {N : Nat} {ds : Fr} {e : Env} {h : Heap} {g : G} {w : World} {a : Act}
theorem put_getD_ne {d : Option Nat} {v : Value} {j : Nat} (hd : d ≠ some j) : (a.put d v).tmps.getD j undef = a.tmps.getD j undef := by
  cases d with
  | none => rfl
  | some s =>
    have : s ≠ j := fun e => hd (by rw [e])
    simp only [Act.put, Array.getD_eq_getD_getElem?, Array.getElem?_setIfInBounds, if_neg this]
theorem hop0 {a b : Oper} : (#[a, b] : Array Oper)[0]? = some a := rfl
theorem hop1 {a b : Oper} : (#[a, b] : Array Oper)[1]? = some b := rfl
theorem Mut_dead {n : Nat} {b o : Nat} : Mut B.M0 (deadH n) g b o ↔ B.M0 b o := by
  constructor
  · rintro (h | ⟨_, _, _, h⟩)
    · exact h
    · exact h.elim
  · exact .inl
theorem Ext_of_below {w w' : World} {M M' : Muts} (hb : Below w.heap.size w w') (hm : ∀ b o, ¬ M b o → b < w.heap.size → ¬ M' b o) : Ext w M w' M' :=
  ⟨fun b o v _ hv => by rw [World.cell?_of_block (hb.block b (World.block_lt_of_cell? _ _ hv))]; exact hv, fun r es c _ hr => by rw [hb.block r (lt_of_map hr)]; exact hr, hm, hb.size⟩
theorem St.turned (s : St B N ds e h g w a) (hgl : ∀ n, (∃ x, B.glob n = .d x ∧ RD B.w0 B.M0 x (.pointer (some ⟨n, 0, none⟩))) ∨ B.glob n = .unk)
    {b : Nat} (hge : B.w0.heap.size ≤ b) {w' : World} (ht : Turned w w' b) (hc : ∃ cur t fr, w.heap[b]? = some (.cells cur t fr)) {e' : Env} {a' : Act}
    (he : ∀ j, VR w' (Mut B.M0 (deadH h.next) g) g (e' j) (a'.tmps.getD j undef)) (hs : a'.tmps.size = N) (hd : a'.defers = a.defers) : St B N ds e' (deadH h.next) g w' a' := by
  obtain ⟨cur, t, fr, hc⟩ := hc
  have hb : Below B.w0.heap.size B.w0 w' := ⟨ht.os.trans s.inv.below.os, ht.tape.trans s.inv.below.tape, ht.output.trans s.inv.below.output, Nat.le_trans s.inv.below.size ht.size,
    fun k hk => (ht.other k (by have := s.inv.below.size; omega) (by omega)).trans (s.inv.below.block k hk)⟩
  refine ⟨⟨hb, s.inv.m0, fun _ => trivial, fun i j hi => by simp [deadH, live] at hi, fun i hi => Nat.lt_of_lt_of_le (s.inv.lt i hi) ht.size, s.inv.nxt, fun _ _ => rfl, fun n => ?_, fun d hd => ?_, fun l hl => ?_⟩, he, hs, s.defers.mono (GLe.refl g) hd⟩
  · rcases hgl n with ⟨x, h1, h2⟩ | h1
    · rw [h1]
      exact RD.mono (Ext_of_below hb fun b o hm _ => fun hx => hm (Mut_dead.1 hx)) _ _ h2
    · rw [h1]; trivial
  · obtain ⟨q1, q2⟩ := s.inv.dfr d hd
    exact ⟨q1, (ht.other d (Array.getElem?_eq_some_iff.1 q2).1 (fun e => by rw [e, hc] at q2; cases q2)).trans q2⟩
  · obtain ⟨q1, r, q2⟩ := s.inv.lps l hl
    exact ⟨q1, r, (ht.other l (Array.getElem?_eq_some_iff.1 q2).1 (fun e => by rw [e, hc] at q2; cases q2)).trans q2⟩
/-- the region of the sort: a slot is moved, the function is called with it -/
theorem sort_region (hB : B.glob = C.glob) {callF : CallF} (hC : CallOk P C.glob callF) (s : St B N ds e h g w a) {f fS : FuncId} {s1 s5 : Nat} {t1 : TypeId} {p1 : String} {af1 : Array Edge} {d2 : Option Nat} {cl : Call} {t2 : TypeId} {p2 : String} {af2 : Array Edge} {r : Nat}
    (h1 : s1 < N) (h2 : ∀ t, d2 = some t → t < N) (hcal : calleeV (evO C.glob (e.put (some s1) (e s5))) cl = some (.fn fS, [e s5])) {R : World → Prop}
    (hS : ∀ v, VR w (Mut B.M0 h g) g (e s5) v → (callFunc fS #[v]).run P w = .ok (.enter fS #[v]) w ∧ Calls P fS #[v] w fun en w' => (∃ v', en = .returned v') ∧ R w')
    {Q : Exit → Act → World → Prop}
    (hQ : ∀ a' w', a'.tmps.size = N → a'.defers = a.defers → (∀ j, j ≠ s1 → d2 ≠ some j → a'.tmps.getD j undef = a.tmps.getD j undef) → R w' → Q .normal a' w') :
    (Code.region r #[⟨some s1, .move (.tmp s5), t1, p1, af1, none⟩, ⟨d2, .call cl, t2, p2, af2, none⟩] false).wpIn (Fe ds.rd) 0 P Q a w := by
  refine wpIn_region ?_
  show wpOpsIn (Fe ds.rd) 0 P _ Q [0, 1] a w
  rw [wpOpsIn_cons]
  unfold wpOpIn
  rw [hop0]
  simp only []
  rw [if_pos (by rfl)]
  refine ⟨fun _ _ => trivial, ?_⟩
  rw [Oper.semAt_eq _ _ _ (by intro c hc; cases hc)]
  have hm : (execOp a.eval ⟨some s1, .move (.tmp s5), t1, p1, af1, none⟩).run P w = .ok (.value (a.tmps.getD s5 undef)) w := by
    simp [execOp, Act.eval]
  rw [hm, Oper.uponIn_value]
  have hsz : s1 < a.tmps.size := by rw [s.size]; exact h1
  have hv5 := s.env s5
  have henv : ∀ t, VR w (Mut B.M0 h g) g ((e.put (some s1) (e s5)) t) ((a.put (some s1) (a.tmps.getD s5 undef)).tmps.getD t undef) :=
    put_env (fun t => s.env t) (fun t ht => by cases ht; exact hsz) hv5
  have s' : St B N ds (e.put (some s1) (e s5)) h g w (a.put (some s1) (a.tmps.getD s5 undef)) :=
    ⟨s.inv, henv, by rw [(put_size _ _ _).1]; exact s.size, s.defers.mono (GLe.refl g) (put_size _ _ _).2⟩
  have hev := s'.eval
  rw [hB] at hev
  obtain ⟨vals, k1, k2⟩ := calleeV_sim hev hcal t2
  obtain ⟨v, hvals, hv⟩ : ∃ v, vals = #[v] ∧ VR w (Mut B.M0 h g) g (e s5) v := by
    obtain ⟨v, vs, e1, h3, h4⟩ := k1
    have e4 : vs = [] := h4
    subst e4
    exact ⟨v, by rw [← Array.toArray_toList (xs := vals), e1], h3⟩
  subst hvals
  obtain ⟨k3, k4⟩ := hS v hv
  show wpOpsIn (Fe ds.rd) 0 P _ Q [1] _ w
  rw [wpOpsIn_cons]
  unfold wpOpIn
  rw [hop1]
  simp only []
  rw [if_pos (by rfl)]
  refine ⟨fun _ _ => trivial, ?_⟩
  rw [Oper.semAt_eq _ _ _ (by intro c hc; cases hc)]
  have hm2 : (execOp (a.put (some s1) (a.tmps.getD s5 undef)).eval ⟨d2, .call cl, t2, p2, af2, none⟩).run P w = .ok (.enter fS #[v]) w := by
    rw [← k3, ← k2]
    simp only [execOp]
  rw [hm2]
  refine ⟨(fun hq => by cases hq), CallsIn.mono (callsIn_fe k4) ?_⟩
  rintro en w' ⟨⟨v', rfl⟩, hR⟩
  show wpOpsIn (Fe ds.rd) 0 P _ Q [] _ w'
  refine hQ _ w' ?_ ?_ ?_ hR
  · rw [(put_size _ _ _).1, (put_size _ _ _).1]; exact s.size
  · rw [(put_size _ _ _).2, (put_size _ _ _).2]
  · intro j hj hd
    rw [put_getD_ne hd, put_getD_ne (by simpa using fun e => hj e.symm)]
theorem prim_sorted {k kk : Nat} (hO : C.Ok P) {f fS : FuncId} {fn : Func} {c0 c1 c2 rest : Code} {r s1 s5 : Nat} {t1 : TypeId} {p1 : String} {af1 : Array Edge} {d2 : Option Nat} {cl : Call} {t2 : TypeId} {p2 : String} {af2 : Array Edge}
    (hfn : C.fns f = some fn) (hb : fn.body = some (c0.seq (c1.seq (c2.seq ((Code.region r #[⟨some s1, .move (.tmp s5), t1, p1, af1, none⟩, ⟨d2, .call cl, t2, p2, af2, none⟩] false).seq rest)))))
    {dl : List D} {d : D} {vals : Array Value} {w : World} {M : Muts} (hi : C.glob.inv w) (hm : ∀ b o, M b o → b < w.heap.size) (hg : ∀ n x, C.glob n = .d x → RD w M x (.pointer (some ⟨n, 0, none⟩))) (hv : RDL w M dl vals.toList)
    (hlen : dl.length ≤ fn.ntmps) (hs1 : s1 < fn.ntmps) (hs5 : s5 < fn.ntmps) (hd2 : ∀ t, d2 = some t → t < fn.ntmps) (hn1 : s5 ≠ s1) (hn2 : d2 ≠ some s5)
    {e0 e1 e2 : Env} {h0 h1 h2 : Heap} (q0 : denC P C (pickC C (icall P C k) k) k f c0 false (argEnv (dl.map .d)) Heap.empty = some (.normal, e0, h0)) (q1 : denC P C (pickC C (icall P C k) k) k f c1 false e0 h0 = some (.normal, e1, h1))
    (q2 : denC P C (pickC C (icall P C k) k) k f c2 false e1 h1 = some (.normal, e2, h2)) {rows rows' : List (List D)} (he : (∃ t ty, e2 s5 = .own t rows ∧ h2.blk t = .tok ty 1) ∨ (e2 s5 = .nils ∧ rows = [] ∧ rows' = []))
    (hcal : calleeV (evO C.glob (e2.put (some s1) (e2 s5))) cl = some (.fn fS, [e2 s5])) (hrl : rows'.length = rows.length)
    (hS : ∀ (w1 : World) (M1 : Muts) (b cap : Nat), RowsAt w1 M1 rows b 0 1 → (∃ cur ty, w1.heap[b]? = some (.cells cur ty (0, 0))) → (callFunc fS #[.slice (some ⟨b, 0, none⟩) rows.length cap]).run P w1 = .ok (.enter fS #[.slice (some ⟨b, 0, none⟩) rows.length cap]) w1 ∧
      Calls P fS #[.slice (some ⟨b, 0, none⟩) rows.length cap] w1 fun en w' => (∃ v', en = .returned v') ∧ Turned w1 w' b ∧ ∀ M', (∀ o, ¬ M' b o) → RowsAt w' M' rows' b 0 1)
    (hS0 : ∀ w1 : World, (callFunc fS #[.slice none 0 0]).run P w1 = .ok (.enter fS #[.slice none 0 0]) w1 ∧ Calls P fS #[.slice none 0 0] w1 fun en w' => (∃ v', en = .returned v') ∧ w' = w1)
    {x : Ex} {e3 : Env} {h3 : Heap} {v : V} (hx : x = .normal ∨ x = .ret) (q3 : denC P C (pickC C (icall P C k) k) k f rest false (fun t => if t = s5 then .d (.list rows') else .unk) (deadH h2.next) = some (x, e3, h3))
    (hr : resultV P e3 h3 fn.results.toList = some v) (hz : freezeV h3 kk v = some d) :
    (callFunc f vals).run P w = .ok (.enter f vals) w ∧ Calls P f vals w fun en w' => ∃ v', en = .returned v' ∧ RD w' M d v' ∧ Below w.heap.size w w' := by
  let B : Base := ⟨w, M, C.glob, hi⟩
  have hgB : ∀ n, (∃ x, B.glob n = .d x ∧ RD B.w0 B.M0 x (.pointer (some ⟨n, 0, none⟩))) ∨ B.glob n = .unk := fun n => by
    rcases hO.glob n with ⟨x, h1⟩ | h1
    · exact .inl ⟨x, h1, hg n x h1⟩
    · exact .inr h1
  have I : Inv B Heap.empty emptyG w := Inv.start rfl hm hgB
  have hv' : VRL w (Mut B.M0 Heap.empty emptyG) emptyG (dl.map .d) vals.toList := RDL.toVRL (RDL.mono ⟨fun _ _ _ _ h => h, fun _ _ _ _ h => h, fun b o hm _ => by
    rintro (h0 | ⟨i, hd, _⟩)
    · exact hm h0
    · exact hd.elim, Nat.le_refl _⟩ _ _ hv)
  obtain ⟨f1, f2, f3⟩ := hO.fns f fn hfn
  have hok := f3 _ hb
  simp only [codeOk, Bool.and_eq_true] at hok
  obtain ⟨ok0, ok1, ok2, okr, ok3⟩ := hok
  refine ⟨callFunc_run f1 f2 hb, ?_⟩
  refine (callsIn_wide (n := 0)).1 (show CallsIn (Fe none) 0 P f vals w _ from callsIn_of_wp_marks (F := Fe none) f1 hb trivial ?_)
  have hvl := VRL.length hv'
  simp only [Array.length_toList, List.length_map] at hvl
  have s0 : St B fn.ntmps ⟨emptyG.dfr, none⟩ (argEnv (dl.map .d)) Heap.empty emptyG w { tmps := vals ++ Array.replicate (fn.ntmps - vals.size) undef, defers := [] } := by
    refine ⟨I, fun t => ?_, by simp; omega, ⟨[], rfl, List.nodup_nil, fun _ h => by cases h⟩, (fun _ h => by cases h), fun _ h => h⟩
    simp only [argEnv]
    rw [Array.getD_eq_getD_getElem?]
    by_cases ht : t < (dl.map V.d).length
    · obtain ⟨u, q1, q2⟩ := VRL.get hv' t _ (List.getElem?_eq_getElem ht)
      have ht' : t < vals.size := by simp at ht; omega
      have e1 : (vals ++ Array.replicate (fn.ntmps - vals.size) undef)[t]? = some u := by
        rw [Array.getElem?_append_left ht']; simpa using q1
      rw [e1]
      simpa [List.getD, List.getElem?_eq_getElem ht] using q2
    · have ht' : vals.size ≤ t := by simp at ht; omega
      have e1 : ((vals ++ Array.replicate (fn.ntmps - vals.size) undef)[t]?).getD undef = undef := by
        rw [Array.getElem?_append_right ht']
        by_cases hr : t - vals.size < fn.ntmps - vals.size
        · simp [hr]
        · simp [hr]
      rw [e1]
      have e2 : (dl.map V.d).getD t undefV = undefV := by simp [List.getD, List.getElem?_eq_none (Nat.le_of_not_lt ht)]
      rw [e2]
      exact undef_sim
  have hC := pick_sim hO (icall_sim hO k) k
  have hA := pick_apart (C := C) (icall P C k) k
  refine wpIn_seq (den_sim hO.mix hC hA rfl k f c0 false _ _ _ _ _ .normal e0 h0 _ ok0 s0 q0 ?_)
  intro a1 w1 g1 st1 _ _ _ _
  refine wpIn_seq (den_sim hO.mix hC hA rfl k f c1 false _ _ _ _ _ .normal e1 h1 _ ok1 st1 q1 ?_)
  intro a2 w2 g2 st2 _ _ _ _
  refine wpIn_seq (den_sim hO.mix hC hA rfl k f c2 false _ _ _ _ _ .normal e2 h2 _ ok2 st2 q2 ?_)
  intro a3 w3 g3 st3 _ _ _ _
  have fin : ∀ (a' : Act) (w' : World), St B fn.ntmps ⟨emptyG.dfr, none⟩ (fun t => if t = s5 then .d (.list rows') else .unk) (deadH h2.next) g3 w' a' →
      rest.wpIn (Fe none) 0 P (bodyPostM (Fe none) 0 P fn (fun en w' => ∃ v', en = .returned v' ∧ RD w' M d v' ∧ Below w.heap.size w w')) a' w' := by
    intro a' w' st
    refine den_sim hO.mix hC hA rfl k f rest false _ _ _ _ _ x e3 h3 _ ok3 st q3 ?_
    intro a4 w4 g4 st4 _ z2 _ _
    have key : LeavesInM Fence.wide 0 P fn a4.tmps (fun en w' => ∃ v', en = .returned v' ∧ RD w' M d v' ∧ Below w.heap.size w w') a4.defers .returning w4 := by
      obtain ⟨⟨Ds, d1, d2, d3⟩, d4, d5⟩ := st4.defers
      rw [d1]
      refine marks_sim (gs := emptyG) (ds := ⟨emptyG.dfr, none⟩) (fun _ h => h) Ds g4 w4 a4.tmps st4.inv st4.env st4.size ?_ d2 d3 d5 d4 hr ?_
      · exact ⟨fun _ h => h.elim, fun _ h => h.elim, fun _ h => h.elim, fun _ h => h.elim, fun _ h => h.elim, fun _ h => h.elim, fun _ h => h.elim, fun _ h => h.elim, fun _ h => h.elim⟩
      · intro v' w' g' r1 r2 r3 r4 r5
        exact ⟨v', rfl, freeze_sim r1 kk v v' d r2 hz, r1.below⟩
    rcases hx with rfl | rfl
    · exact key
    · exact key
  refine wpIn_seq ?_
  rcases he with ⟨t, ty, het, hbt⟩ | ⟨hen, rfl, rfl⟩
  · have hv5 := st3.env s5
    rw [het] at hv5
    obtain ⟨hdom, hval, hcap, hln, hrow⟩ := hv5
    have hbk := st3.inv.blk t
    rw [hbt] at hbk
    obtain ⟨_, hge, cur, hcur, _, _, _, _, hsz⟩ := hbk
    rw [hsz] at hrow
    refine sort_region (ds := ⟨emptyG.dfr, none⟩) rfl hC st3 (f := f) (fS := fS) hs1 hd2 hcal (R := fun w' => Turned w3 w' (g3.rho t) ∧ ∀ M', (∀ o, ¬ M' (g3.rho t) o) → RowsAt w' M' rows' (g3.rho t) 0 1) (fun v hv => ?_) (fun a' w' z1 z2 z3 z4 => ?_)
    · rw [het] at hv
      obtain ⟨_, rfl, _, _, _⟩ := hv
      exact hS w3 _ (g3.rho t) (g3.cap t) hrow ⟨cur, ty, hcur⟩
    · obtain ⟨z4, z5⟩ := z4
      refine fin a' w' (st3.turned hgB hge z4 ⟨cur, ty, _, hcur⟩ (fun j => ?_) z1 z2)
      show VR w' _ g3 (if j = s5 then .d (.list rows') else .unk) _
      by_cases hj : j = s5
      · subst hj
        rw [if_pos rfl, z3 j hn1 hn2, hval]
        refine ⟨_, _, by rw [hrl], by rw [hrl]; exact hcap, fun hne => ⟨g3.rho t, 0, 1, rfl, z5 _ fun o hmut => ?_⟩⟩
        have := hm _ _ (Mut_dead.1 hmut)
        have hge' : w.heap.size ≤ g3.rho t := hge
        omega
      · rw [if_neg hj]; trivial
  · have hv5 := st3.env s5
    rw [hen] at hv5
    have hval : a3.tmps.getD s5 undef = .slice none 0 0 := hv5
    refine sort_region (ds := ⟨emptyG.dfr, none⟩) rfl hC st3 (f := f) (fS := fS) hs1 hd2 hcal (R := fun w' => w' = w3) (fun v hv => ?_) (fun a' w' z1 z2 z3 z4 => ?_)
    · rw [hen] at hv
      have : v = .slice none 0 0 := hv
      subst this
      exact hS0 w3
    · subst z4
      have hbel : Below B.w0.heap.size B.w0 w' := st3.inv.below
      have st : St B fn.ntmps ⟨emptyG.dfr, none⟩ (fun t => if t = s5 then .d (.list []) else .unk) (deadH h2.next) g3 w' a' := by
        refine ⟨⟨hbel, st3.inv.m0, fun _ => trivial, fun i j hi => by simp [deadH, live] at hi, st3.inv.lt, st3.inv.nxt, fun _ _ => rfl, fun n => ?_, st3.inv.dfr, st3.inv.lps⟩, fun j => ?_, z1, st3.defers.mono (GLe.refl g3) z2⟩
        · rcases hgB n with ⟨x, y1, y2⟩ | y1
          · rw [y1]
            exact RD.mono (Ext_of_below hbel fun b o hm _ => fun hx => hm (Mut_dead.1 hx)) _ _ y2
          · rw [y1]; trivial
        · show VR w' _ g3 (if j = s5 then .d (.list []) else .unk) _
          by_cases hj : j = s5
          · subst hj
            rw [if_pos rfl, z3 j hn1 hn2, hval]
            exact ⟨none, 0, rfl, Nat.le_refl _, fun h => absurd rfl h⟩
          · rw [if_neg hj]; trivial
      exact fin a' w' st
end
end Go.AM
end
section
namespace Go.AM
open Go
open Go.AM.Enc (enc dec)
open Go.AM.Row (row ofRow)
def seqL : Code → Code
  | .seq a _ => a
  | c => c
def seqR : Code → Code
  | .seq _ b => b
  | c => c
end Go.AM
namespace Go.AM.Lineage
open Go Go.AM Go.AM.Orient
open Go.AM.Enc (enc dec)
open Go.AM.Row (row ofRow)
/-- strings sorted -/
def sortS (l : List Str) : List Str := ((l.map fun s => s.data.toList).mergeSort fun x y => decide (x ≤ y)).map ofBytes
/-- the ids of some pieces -/
def idsAt (l : List Piece) (is : List Nat) : List Str := is.map fun i => (l.getD i zeroPiece).Id
def natsOf (is : List Int) : List Nat := is.map Int.toNat
theorem sortS_length (l : List Str) : (sortS l).length = l.length := by simp [sortS]
theorem sortS_nil : sortS [] = [] := by simp [sortS]
end Go.AM.Lineage
namespace Go.Proofs.YtmfgnajlkoafkaaGreatDoor
open Go Go.AM Go.AM.Orient Go.AM.Lineage Go.RowKit Go.Sort
open Go.AM.Enc (enc dec)
open Go.AM.Row (row ofRow)
set_option maxRecDepth 100000
set_option linter.unusedVariables false
set_option linter.unusedSimpArgs false
theorem rows_cells {w : World} {M : Muts} {b : Nat} : ∀ {ss : List Str} {o : Nat}, RowsAt w M (ss.map fun s => [D.str s]) b o 1 → ∀ j (hj : j < ss.length), w.cell? ⟨b, o + j, none⟩ = some (.string ss[j])
  | [], o, _, j, hj => by simp at hj
  | s :: ss, o, h, j, hj => by
    obtain ⟨_, ⟨_, _, ⟨v, hv, hr⟩, _⟩, h2⟩ := h
    cases j with
    | zero =>
      have : v = .string s := hr
      subst this
      simpa using hv
    | succ j =>
      have := rows_cells h2 j (by simpa using hj)
      rw [show o + (j + 1) = o + 1 + j by omega]; simpa using this
theorem rows_of_cells {w : World} {M : Muts} {b : Nat} (hm : ∀ o, ¬ M b o) : ∀ {ss : List Str} {o : Nat}, (∀ j (hj : j < ss.length), w.cell? ⟨b, o + j, none⟩ = some (.string ss[j])) → RowsAt w M (ss.map fun s => [D.str s]) b o 1
  | [], o, _ => trivial
  | s :: ss, o, h => by
    have h0 := h 0 (Nat.zero_lt_succ _)
    rw [Nat.add_zero] at h0
    refine ⟨rfl, ⟨hm o, rfl, ⟨_, h0, rfl⟩, trivial⟩, rows_of_cells hm fun j hj => ?_⟩
    have := h (j + 1) (by simpa using hj)
    rw [show o + 1 + j = o + (j + 1) by omega]; simpa using this
/-- the sort, as the machine's tail asks for it -/
theorem sort_calls (ss : List Str) (hlen : ss.length < 1000000) (w1 : World) (M1 : Muts) (b cap : Nat) (hr : RowsAt w1 M1 (ss.map fun s => [D.str s]) b 0 1) (hc : ∃ cur ty, w1.heap[b]? = some (.cells cur ty (0, 0))) :
    (callFunc 141 #[.slice (some ⟨b, 0, none⟩) (ss.map fun s => [D.str s]).length cap]).run Tryz.prog w1 = .ok (.enter 141 #[.slice (some ⟨b, 0, none⟩) (ss.map fun s => [D.str s]).length cap]) w1 ∧
      Calls Tryz.prog 141 #[.slice (some ⟨b, 0, none⟩) (ss.map fun s => [D.str s]).length cap] w1 fun en w' => (∃ v', en = .returned v') ∧ Turned w1 w' b ∧ ∀ M', (∀ o, ¬ M' b o) → RowsAt w' M' ((sortS ss).map fun s => [D.str s]) b 0 1 := by
  refine ⟨enters _ _ Tryz.func141 _ rfl (by decide) _ _, ?_⟩
  obtain ⟨cur, ty, hcur⟩ := hc
  have hb : b < w1.heap.size := (Array.getElem?_eq_some_iff.1 hcur).1
  have hcells := rows_cells hr
  have hH : Holds encStr w1 b 0 (ss.map fun s => s.data.toList).toArray := by
    intro j hj
    have hj' : j < ss.length := by simpa using hj
    refine ⟨?_, ?_⟩
    · rw [hcells j hj']
      have e : ((ss.map fun s => s.data.toList).toArray)[j]! = ss[j].data.toList := by
        rw [getElem!_pos _ j (by simpa using hj')]; simp
      rw [e]
    · simp only [World.frozen?, hcur]; simp
  have hsz : (ss.map fun s => s.data.toList).length < 4611686018427387904 := by simp; omega
  have := Tryz.slices_Sort_string b 0 cap (ss.map fun s => s.data.toList) w1 hH hb hsz
  simp only [List.length_map] at this ⊢
  refine this.mono ?_
  rintro e w' ⟨rfl, n, os, rfl⟩
  refine ⟨⟨_, rfl⟩, ⟨rfl, rfl, rfl, by simp [grow], fun k hk hkb => ?_⟩, fun M' hM' => rows_of_cells hM' fun j hj => ?_⟩
  · rw [heap_grow_old _ _ (by simpa using hk)]
    simp [putRow, mapBlock, Array.getElem?_modify, Ne.symm hkb]
  · rw [cell?_grow _ _ _ (by simpa using hb)]
    have hs : ((ss.map fun s => s.data.toList).mergeSort fun x y => decide (x ≤ y)).toArray.size = (ss.map fun s => s.data.toList).toArray.size := by simp
    have hj' : j < ((ss.map fun s => s.data.toList).mergeSort fun x y => decide (x ≤ y)).toArray.size := by simpa [sortS] using hj
    rw [cell?_putRow encStr (Sort.ahead w1 n) b 0 _ _ (holds_ahead encStr w1 n b 0 _ hH) hs j hj', getElem!_pos _ j hj']
    simp [encStr, sortS, ofBytes]
theorem sort_calls0 (w1 : World) : (callFunc 141 #[.slice none 0 0]).run Tryz.prog w1 = .ok (.enter 141 #[.slice none 0 0]) w1 ∧
    Calls Tryz.prog 141 #[.slice none 0 0] w1 fun en w' => (∃ v', en = .returned v') ∧ w' = w1 := by
  refine ⟨enters _ _ Tryz.func141 _ rfl (by decide) _ _, ?_⟩
  refine (Tryz.slices_Sort_string_none none 0 w1).mono ?_
  rintro e w' ⟨rfl, rfl⟩
  exact ⟨⟨_, rfl⟩, rfl⟩
noncomputable def p_ids : List D → Option D
  | [t, .list rows] => onTree (fun l => (decRows rows).bind fun (is : List Int) => if is.length < 1000000 ∧ ∀ i ∈ is, 0 ≤ i ∧ i < l.length then some (enc (sortS (idsAt l (natsOf is)))) else none) t
  | _ => none
noncomputable def idsC : Code := (Tryz.f81.body).getD .skip
variable {gl : Gb}
theorem ids_0 (l : List Piece) (is : List Nat) (k : Nat) : W (denC Tryz.prog (Cz gl) (pickC (Cz gl) (icall Tryz.prog (Cz gl) k) k) k 81 (seqL idsC) false (argEnv [.d (treeD l), .d (.list (is.map fun (i : Nat) => [I i]))]) Heap.empty)
    (fun r => r.1 = .normal ∧ r.2.1 0 = .d (treeD l) ∧ r.2.1 1 = .d (.list (is.map fun (i : Nat) => [I i]))) := by
  simp [idsC, Tryz.f81, seqL]
theorem ids_1 (l : List Piece) (is : List Nat) (k : Nat) {e : Env} {h : Heap} (h0 : e 0 = .d (treeD l)) (h1 : e 1 = .d (.list (is.map fun (i : Nat) => [I i]))) : W (denC Tryz.prog (Cz gl) (pickC (Cz gl) (icall Tryz.prog (Cz gl) k) k) k 81 (seqL (seqR idsC)) false e h)
    (fun r => r.1 = .normal ∧ r.2.1 0 = .d (treeD l) ∧ r.2.1 1 = .d (.list (is.map fun (i : Nat) => [I i])) ∧ r.2.1 5 = .nils) := by
  simp [idsC, Tryz.f81, seqL, seqR, h0, h1]
theorem idsAt_take {l : List Piece} {is : List Nat} {i : Nat} (hi : i < is.length) : idsAt l (is.take (i + 1)) = idsAt l (is.take i) ++ [(l.getD is[i] zeroPiece).Id] := by
  unfold idsAt
  rw [List.take_add_one, List.getElem?_eq_getElem hi, List.map_append]; rfl
theorem ids_2 (l : List Piece) (is : List Nat) (hb : ∀ i ∈ is, i < l.length) (hlen : is.length < 1000000) {e : Env} {h : Heap} (h0 : e 0 = .d (treeD l)) (h1 : e 1 = .d (.list (is.map fun (i : Nat) => [I i]))) (h5 : e 5 = .nils) :
    W (denC Tryz.prog (Cz gl) (pickC (Cz gl) (icall Tryz.prog (Cz gl) 1000001) 1000001) 1000001 81 (seqL (seqR (seqR idsC))) false e h)
    (fun r => r.1 = .normal ∧ ((∃ t ty, r.2.1 5 = .own t ((idsAt l is).map fun s => [D.str s]) ∧ r.2.2.blk t = .tok ty 1) ∨ (r.2.1 5 = .nils ∧ is = []))) := by
  simp (config := {decide := true}) [idsC, Tryz.f81, seqL, seqR, h0, h1, h5]
  refine W_loop rfl (fun (i : Nat) e h => e 10 = .d (I i) ∧ e 9 = .d (I is.length) ∧ e 8 = .d (.list (is.map fun (i : Nat) => [I i])) ∧ e 0 = .d (treeD l) ∧ i ≤ is.length ∧
    ((i = 0 ∧ e 5 = .nils) ∨ (0 < i ∧ ∃ t, e 5 = .own t ((idsAt l (is.take i)).map fun s => [D.str s]) ∧ h.blk t = .tok 9 1 ∧ t < h.next))) (fun i => is.length - i) 0 (by omega) (by simp (config := {decide := true}) [h0, h1, h5]) ?_
  rintro i e h ⟨g1, g2, g3, g4, g5, g6⟩
  by_cases hlt : i < is.length
  · have hw : IntKind.i64.wrap ((i : Int) + 1) = ((i + 1 : Nat) : Int) := by rw [wrap_i64] <;> omega
    have hil := hb _ (List.getElem_mem hlt)
    have htk := idsAt_take (l := l) hlt
    have hgd : (l.getD is[i] zeroPiece).Id = l[is[i]].Id := by rw [List.getD_eq_getElem?_getD, List.getElem?_eq_getElem hil]; rfl
    rw [hgd] at htk
    rcases g6 with ⟨rfl, g6⟩ | ⟨hi0, t, g6, g7, g8⟩
    · have e0 : idsAt l (is.take 0) = [] := rfl
      rw [e0, List.nil_append] at htk
      simp (config := {decide := true, implicitDefEqProofs := false}) [g1, g2, g3, g4, g6, hlt, hil, hw, treeD, treeCells]
      exact ⟨1, by omega, rfl, by omega, by omega, _, ⟨rfl, by rw [show (1 : Nat) = 0 + 1 from rfl, htk]; rfl⟩, fun h => absurd rfl h, by omega⟩
    · have hrl : (idsAt l (is.take i)).length = i := by simp [idsAt]; omega
      have hne : ∀ j : Nat, ¬ t = h.next + j := fun j => by omega
      have hne0 : ¬ t = h.next := by omega
      simp (config := {decide := true, implicitDefEqProofs := false}) [g1, g2, g3, g4, g6, g7, hne, hne0, hrl, hlt, hil, hw, treeD, treeCells]
      refine ⟨fun _ _ => ⟨i + 1, by omega, rfl, by omega, by omega, _, ⟨rfl, by rw [htk]; simp⟩, fun h => absurd rfl h, by omega⟩, by omega, by omega⟩
  · obtain rfl : i = is.length := by omega
    simp (config := {decide := true, implicitDefEqProofs := false}) [g1, g2]
    rcases g6 with ⟨hz, g6⟩ | ⟨_, t, g6, g7, _⟩
    · exact .inr ⟨g6, List.length_eq_zero_iff.1 hz⟩
    · exact .inl ⟨t, by rw [List.take_length] at g6; exact g6, _, g7⟩
theorem ids_3 (ss : List Str) (k n : Nat) : W (denC Tryz.prog (Cz gl) (pickC (Cz gl) (icall Tryz.prog (Cz gl) k) k) k 81 (seqR (seqR (seqR (seqR idsC)))) false (fun t => if t = 5 then .d (.list (ss.map fun s => [D.str s])) else .unk) (deadH n))
    (fun r => r.1 = .ret ∧ resultV Tryz.prog r.2.1 r.2.2 Tryz.f81.results.toList = some (.d (.list (ss.map fun s => [D.str s])))) := by
  simp [idsC, Tryz.f81, seqR]
theorem prim_ids (m : Int) : PrimOk Tryz.prog (Gl m) 81 p_ids := by
  intro args d vals w M hd hr hi hm hg
  unfold p_ids at hd
  split at hd
  · rename_i t rows
    obtain ⟨l, rfl, hd2⟩ := onTree_some hd
    clear hd
    obtain ⟨is, his, hd⟩ := Option.bind_eq_some_iff.1 hd2
    clear hd2
    split at hd
    · rename_i hc
      obtain ⟨hlen, hrange⟩ := hc
      cases hd
      have hrows : rows = (natsOf is).map fun (i : Nat) => [I i] := by
        rw [decRows_sound _ _ his]
        simp only [natsOf, List.map_map]
        refine List.map_congr_left fun i hi => ?_
        have := hrange i hi
        simp [Int.toNat_of_nonneg this.1]
      subst hrows
      have hb : ∀ i ∈ natsOf is, i < l.length := fun i hi => by
        obtain ⟨z, hz, rfl⟩ := List.mem_map.1 hi
        have := hrange z hz
        omega
      have hl2 : (natsOf is).length < 1000000 := by simpa [natsOf] using hlen
      obtain ⟨⟨x0, e0, h0⟩, q0, rfl, a0, a1⟩ := ids_0 (gl := Gl m) l (natsOf is) 1000001
      obtain ⟨⟨x1, e1, h1⟩, q1, rfl, b0, b1, b5⟩ := ids_1 (gl := Gl m) l (natsOf is) 1000001 a0 a1
      obtain ⟨⟨x2, e2, h2⟩, q2, rfl, c2⟩ := ids_2 (gl := Gl m) l (natsOf is) hb hl2 b0 b1 b5
      simp only at c2
      obtain ⟨⟨x3, e3, h3⟩, q3, rfl, d3⟩ := ids_3 (gl := Gl m) (sortS (idsAt l (natsOf is))) 1000001 h2.next
      have hil : (idsAt l (natsOf is)).length < 1000000 := by simpa [idsAt] using hl2
      exact prim_sorted (k := 1000001) (kk := 1) (Cz_ok (Glv_ok m)) (f := 81) (fn := Tryz.f81) (c0 := seqL idsC) (c1 := seqL (seqR idsC)) (c2 := seqL (seqR (seqR idsC))) (rest := seqR (seqR (seqR (seqR idsC)))) rfl rfl hi hm hg hr (by simp [Tryz.f81]) (by simp [Tryz.f81]) (by simp [Tryz.f81]) (by simp [Tryz.f81]) (by decide) (by decide) q0 q1 q2
        (rows := (idsAt l (natsOf is)).map fun s => [D.str s]) (rows' := (sortS (idsAt l (natsOf is))).map fun s => [D.str s])
        (by
          rcases c2 with ⟨t, ty, c3, c4⟩ | ⟨c3, c4⟩
          · exact .inl ⟨t, ty, c3, c4⟩
          · exact .inr ⟨c3, by rw [c4]; rfl, by rw [c4, show idsAt l [] = [] from rfl, sortS_nil]; rfl⟩)
        rfl (by simp [sortS_length]) (sort_calls _ hil) sort_calls0 (.inr rfl) q3 d3 (by simp)
    · cases hd
  · cases hd
noncomputable def prims_C40 (gl : Gb) (f : FuncId) : Option (List D → Option D) := match f with
  | 81 => some p_ids
  | _ => none
noncomputable def C40 (gl : Gb) : Cfg := (C39 gl).more (prims_C40 gl)
@[simp] theorem mutS_C40 (gl : Gb) (f s) : (C40 gl).mutS f s = mutTab f s := rfl
@[simp] theorem pureF_C40 (gl : Gb) (f) : (C40 gl).pureF f = true := rfl
@[simp] theorem glob_C40 (gl : Gb) : (C40 gl).glob = gl := rfl
@[simp] theorem C40_p92 (gl : Gb) : (C40 gl).primF 92 = some p_is := rfl
@[simp] theorem C40_p149 (gl : Gb) : (C40 gl).primF 149 = some p_array := rfl
@[simp] theorem C40_p196 (gl : Gb) : (C40 gl).primF 196 = some p_vec := rfl
@[simp] theorem C40_p98 (gl : Gb) : (C40 gl).primF 98 = some p_add := rfl
@[simp] theorem C40_p148 (gl : Gb) : (C40 gl).primF 148 = some p_neg := rfl
@[simp] theorem C40_p145 (gl : Gb) : (C40 gl).primF 145 = some p_lengths := rfl
@[simp] theorem C40_p140 (gl : Gb) : (C40 gl).primF 140 = some p_inside := rfl
@[simp] theorem C40_p99 (gl : Gb) : (C40 gl).primF 99 = some p_overlap := rfl
@[simp] theorem C40_p150 (gl : Gb) : (C40 gl).primF 150 = some p_apply := rfl
@[simp] theorem C40_p96 (gl : Gb) : (C40 gl).primF 96 = some p_near := rfl
@[simp] theorem C40_p194 (gl : Gb) : (C40 gl).primF 194 = some p_compose1 := rfl
@[simp] theorem C40_p97 (gl : Gb) : (C40 gl).primF 97 = some p_image := rfl
@[simp] theorem C40_p193 (gl : Gb) : (C40 gl).primF 193 = some p_find := rfl
@[simp] theorem C40_p147 (gl : Gb) : (C40 gl).primF 147 = some p_compose := rfl
@[simp] theorem C40_p93 (gl : Gb) : (C40 gl).primF 93 = some p_invert := rfl
@[simp] theorem C40_p190 (gl : Gb) : (C40 gl).primF 190 = some p_result := rfl
@[simp] theorem C40_p95 (gl : Gb) : (C40 gl).primF 95 = some p_turned := rfl
@[simp] theorem C40_p94 (gl : Gb) : (C40 gl).primF 94 = some p_sized := rfl
@[simp] theorem C40_p38 (gl : Gb) : (C40 gl).primF 38 = some p_Invert := rfl
@[simp] theorem C40_p39 (gl : Gb) : (C40 gl).primF 39 = some p_Size := rfl
@[simp] theorem C40_p41 (gl : Gb) : (C40 gl).primF 41 = some p_Box := rfl
@[simp] theorem C40_p142 (gl : Gb) : (C40 gl).primF 142 = some p_Join := rfl
@[simp] theorem C40_p187 (gl : Gb) : (C40 gl).primF 187 = some p_Place := rfl
@[simp] theorem C40_p125 (gl : Gb) : (C40 gl).primF 125 = some p_sizeOf := rfl
@[simp] theorem C40_p139 (gl : Gb) : (C40 gl).primF 139 = some p_right := rfl
@[simp] theorem C40_p182 (gl : Gb) : (C40 gl).primF 182 = some p_Split := rfl
@[simp] theorem C40_p114 (gl : Gb) : (C40 gl).primF 114 = some p_Itoa := rfl
@[simp] theorem C40_p131 (gl : Gb) : (C40 gl).primF 131 = some p_Atoi := rfl
@[simp] theorem C40_p316 (gl : Gb) : (C40 gl).primF 316 = some p_classes := rfl
@[simp] theorem C40_p252 (gl : Gb) : (C40 gl).primF 252 = some p_inner := rfl
@[simp] theorem C40_p251 (gl : Gb) : (C40 gl).primF 251 = some p_Name1 := rfl
@[simp] theorem C40_p250 (gl : Gb) : (C40 gl).primF 250 = some p_run := rfl
@[simp] theorem C40_p183 (gl : Gb) : (C40 gl).primF 183 = some p_Name := rfl
@[simp] theorem C40_p128 (gl : Gb) : (C40 gl).primF 128 = some p_isId := rfl
@[simp] theorem C40_p137 (gl : Gb) : (C40 gl).primF 137 = some p_build1 := rfl
@[simp] theorem C40_p138 (gl : Gb) : (C40 gl).primF 138 = some p_build2 := rfl
@[simp] theorem C40_p184 (gl : Gb) : (C40 gl).primF 184 = some p_IndexFunc := rfl
@[simp] theorem C40_p129 (gl : Gb) : (C40 gl).primF 129 = some p_ContainsFunc := rfl
@[simp] theorem C40_p80 (gl : Gb) : (C40 gl).primF 80 = some p_build := rfl
@[simp] theorem C40_p84 (gl : Gb) : (C40 gl).primF 84 = some p_open := rfl
@[simp] theorem C40_p19 (gl : Gb) : (C40 gl).primF 19 = some p_Check := rfl
@[simp] theorem C40_p85 (gl : Gb) : (C40 gl).primF 85 = some p_pose := rfl
@[simp] theorem C40_p86 (gl : Gb) : (C40 gl).primF 86 = some p_place := rfl
@[simp] theorem C40_p22 (gl : Gb) : (C40 gl).primF 22 = some p_Find := rfl
@[simp] theorem C40_p23 (gl : Gb) : (C40 gl).primF 23 = some p_PoseL := rfl
@[simp] theorem C40_p24 (gl : Gb) : (C40 gl).primF 24 = some p_PlaceL := rfl
@[simp] theorem C40_p16 (gl : Gb) : (C40 gl).primF 16 = some p_awake := rfl
@[simp] theorem C40_p15 (gl : Gb) : (C40 gl).primF 15 = some p_Few := rfl
@[simp] theorem C40_p37 (gl : Gb) : (C40 gl).primF 37 = some p_Volume := rfl
@[simp] theorem C40_p40 (gl : Gb) : (C40 gl).primF 40 = some p_Minus := rfl
@[simp] theorem C40_p179 (gl : Gb) : (C40 gl).primF 179 = some p_apply := rfl
@[simp] theorem C40_p176 (gl : Gb) : (C40 gl).primF 176 = some p_coordinate := rfl
@[simp] theorem C40_p133 (gl : Gb) : (C40 gl).primF 133 = some p_Is := rfl
@[simp] theorem C40_p192 (gl : Gb) : (C40 gl).primF 192 = some p_Plus := rfl
@[simp] theorem C40_p191 (gl : Gb) : (C40 gl).primF 191 = some p_same := rfl
@[simp] theorem C40_p120 (gl : Gb) : (C40 gl).primF 120 = some p_Near := rfl
@[simp] theorem C40_p143 (gl : Gb) : (C40 gl).primF 143 = some p_RCompose := rfl
@[simp] theorem C40_p136 (gl : Gb) : (C40 gl).primF 136 = some p_RInvert := rfl
@[simp] theorem C40_p144 (gl : Gb) : (C40 gl).primF 144 = some p_Point := rfl
@[simp] theorem C40_p66 (gl : Gb) : (C40 gl).primF 66 = some p_Valid := rfl
@[simp] theorem C40_p88 (gl : Gb) : (C40 gl).primF 88 = some p_RBox := rfl
@[simp] theorem C40_p87 (gl : Gb) : (C40 gl).primF 87 = some p_RJoin := rfl
@[simp] theorem C40_p135 (gl : Gb) : (C40 gl).primF 135 = some p_RSize := rfl
@[simp] theorem C40_p134 (gl : Gb) : (C40 gl).primF 134 = some p_RPlace := rfl
@[simp] theorem C40_p132 (gl : Gb) : (C40 gl).primF 132 = some p_sizeB := rfl
@[simp] theorem C40_p79 (gl : Gb) : (C40 gl).primF 79 = some p_SizeR := rfl
@[simp] theorem C40_p78 (gl : Gb) : (C40 gl).primF 78 = some p_WithinR := rfl
@[simp] theorem C40_p43 (gl : Gb) : (C40 gl).primF 43 = some p_MeetR := rfl
@[simp] theorem C40_p77 (gl : Gb) : (C40 gl).primF 77 = some p_RRight := rfl
@[simp] theorem C40_p242 (gl : Gb) : (C40 gl).primF 242 = some p_digit := rfl
@[simp] theorem C40_p173 (gl : Gb) : (C40 gl).primF 173 = some p_letter := rfl
@[simp] theorem C40_p76 (gl : Gb) : (C40 gl).primF 76 = some p_index := rfl
@[simp] theorem C40_p172 (gl : Gb) : (C40 gl).primF 172 = some p_part := rfl
@[simp] theorem C40_p26 (gl : Gb) : (C40 gl).primF 26 = some p_FindR := rfl
@[simp] theorem C40_p117 (gl : Gb) : (C40 gl).primF 117 = some p_RName := rfl
@[simp] theorem C40_p75 (gl : Gb) : (C40 gl).primF 75 = some p_RId := rfl
@[simp] theorem C40_p17 (gl : Gb) : (C40 gl).primF 17 = some p_Check := rfl
@[simp] theorem C40_p25 (gl : Gb) : (C40 gl).primF 25 = some p_first := rfl
@[simp] theorem C40_p27 (gl : Gb) : (C40 gl).primF 27 = some p_RPose := rfl
@[simp] theorem C40_p28 (gl : Gb) : (C40 gl).primF 28 = some p_RPlaceL := rfl
@[simp] theorem C40_p81 (gl : Gb) : (C40 gl).primF 81 = some p_ids := rfl
theorem C40_ok {m : Int} (h : (C39 (Gl m)).Ok Tryz.prog) : (C40 (Gl m)).Ok Tryz.prog := h.lib (by
  intro f gf hf
  unfold prims_C40 at hf
  split at hf
  · simp only [Option.some.injEq] at hf; subst hf; exact prim_ids m
  · cases hf)
end Go.Proofs.YtmfgnajlkoafkaaGreatDoor
end
section
namespace Go.AM.Orient
open Go Go.AM
open Go.AM.Enc (enc dec)
open Go.AM.Row (row ofRow)
theorem overlap_comm (a b : Box) : overlap a b = overlap b a := by
  rw [Bool.eq_iff_iff]; simp [overlap]; omega
theorem overlap_mono {a a' b : Box} (h : inside a a' = true) (ho : overlap a' b = false) : overlap a b = false := by
  cases hx : overlap a b with
  | false => rfl
  | true =>
    simp [inside] at h
    simp [overlap] at hx
    rw [← ho]
    simp [overlap]; omega
theorem inside_refl (a : Box) : inside a a = true := by simp [inside]
theorem inside_trans {a b c : Box} (h1 : inside a b = true) (h2 : inside b c = true) : inside a c = true := by
  simp [inside] at *; omega
end Go.AM.Orient
namespace Go.AM.Lineage
open Go Go.AM Go.AM.Orient
open Go.AM.Enc (enc dec)
open Go.AM.Row (row ofRow)
set_option linter.unusedVariables false
/-- the parent's index -/
def parN (l : List Piece) (i : Nat) : Option Nat := match l[i]? with
  | some p => if p.Parent = ByteArray.empty then none else idxK p.Parent (idsTo l l.length)
  | none => none
inductive Anc (l : List Piece) : Nat → Nat → Prop where
  | one {a b : Nat} : parN l b = some a → Anc l a b
  | more {a b c : Nat} : parN l b = some c → Anc l a c → Anc l a b
theorem parN_some {l : List Piece} (hc : checkE l = 0) {i p : Nat} (h : parN l i = some p) : ∃ hi : i < l.length, l[i].Parent ≠ ByteArray.empty ∧ idxK l[i].Parent (idsTo l l.length) = some p ∧ p < i := by
  unfold parN at h
  cases hi : l[i]? with
  | none => rw [hi] at h; cases h
  | some q =>
    obtain ⟨hlt, rfl⟩ := List.getElem?_eq_some_iff.1 hi
    rw [hi] at h
    simp only at h
    split at h
    · cases h
    · rename_i hp
      obtain ⟨k, hk, hki⟩ := parent_of hc hlt hp
      rw [hk] at h
      cases h
      exact ⟨hlt, hp, hk, hki⟩
theorem parN_none {l : List Piece} (hc : checkE l = 0) {i : Nat} (hi : i < l.length) (h : parN l i = none) : l[i].Parent = ByteArray.empty := by
  unfold parN at h
  rw [List.getElem?_eq_getElem hi] at h
  simp only at h
  split at h
  · assumption
  · rename_i hp
    obtain ⟨k, hk, _⟩ := parent_of hc hi hp
    rw [hk] at h; cases h
theorem place_par {l : List Piece} (hc : checkE l = 0) {i p : Nat} (h : parN l i = some p) : inside (placeOf l i) (placeOf l p) = true := by
  obtain ⟨hi, hp, hk, hki⟩ := parN_some hc h
  exact ((posed hc i hi).kid hp p hk).2.2.2
theorem Anc.lt {l : List Piece} (hc : checkE l = 0) {a b : Nat} (h : Anc l a b) : a < b := by
  induction h with
  | one h => exact (parN_some hc h).2.2.2
  | more h _ ih => have := (parN_some hc h).2.2.2; omega
/-- the kid of an ancestor on the way -/
theorem Anc.kid {l : List Piece} (hc : checkE l = 0) {a b : Nat} (h : Anc l a b) : ∃ c, parN l c = some a ∧ c ≤ b ∧ inside (placeOf l b) (placeOf l c) = true := by
  induction h with
  | one h => exact ⟨_, h, Nat.le_refl _, inside_refl _⟩
  | more h h2 ih =>
    obtain ⟨d, d1, d2, d3⟩ := ih
    have := (parN_some hc h).2.2.2
    exact ⟨d, d1, by omega, inside_trans (place_par hc h) d3⟩
theorem apart_of {l : List Piece} (hc : checkE l = 0) : ∀ (n i j : Nat), i + j ≤ n → j < i → i < l.length → ¬ Anc l j i → overlap (placeOf l i) (placeOf l j) = false := by
  obtain ⟨_, _, hnd, hpar, hright, hout, hclash⟩ := valid_of hc
  have sib : ∀ a b (ha : a < l.length) (hb : b < l.length), a ≠ b → l[a].Parent = l[b].Parent → overlap l[a].Box l[b].Box = false := fun a b ha hb hne hp => by
    cases ho : overlap l[a].Box l[b].Box with
    | false => rfl
    | true =>
      rcases Nat.lt_or_ge b a with h | h
      · exact absurd ⟨a, b, ha, h, hp, ho⟩ hclash
      · exact absurd ⟨b, a, hb, by omega, hp.symm, by rw [overlap_comm]; exact ho⟩ hclash
  intro n
  induction n with
  | zero => intro i j h hlt; omega
  | succ n ih =>
    intro i j hn hji hi hanc
    have hj : j < l.length := by omega
    cases hp : parN l i with
    | none =>
      have hti := parN_none hc hi hp
      cases hq : parN l j with
      | none =>
        have htj := parN_none hc hj hq
        rw [((posed hc i hi).top hti).2, ((posed hc j hj).top htj).2]
        exact sib i j hi hj (by omega) (by rw [hti, htj])
      | some q =>
        obtain ⟨_, _, _, hqj⟩ := parN_some hc hq
        have hnq : ¬ Anc l q i := fun h => by
          cases h with
          | one h => rw [hp] at h; cases h
          | more h _ => rw [hp] at h; cases h
        have := ih i q (by omega) (by omega) hi hnq
        rw [overlap_comm] at this ⊢
        exact overlap_mono (place_par hc hq) this
    | some p =>
      obtain ⟨_, hpi, hkp, hpli⟩ := parN_some hc hp
      have hpj : p ≠ j := fun e => hanc (by subst e; exact .one hp)
      have hpl : p < l.length := by omega
      rcases Nat.lt_or_ge j p with hlt | hge
      · -- j < p
        have hnp : ¬ Anc l j p := fun h => hanc (.more hp h)
        have := ih p j (by omega) hlt hpl hnp
        exact overlap_mono (place_par hc hp) this
      · have hlt : p < j := by omega
        by_cases ha : Anc l p j
        · obtain ⟨c, c1, c2, c3⟩ := ha.kid hc
          obtain ⟨hcl, hcp, hkc, _⟩ := parN_some hc c1
          have hci : i ≠ c := by omega
          have Pi := (posed hc i hi).kid hpi p hkp
          have Pc := (posed hc c hcl).kid hcp p hkc
          have hid := idxK_id hnd hkp
          have hid2 := idxK_id hnd hkc
          obtain ⟨_, e1⟩ := hid
          obtain ⟨_, e2⟩ := hid2
          have hsame : l[i].Parent = l[c].Parent := by rw [← e1, ← e2]
          have hs := sib i c hi hcl hci hsame
          have hb1 := (right_spec (hright _ (List.getElem_mem hi))).2.2.2.1
          have hb2 := (right_spec (hright _ (List.getElem_mem hcl))).2.2.2.1
          have hov : overlap (placeOf l i) (placeOf l c) = false := by
            rw [Pi.2.2.1, Pc.2.2.1, mv_apart (posed hc p hpl).turn hb1 hb2]; exact hs
          rw [overlap_comm] at hov ⊢
          exact overlap_mono c3 hov
        · have := ih j p (by omega) hlt hj ha
          rw [overlap_comm] at this
          exact overlap_mono (place_par hc hp) this
/-- has the piece with this index a kid? -/
def hasKid (l : List Piece) (id : Str) : Bool := l.any fun p => decide (p.Parent = id)
/-- the pieces without kids -/
def presI (l : List Piece) : List Nat := (List.range l.length).filter fun i => !hasKid l (l.getD i zeroPiece).Id
theorem mem_presI {l : List Piece} {i : Nat} : i ∈ presI l ↔ ∃ hi : i < l.length, hasKid l l[i].Id = false := by
  unfold presI
  simp only [List.mem_filter, List.mem_range, Bool.not_eq_true']
  constructor
  · rintro ⟨h1, h2⟩
    exact ⟨h1, by rw [List.getD_eq_getElem?_getD, List.getElem?_eq_getElem h1] at h2; exact h2⟩
  · rintro ⟨h1, h2⟩
    exact ⟨h1, by rw [List.getD_eq_getElem?_getD, List.getElem?_eq_getElem h1]; exact h2⟩
theorem apart_present {l : List Piece} (hc : checkE l = 0) {i j : Nat} (hi : i ∈ presI l) (hj : j ∈ presI l) (hne : i ≠ j) : overlap (placeOf l i) (placeOf l j) = false := by
  obtain ⟨_, _, hnd, _, _, _, _⟩ := valid_of hc
  obtain ⟨hil, hik⟩ := mem_presI.1 hi
  obtain ⟨hjl, hjk⟩ := mem_presI.1 hj
  have hno : ∀ a b (ha : a < l.length), hasKid l l[a].Id = false → ¬ Anc l a b := fun a b ha hk hanc => by
    obtain ⟨c, c1, _, _⟩ := hanc.kid hc
    obtain ⟨hcl, _, hkc, _⟩ := parN_some hc c1
    obtain ⟨_, e⟩ := idxK_id hnd hkc
    have : hasKid l l[a].Id = true := List.any_eq_true.2 ⟨l[c], List.getElem_mem hcl, by simp [e]⟩
    rw [hk] at this; cases this
  rcases Nat.lt_or_ge j i with h | h
  · exact apart_of hc _ i j (Nat.le_refl _) h hil (hno j i hjl hjk)
  · rw [overlap_comm]
    exact apart_of hc _ j i (Nat.le_refl _) (by omega) hjl (hno i j hil hik)
end Go.AM.Lineage
end
section
namespace Go.AM.Lineage
open Go Go.AM Go.AM.Orient
open Go.AM.Enc (enc dec)
open Go.AM.Row (row ofRow)
set_option linter.unusedVariables false
theorem kids_none {l : List Piece} {id : Str} : idxK id ((kids l).map (·.1)) = none ↔ hasKid l id = false := by
  obtain ⟨_, _, h3⟩ := kidsTo_spec (Nat.le_refl l.length)
  rw [idxK_none]
  unfold hasKid kids
  rw [h3, List.any_eq_false]
  constructor
  · intro h p hp hx
    obtain ⟨j, hj, rfl⟩ := List.getElem_of_mem hp
    exact h ⟨j, hj, hj, by simpa using hx⟩
  · rintro h ⟨j, hj, _, hp⟩
    exact h _ (List.getElem_mem hj) (by simp [hp])
theorem kids_some {l : List Piece} {id : Str} {k : Nat} (h : idxK id ((kids l).map (·.1)) = some k) : ∃ hk : k < (kids l).length, (kids l)[k].1 = id ∧ (kids l)[k].2 = kidIdx l id l.length ∧ hasKid l id = true ∧ 0 < (kidIdx l id l.length).length := by
  obtain ⟨_, h2, _⟩ := kidsTo_spec (Nat.le_refl l.length)
  obtain ⟨hj, he⟩ := idxK_some h
  have hk : k < (kids l).length := by simpa using hj
  have hid : (kids l)[k].1 = id := by simpa using he
  have hh : hasKid l id = true := by
    cases hb : hasKid l id with
    | true => rfl
    | false => rw [kids_none.2 hb] at h; cases h
  refine ⟨hk, hid, ?_, hh, ?_⟩
  · have := h2 (kids l)[k] (List.getElem_mem hk)
    rw [hid] at this; exact this
  · obtain ⟨v, hv, _, hm⟩ := kidIdx_nat l id l.length
    rw [hv, List.length_map]
    obtain ⟨p, hp, hx⟩ := List.any_eq_true.1 hh
    obtain ⟨j, hj, rfl⟩ := List.getElem_of_mem hp
    exact List.length_pos_of_mem ((hm j).2 ⟨hj, by rw [List.getElem?_eq_getElem hj]; simpa using hx⟩)
theorem kVals_get {l : List Piece} {k : Nat} (hk : k < (kids l).length) : (kVals l)[k]? = some (.list ((kids l)[k].2.map row)) := by simp [kVals, hk]
/-- the first pieces without kids -/
def presTo (l : List Piece) (i : Nat) : List Nat := (List.range i).filter fun j => !hasKid l (l.getD j zeroPiece).Id
theorem presTo_succ {l : List Piece} {i : Nat} (hi : i < l.length) : presTo l (i + 1) = if hasKid l l[i].Id = false then presTo l i ++ [i] else presTo l i := by
  unfold presTo
  rw [List.range_succ, List.filter_append]
  have e : (l.getD i zeroPiece).Id = l[i].Id := by rw [List.getD_eq_getElem?_getD, List.getElem?_eq_getElem hi]; rfl
  simp only [List.filter_cons, List.filter_nil, e]
  cases hasKid l l[i].Id <;> simp
theorem presTo_len (l : List Piece) (i : Nat) : (presTo l i).length ≤ i := by
  unfold presTo
  have := List.length_filter_le (fun j => !hasKid l (l.getD j zeroPiece).Id) (List.range i)
  simpa using this
def presentE (l : List Piece) : List Str := sortS (idsAt l (presI l))
theorem ofBytes_id (l : List Str) : (l.map fun s => s.data.toList).map ofBytes = l := by
  rw [List.map_map]
  have : (ofBytes ∘ fun s : Str => s.data.toList) = id := by funext x; exact ofBytes_data x
  rw [this, List.map_id]
theorem sortS_perm (l : List Str) : (sortS l).Perm l := by
  have := (List.mergeSort_perm (l.map fun s => s.data.toList) (fun x y => decide (x ≤ y))).map ofBytes
  rw [ofBytes_id] at this
  exact this
theorem idx_get {l : List Piece} (hnd : ∀ j (hj : j < l.length), l[j].Id ∉ idsTo l j) {k : Nat} (hk : k < l.length) : idxK l[k].Id (idsTo l l.length) = some k := by
  refine Go.Proofs.YtmfgnajlkoafkaaGreatDoor.idx_first hk (Nat.le_refl _) rfl fun j hj he => ?_
  exact hnd k hk (List.mem_map.2 ⟨l[j], by rw [List.mem_iff_getElem]; exact ⟨j, by simp; omega, by simp⟩, he⟩)
end Go.AM.Lineage
namespace Go.AM.Lineage
open Go Go.AM Go.AM.Orient
open Go.AM.Enc (enc dec)
open Go.AM.Row (row ofRow)
theorem presI_lt {l : List Piece} {k : Nat} (h : k ∈ presI l) : k < l.length := (mem_presI.1 h).1
theorem presI_nodup (l : List Piece) : (presI l).Nodup := List.Pairwise.filter _ List.nodup_range
theorem nodup_map_on {α β : Type} {f : α → β} : ∀ {l : List α}, (∀ a ∈ l, ∀ b ∈ l, f a = f b → a = b) → l.Nodup → (l.map f).Nodup
  | [], _, _ => by simp
  | x :: l, h, hn => by
    obtain ⟨h1, h2⟩ := List.nodup_cons.1 hn
    rw [List.map_cons, List.nodup_cons]
    refine ⟨fun hm => ?_, nodup_map_on (fun a ha b hb => h a (List.mem_cons_of_mem _ ha) b (List.mem_cons_of_mem _ hb)) h2⟩
    obtain ⟨y, hy, e⟩ := List.mem_map.1 hm
    have := h y (List.mem_cons_of_mem _ hy) x (List.mem_cons_self ..) e
    exact h1 (this ▸ hy)
theorem nodup_inj {α : Type} {l : List α} (h : l.Nodup) {a b : Nat} (ha : a < l.length) (hb : b < l.length) (he : l[a] = l[b]) : a = b := by
  have hp := List.pairwise_iff_getElem.1 h
  rcases Nat.lt_trichotomy a b with hlt | e | hlt
  · exact absurd he (hp a b ha hb hlt)
  · exact e
  · exact absurd he.symm (hp b a hb ha hlt)
theorem ids_present {l : List Piece} (hc : checkE l = 0) : (idsAt l (presI l)).Nodup := by
  obtain ⟨_, _, hnd, _⟩ := valid_of hc
  unfold idsAt
  refine nodup_map_on ?_ (presI_nodup l)
  intro a ha b hb he
  have h1 := presI_lt ha
  have h2 := presI_lt hb
  rw [List.getD_eq_getElem?_getD, List.getElem?_eq_getElem h1, List.getD_eq_getElem?_getD, List.getElem?_eq_getElem h2] at he
  exact ids_inj hnd h1 h2 he
/-- the index of a present piece -/
theorem pres_at {l : List Piece} (hc : checkE l = 0) {a : Nat} (ha : a < (presentE l).length) : ∃ k, k ∈ presI l ∧ idxK (presentE l)[a] (idsTo l l.length) = some k := by
  obtain ⟨_, _, hnd, _⟩ := valid_of hc
  have hm : (presentE l)[a] ∈ idsAt l (presI l) := (sortS_perm _).mem_iff.1 (List.getElem_mem ha)
  obtain ⟨k, hk, he⟩ := List.mem_map.1 hm
  have hkl := presI_lt hk
  rw [List.getD_eq_getElem?_getD, List.getElem?_eq_getElem hkl] at he
  refine ⟨k, hk, ?_⟩
  rw [← he]
  exact idx_get hnd hkl
theorem pres_ne {l : List Piece} (hc : checkE l = 0) {a b : Nat} (ha : a < (presentE l).length) (hb : b < (presentE l).length) (hab : a ≠ b) {i j : Nat} (hi : idxK (presentE l)[a] (idsTo l l.length) = some i) (hj : idxK (presentE l)[b] (idsTo l l.length) = some j) : i ≠ j := by
  obtain ⟨_, _, hnd, _⟩ := valid_of hc
  intro e
  subst e
  obtain ⟨_, e1⟩ := idxK_id hnd hi
  obtain ⟨_, e2⟩ := idxK_id hnd hj
  have hn : (presentE l).Nodup := (sortS_perm _).nodup_iff.2 (ids_present hc)
  exact hab (nodup_inj hn ha hb (e1.symm.trans e2))
theorem presentE_len (l : List Piece) : (presentE l).length ≤ l.length := by
  unfold presentE
  rw [sortS_length]
  simp only [idsAt, List.length_map]
  exact presTo_len l l.length
end Go.AM.Lineage
namespace Go.Proofs.YtmfgnajlkoafkaaGreatDoor
open Go Go.AM Go.AM.Orient Go.AM.Lineage
open Go.AM.Enc (enc dec)
open Go.AM.Row (row ofRow)
set_option maxRecDepth 100000
set_option linter.unusedVariables false
set_option linter.unusedSimpArgs false
variable {gl : Gb}
noncomputable def p_present : List D → Option D
  | [t] => onTree (fun l => if l.length < 1000000 then some (.list ((presI l).map fun (i : Nat) => [I i])) else none) t
  | _ => none
theorem does_present : Does Tryz.prog (C40 gl) 82 p_present := by
  intro ds d hd
  unfold p_present at hd
  split at hd
  · obtain ⟨l, rfl, h⟩ := onTree_some hd
    split at h
    · rename_i hlen
      cases h
      refine ⟨_, pcall_of (k := 1000001) ?_⟩
      refine W_body (c := _) Tryz.func82 rfl (by simp [Tryz.f82]) ?_
      simp (config := {decide := true, implicitDefEqProofs := false}) [Tryz.f82, treeD, treeCells]
      refine W_loop rfl (fun (i : Nat) e h => e 11 = .d (I i) ∧ e 10 = .d (I l.length) ∧ e 9 = .d (.list (l.map row)) ∧ e 0 = .d (treeD l) ∧ i ≤ l.length ∧
        ((presTo l i = [] ∧ e 3 = .nils) ∨ (∃ t, e 3 = .own t ((presTo l i).map fun (i : Nat) => [I i]) ∧ h.blk t = .tok 3 1 ∧ t < h.next))) (fun i => l.length - i) 0 (by omega) (by simp [presTo, treeD, treeCells]) ?_
      rintro i e h ⟨g1, g2, g3, g4, g5, g6⟩
      by_cases hlt : i < l.length
      · have hw : IntKind.i64.wrap ((i : Int) + 1) = ((i + 1 : Nat) : Int) := by rw [wrap_i64] <;> omega
        have hps := presTo_succ hlt
        cases hk : idxK l[i].Id ((kids l).map (·.1)) with
        | none =>
          rw [if_pos (kids_none.1 hk)] at hps
          rcases g6 with ⟨g6, g7⟩ | ⟨t, g6, g7, g8⟩
          · rw [g6, List.nil_append] at hps
            simp (config := {decide := true, implicitDefEqProofs := false}) [g1, g2, g3, g4, g7, hlt, hw, treeD, treeCells, lookupV, keyTyped, keyKind, foundV, findK_kk, hk, Nat.add_assoc]
            exact ⟨i + 1, by omega, rfl, by omega, _, ⟨rfl, by rw [hps]; rfl⟩, fun h => absurd rfl h, by omega⟩
          · have hrl := presTo_len l i
            have hne : ∀ j : Nat, ¬ t = h.next + j := fun j => by omega
            have hne0 : ¬ t = h.next := by omega
            simp (config := {decide := true, implicitDefEqProofs := false}) [g1, g2, g3, g4, g6, g7, hne, hne0, hlt, hw, treeD, treeCells, lookupV, keyTyped, keyKind, foundV, findK_kk, hk, Nat.add_assoc]
            refine ⟨fun _ _ => ⟨i + 1, by omega, rfl, by omega, _, ⟨rfl, by rw [hps]; simp⟩, fun h => absurd rfl h, by omega⟩, by omega, by omega⟩
        | some k =>
          obtain ⟨hkl, hid, hgr, hh, hpos⟩ := kids_some hk
          have hgl : ¬ ((kids l)[k].2.length : Int) = 0 := by rw [hgr]; omega
          have hkv := kVals_get hkl
          have hgl2 : ¬ (kids l)[k].2 = [] := by intro e; rw [e] at hgr; rw [← hgr] at hpos; simp at hpos
          rw [if_neg (by rw [hh]; decide)] at hps
          rcases g6 with ⟨g6, g7⟩ | ⟨t, g6, g7, g8⟩
          · simp (config := {decide := true, implicitDefEqProofs := false}) [g1, g2, g3, g4, g7, hlt, hw, treeD, treeCells, lookupV, keyTyped, keyKind, foundV, findK_kk, hk, hkv, hgl, hgl2, Nat.add_assoc]
            exact ⟨i + 1, by omega, rfl, by omega, by rw [hps]; exact g6⟩
          · have hne : ∀ j : Nat, ¬ t = h.next + j := fun j => by omega
            have hne0 : ¬ t = h.next := by omega
            simp (config := {decide := true, implicitDefEqProofs := false}) [g1, g2, g3, g4, g6, g7, hne, hne0, hlt, hw, treeD, treeCells, lookupV, keyTyped, keyKind, foundV, findK_kk, hk, hkv, hgl, hgl2, Nat.add_assoc]
            exact ⟨i + 1, by omega, rfl, by omega, t, ⟨rfl, by rw [hps]⟩, by rw [if_neg (hne 4), if_neg (hne 4)]; exact g7, by omega⟩
      · obtain rfl : i = l.length := by omega
        rcases g6 with ⟨g6, g7⟩ | ⟨t, g6, g7, g8⟩
        · have hpr : presI l = [] := g6
          simp (config := {decide := true, implicitDefEqProofs := false}) [g1, g2, g7, hpr]
        · have hpr : presTo l l.length = presI l := rfl
          simp (config := {decide := true, implicitDefEqProofs := false}) [g1, g2, g6, hpr]
    · cases h
  · cases hd
noncomputable def prims_C41 (gl : Gb) (f : FuncId) : Option (List D → Option D) := match f with
  | 82 => some p_present
  | _ => none
noncomputable def C41 (gl : Gb) : Cfg := (C40 gl).more (prims_C41 gl)
@[simp] theorem mutS_C41 (gl : Gb) (f s) : (C41 gl).mutS f s = mutTab f s := rfl
@[simp] theorem pureF_C41 (gl : Gb) (f) : (C41 gl).pureF f = true := rfl
@[simp] theorem glob_C41 (gl : Gb) : (C41 gl).glob = gl := rfl
@[simp] theorem C41_p92 (gl : Gb) : (C41 gl).primF 92 = some p_is := rfl
@[simp] theorem C41_p149 (gl : Gb) : (C41 gl).primF 149 = some p_array := rfl
@[simp] theorem C41_p196 (gl : Gb) : (C41 gl).primF 196 = some p_vec := rfl
@[simp] theorem C41_p98 (gl : Gb) : (C41 gl).primF 98 = some p_add := rfl
@[simp] theorem C41_p148 (gl : Gb) : (C41 gl).primF 148 = some p_neg := rfl
@[simp] theorem C41_p145 (gl : Gb) : (C41 gl).primF 145 = some p_lengths := rfl
@[simp] theorem C41_p140 (gl : Gb) : (C41 gl).primF 140 = some p_inside := rfl
@[simp] theorem C41_p99 (gl : Gb) : (C41 gl).primF 99 = some p_overlap := rfl
@[simp] theorem C41_p150 (gl : Gb) : (C41 gl).primF 150 = some p_apply := rfl
@[simp] theorem C41_p96 (gl : Gb) : (C41 gl).primF 96 = some p_near := rfl
@[simp] theorem C41_p194 (gl : Gb) : (C41 gl).primF 194 = some p_compose1 := rfl
@[simp] theorem C41_p97 (gl : Gb) : (C41 gl).primF 97 = some p_image := rfl
@[simp] theorem C41_p193 (gl : Gb) : (C41 gl).primF 193 = some p_find := rfl
@[simp] theorem C41_p147 (gl : Gb) : (C41 gl).primF 147 = some p_compose := rfl
@[simp] theorem C41_p93 (gl : Gb) : (C41 gl).primF 93 = some p_invert := rfl
@[simp] theorem C41_p190 (gl : Gb) : (C41 gl).primF 190 = some p_result := rfl
@[simp] theorem C41_p95 (gl : Gb) : (C41 gl).primF 95 = some p_turned := rfl
@[simp] theorem C41_p94 (gl : Gb) : (C41 gl).primF 94 = some p_sized := rfl
@[simp] theorem C41_p38 (gl : Gb) : (C41 gl).primF 38 = some p_Invert := rfl
@[simp] theorem C41_p39 (gl : Gb) : (C41 gl).primF 39 = some p_Size := rfl
@[simp] theorem C41_p41 (gl : Gb) : (C41 gl).primF 41 = some p_Box := rfl
@[simp] theorem C41_p142 (gl : Gb) : (C41 gl).primF 142 = some p_Join := rfl
@[simp] theorem C41_p187 (gl : Gb) : (C41 gl).primF 187 = some p_Place := rfl
@[simp] theorem C41_p125 (gl : Gb) : (C41 gl).primF 125 = some p_sizeOf := rfl
@[simp] theorem C41_p139 (gl : Gb) : (C41 gl).primF 139 = some p_right := rfl
@[simp] theorem C41_p182 (gl : Gb) : (C41 gl).primF 182 = some p_Split := rfl
@[simp] theorem C41_p114 (gl : Gb) : (C41 gl).primF 114 = some p_Itoa := rfl
@[simp] theorem C41_p131 (gl : Gb) : (C41 gl).primF 131 = some p_Atoi := rfl
@[simp] theorem C41_p316 (gl : Gb) : (C41 gl).primF 316 = some p_classes := rfl
@[simp] theorem C41_p252 (gl : Gb) : (C41 gl).primF 252 = some p_inner := rfl
@[simp] theorem C41_p251 (gl : Gb) : (C41 gl).primF 251 = some p_Name1 := rfl
@[simp] theorem C41_p250 (gl : Gb) : (C41 gl).primF 250 = some p_run := rfl
@[simp] theorem C41_p183 (gl : Gb) : (C41 gl).primF 183 = some p_Name := rfl
@[simp] theorem C41_p128 (gl : Gb) : (C41 gl).primF 128 = some p_isId := rfl
@[simp] theorem C41_p137 (gl : Gb) : (C41 gl).primF 137 = some p_build1 := rfl
@[simp] theorem C41_p138 (gl : Gb) : (C41 gl).primF 138 = some p_build2 := rfl
@[simp] theorem C41_p184 (gl : Gb) : (C41 gl).primF 184 = some p_IndexFunc := rfl
@[simp] theorem C41_p129 (gl : Gb) : (C41 gl).primF 129 = some p_ContainsFunc := rfl
@[simp] theorem C41_p80 (gl : Gb) : (C41 gl).primF 80 = some p_build := rfl
@[simp] theorem C41_p84 (gl : Gb) : (C41 gl).primF 84 = some p_open := rfl
@[simp] theorem C41_p19 (gl : Gb) : (C41 gl).primF 19 = some p_Check := rfl
@[simp] theorem C41_p85 (gl : Gb) : (C41 gl).primF 85 = some p_pose := rfl
@[simp] theorem C41_p86 (gl : Gb) : (C41 gl).primF 86 = some p_place := rfl
@[simp] theorem C41_p22 (gl : Gb) : (C41 gl).primF 22 = some p_Find := rfl
@[simp] theorem C41_p23 (gl : Gb) : (C41 gl).primF 23 = some p_PoseL := rfl
@[simp] theorem C41_p24 (gl : Gb) : (C41 gl).primF 24 = some p_PlaceL := rfl
@[simp] theorem C41_p16 (gl : Gb) : (C41 gl).primF 16 = some p_awake := rfl
@[simp] theorem C41_p15 (gl : Gb) : (C41 gl).primF 15 = some p_Few := rfl
@[simp] theorem C41_p37 (gl : Gb) : (C41 gl).primF 37 = some p_Volume := rfl
@[simp] theorem C41_p40 (gl : Gb) : (C41 gl).primF 40 = some p_Minus := rfl
@[simp] theorem C41_p179 (gl : Gb) : (C41 gl).primF 179 = some p_apply := rfl
@[simp] theorem C41_p176 (gl : Gb) : (C41 gl).primF 176 = some p_coordinate := rfl
@[simp] theorem C41_p133 (gl : Gb) : (C41 gl).primF 133 = some p_Is := rfl
@[simp] theorem C41_p192 (gl : Gb) : (C41 gl).primF 192 = some p_Plus := rfl
@[simp] theorem C41_p191 (gl : Gb) : (C41 gl).primF 191 = some p_same := rfl
@[simp] theorem C41_p120 (gl : Gb) : (C41 gl).primF 120 = some p_Near := rfl
@[simp] theorem C41_p143 (gl : Gb) : (C41 gl).primF 143 = some p_RCompose := rfl
@[simp] theorem C41_p136 (gl : Gb) : (C41 gl).primF 136 = some p_RInvert := rfl
@[simp] theorem C41_p144 (gl : Gb) : (C41 gl).primF 144 = some p_Point := rfl
@[simp] theorem C41_p66 (gl : Gb) : (C41 gl).primF 66 = some p_Valid := rfl
@[simp] theorem C41_p88 (gl : Gb) : (C41 gl).primF 88 = some p_RBox := rfl
@[simp] theorem C41_p87 (gl : Gb) : (C41 gl).primF 87 = some p_RJoin := rfl
@[simp] theorem C41_p135 (gl : Gb) : (C41 gl).primF 135 = some p_RSize := rfl
@[simp] theorem C41_p134 (gl : Gb) : (C41 gl).primF 134 = some p_RPlace := rfl
@[simp] theorem C41_p132 (gl : Gb) : (C41 gl).primF 132 = some p_sizeB := rfl
@[simp] theorem C41_p79 (gl : Gb) : (C41 gl).primF 79 = some p_SizeR := rfl
@[simp] theorem C41_p78 (gl : Gb) : (C41 gl).primF 78 = some p_WithinR := rfl
@[simp] theorem C41_p43 (gl : Gb) : (C41 gl).primF 43 = some p_MeetR := rfl
@[simp] theorem C41_p77 (gl : Gb) : (C41 gl).primF 77 = some p_RRight := rfl
@[simp] theorem C41_p242 (gl : Gb) : (C41 gl).primF 242 = some p_digit := rfl
@[simp] theorem C41_p173 (gl : Gb) : (C41 gl).primF 173 = some p_letter := rfl
@[simp] theorem C41_p76 (gl : Gb) : (C41 gl).primF 76 = some p_index := rfl
@[simp] theorem C41_p172 (gl : Gb) : (C41 gl).primF 172 = some p_part := rfl
@[simp] theorem C41_p26 (gl : Gb) : (C41 gl).primF 26 = some p_FindR := rfl
@[simp] theorem C41_p117 (gl : Gb) : (C41 gl).primF 117 = some p_RName := rfl
@[simp] theorem C41_p75 (gl : Gb) : (C41 gl).primF 75 = some p_RId := rfl
@[simp] theorem C41_p17 (gl : Gb) : (C41 gl).primF 17 = some p_Check := rfl
@[simp] theorem C41_p25 (gl : Gb) : (C41 gl).primF 25 = some p_first := rfl
@[simp] theorem C41_p27 (gl : Gb) : (C41 gl).primF 27 = some p_RPose := rfl
@[simp] theorem C41_p28 (gl : Gb) : (C41 gl).primF 28 = some p_RPlaceL := rfl
@[simp] theorem C41_p81 (gl : Gb) : (C41 gl).primF 81 = some p_ids := rfl
@[simp] theorem C41_p82 (gl : Gb) : (C41 gl).primF 82 = some p_present := rfl
theorem C41_ok {gl : Gb} (h : (C40 gl).Ok Tryz.prog) : (C41 gl).Ok Tryz.prog := h.more (by
  intro f gf hf
  unfold prims_C41 at hf
  split at hf
  · simp only [Option.some.injEq] at hf; subst hf; exact does_present
  · cases hf)
theorem idVals_at {l : List Piece} {k : Nat} (h : k < (idVals l).length) : (idVals l)[k] = I k := by simp [idVals]
theorem idVals_len (l : List Piece) : (idVals l).length = l.length := by simp [idVals]
theorem headLen_str (l : List Str) : headLen 1 (l.map row) = true := by cases l <;> rfl
theorem decRows_nats (l : List Nat) : decRows (l.map fun (i : Nat) => [I i]) = some (l.map fun (i : Nat) => (i : Int)) := by
  have := decRows_map (l.map fun (i : Nat) => (i : Int))
  rw [List.map_map] at this
  exact this
theorem natsOf_nats (l : List Nat) : natsOf (l.map fun (i : Nat) => (i : Int)) = l := by
  unfold natsOf
  rw [List.map_map]
  exact (List.map_congr_left fun a _ => Int.toNat_natCast a).trans (List.map_id l)
theorem ids_pres {l : List Piece} (h : l.length < 1000000) : p_ids [treeD l, .list ((presI l).map fun (i : Nat) => [I i])] = some (.list ((presentE l).map row)) := by
  unfold p_ids
  simp only [onTree_eq, decRows_nats, Option.bind_some, natsOf_nats]
  rw [if_pos]
  · rfl
  · have := presTo_len l l.length
    have h2 : presTo l l.length = presI l := rfl
    rw [h2] at this
    refine ⟨by simp; omega, fun i hi => ?_⟩
    obtain ⟨k, hk, rfl⟩ := List.mem_map.1 hi
    have := presI_lt hk
    omega
noncomputable def p_Present : List D → Option D := p1 fun (l : List Piece) => if shortIds l then some (if checkE l = 0 then .tuple [.list ((presentE l).map row), I 0] else .tuple [.list [], I (checkE l)]) else none
theorem does_Present : Does Tryz.prog (C41 gl) 18 p_Present := con1 (fun _ => 10) fun l hl ic => by
  refine W_body (c := _) Tryz.func18 rfl (by simp [Tryz.f18]) ?_
  by_cases hc : checkE l = 0
  · simp (config := {decide := true, implicitDefEqProofs := false}) [Tryz.f18, p_build, hl, hc, p_present, onTree_eq, hl.1, ids_pres hl.1]
  · simp (config := {decide := true, implicitDefEqProofs := false}) [Tryz.f18, p_build, hl, hc]
noncomputable def p_Overlap : List D → Option D := p1 fun (l : List Piece) => if shortIds l then some (.tuple [.str ByteArray.empty, .str ByteArray.empty, I (if checkE l = 0 then 9 else checkE l)]) else none
theorem does_Overlap : Does Tryz.prog (C41 gl) 42 p_Overlap := con1 (fun _ => 1000001) fun l hl ic => by
  have hlen := hl.1
  have hpl := presentE_len l
  refine W_body (c := _) Tryz.func42 rfl (by simp [Tryz.f42]) ?_
  by_cases hc : checkE l = 0
  · simp (config := {decide := true, implicitDefEqProofs := false}) [Tryz.f42, p_build, hl, hc, p_present, onTree_eq, hl.1, ids_pres hl.1]
    refine W_loop rfl (fun (i : Nat) e h => e 26 = .d (I i) ∧ e 25 = .d (I (presentE l).length) ∧ e 24 = .d (.list ((presentE l).map row)) ∧ e 5 = .d (treeD l) ∧ e 7 = .d (.list ((presentE l).map row)) ∧ i ≤ (presentE l).length) (fun i => (presentE l).length - i) 0 (by omega) (by simp (config := {decide := true, implicitDefEqProofs := false}) []) ?_
    rintro i e h ⟨g1, g2, g3, g4, g5, g6⟩
    by_cases hlt : i < (presentE l).length
    · have hw : IntKind.i64.wrap ((i : Int) + 1) = ((i + 1 : Nat) : Int) := by rw [wrap_i64] <;> omega
      have hi0 : (0 : Int) ≤ (i : Int) + 1 := by omega
      have hdr : ((presentE l).map row).length = (presentE l).length := by simp
      have hsl : List.take ((presentE l).length - (i + 1)) (List.drop (i + 1) ((presentE l).map row)) = ((presentE l).drop (i + 1)).map row := by rw [List.take_of_length_le (by simp), List.map_drop]
      have hrw := headLen_str (presentE l)
      simp (config := {decide := true, implicitDefEqProofs := false}) [-headLen, g1, g2, g3, g4, g5, hlt, hw, hi0, hsl, hrw, show i + 1 ≤ (presentE l).length from hlt]
      obtain ⟨k1, hm1, hx1⟩ := pres_at hc hlt
      have hk1 := presI_lt hm1
      refine W_loop rfl (fun (j : Nat) e h => e 36 = .d (I j) ∧ e 35 = .d (I ((presentE l).drop (i + 1)).length) ∧ e 34 = .d (.list (((presentE l).drop (i + 1)).map row)) ∧ e 9 = .d (.str (presentE l)[i]) ∧
        e 26 = .d (I i) ∧ e 25 = .d (I (presentE l).length) ∧ e 24 = .d (.list ((presentE l).map row)) ∧ e 5 = .d (treeD l) ∧ e 7 = .d (.list ((presentE l).map row)) ∧ j ≤ ((presentE l).drop (i + 1)).length) (fun j => ((presentE l).drop (i + 1)).length - j) 0 (by simp; omega) (by simp (config := {decide := true, implicitDefEqProofs := false}) [g1, g2, g3, g4, g5]) ?_
      rintro j e2 h2 ⟨d1, d2, d3, d4, d5, d6, d7, d8, d9, d10⟩
      by_cases hj : j < ((presentE l).drop (i + 1)).length
      · have hj2 : i + 1 + j < (presentE l).length := by simp at hj; omega
        have hjw : IntKind.i64.wrap ((j : Int) + 1) = ((j + 1 : Nat) : Int) := by rw [wrap_i64] <;> omega
        have hgj : ((presentE l).drop (i + 1))[j] = (presentE l)[i + 1 + j] := by simp
        obtain ⟨k2, hm2, hx2⟩ := pres_at hc hj2
        have hk2 := presI_lt hm2
        have hov := apart_present hc hm1 hm2 (pres_ne hc hlt hj2 (by omega) hx1 hx2)
        generalize hps : (presentE l).drop (i + 1) = ps at *
        have hjp : ps.length = ps.length := rfl
        simp (config := {decide := true, implicitDefEqProofs := false}) [d1, d2, d3, d4, d5, d6, d7, d8, d9, hj, hjw, hgj, treeD, treeCells, lookupV, keyTyped, keyKind, foundV, findK_ids, hx1, hx2, idVals_at, idVals_len, p_place, onTree_eq', hc, hk1, hk2, p_overlap, hov]
        exact ⟨j + 1, by omega, rfl, by omega⟩
      · have hj2 : j = ((presentE l).drop (i + 1)).length := by omega
        subst hj2
        simp (config := {decide := true, implicitDefEqProofs := false}) [d1, d2, d5, d6, d7, d8, d9, hw]
        exact ⟨i + 1, by omega, rfl, by omega⟩
    · obtain rfl : i = (presentE l).length := by omega
      simp (config := {decide := true, implicitDefEqProofs := false}) [g1, g2, hc]
  · simp (config := {decide := true, implicitDefEqProofs := false}) [Tryz.f42, p_build, hl, hc]
noncomputable def prims_C42 (gl : Gb) (f : FuncId) : Option (List D → Option D) := match f with
  | 18 => some p_Present
  | 42 => some p_Overlap
  | _ => none
noncomputable def C42 (gl : Gb) : Cfg := (C41 gl).more (prims_C42 gl)
@[simp] theorem mutS_C42 (gl : Gb) (f s) : (C42 gl).mutS f s = mutTab f s := rfl
@[simp] theorem pureF_C42 (gl : Gb) (f) : (C42 gl).pureF f = true := rfl
@[simp] theorem glob_C42 (gl : Gb) : (C42 gl).glob = gl := rfl
@[simp] theorem C42_p92 (gl : Gb) : (C42 gl).primF 92 = some p_is := rfl
@[simp] theorem C42_p149 (gl : Gb) : (C42 gl).primF 149 = some p_array := rfl
@[simp] theorem C42_p196 (gl : Gb) : (C42 gl).primF 196 = some p_vec := rfl
@[simp] theorem C42_p98 (gl : Gb) : (C42 gl).primF 98 = some p_add := rfl
@[simp] theorem C42_p148 (gl : Gb) : (C42 gl).primF 148 = some p_neg := rfl
@[simp] theorem C42_p145 (gl : Gb) : (C42 gl).primF 145 = some p_lengths := rfl
@[simp] theorem C42_p140 (gl : Gb) : (C42 gl).primF 140 = some p_inside := rfl
@[simp] theorem C42_p99 (gl : Gb) : (C42 gl).primF 99 = some p_overlap := rfl
@[simp] theorem C42_p150 (gl : Gb) : (C42 gl).primF 150 = some p_apply := rfl
@[simp] theorem C42_p96 (gl : Gb) : (C42 gl).primF 96 = some p_near := rfl
@[simp] theorem C42_p194 (gl : Gb) : (C42 gl).primF 194 = some p_compose1 := rfl
@[simp] theorem C42_p97 (gl : Gb) : (C42 gl).primF 97 = some p_image := rfl
@[simp] theorem C42_p193 (gl : Gb) : (C42 gl).primF 193 = some p_find := rfl
@[simp] theorem C42_p147 (gl : Gb) : (C42 gl).primF 147 = some p_compose := rfl
@[simp] theorem C42_p93 (gl : Gb) : (C42 gl).primF 93 = some p_invert := rfl
@[simp] theorem C42_p190 (gl : Gb) : (C42 gl).primF 190 = some p_result := rfl
@[simp] theorem C42_p95 (gl : Gb) : (C42 gl).primF 95 = some p_turned := rfl
@[simp] theorem C42_p94 (gl : Gb) : (C42 gl).primF 94 = some p_sized := rfl
@[simp] theorem C42_p38 (gl : Gb) : (C42 gl).primF 38 = some p_Invert := rfl
@[simp] theorem C42_p39 (gl : Gb) : (C42 gl).primF 39 = some p_Size := rfl
@[simp] theorem C42_p41 (gl : Gb) : (C42 gl).primF 41 = some p_Box := rfl
@[simp] theorem C42_p142 (gl : Gb) : (C42 gl).primF 142 = some p_Join := rfl
@[simp] theorem C42_p187 (gl : Gb) : (C42 gl).primF 187 = some p_Place := rfl
@[simp] theorem C42_p125 (gl : Gb) : (C42 gl).primF 125 = some p_sizeOf := rfl
@[simp] theorem C42_p139 (gl : Gb) : (C42 gl).primF 139 = some p_right := rfl
@[simp] theorem C42_p182 (gl : Gb) : (C42 gl).primF 182 = some p_Split := rfl
@[simp] theorem C42_p114 (gl : Gb) : (C42 gl).primF 114 = some p_Itoa := rfl
@[simp] theorem C42_p131 (gl : Gb) : (C42 gl).primF 131 = some p_Atoi := rfl
@[simp] theorem C42_p316 (gl : Gb) : (C42 gl).primF 316 = some p_classes := rfl
@[simp] theorem C42_p252 (gl : Gb) : (C42 gl).primF 252 = some p_inner := rfl
@[simp] theorem C42_p251 (gl : Gb) : (C42 gl).primF 251 = some p_Name1 := rfl
@[simp] theorem C42_p250 (gl : Gb) : (C42 gl).primF 250 = some p_run := rfl
@[simp] theorem C42_p183 (gl : Gb) : (C42 gl).primF 183 = some p_Name := rfl
@[simp] theorem C42_p128 (gl : Gb) : (C42 gl).primF 128 = some p_isId := rfl
@[simp] theorem C42_p137 (gl : Gb) : (C42 gl).primF 137 = some p_build1 := rfl
@[simp] theorem C42_p138 (gl : Gb) : (C42 gl).primF 138 = some p_build2 := rfl
@[simp] theorem C42_p184 (gl : Gb) : (C42 gl).primF 184 = some p_IndexFunc := rfl
@[simp] theorem C42_p129 (gl : Gb) : (C42 gl).primF 129 = some p_ContainsFunc := rfl
@[simp] theorem C42_p80 (gl : Gb) : (C42 gl).primF 80 = some p_build := rfl
@[simp] theorem C42_p84 (gl : Gb) : (C42 gl).primF 84 = some p_open := rfl
@[simp] theorem C42_p19 (gl : Gb) : (C42 gl).primF 19 = some p_Check := rfl
@[simp] theorem C42_p85 (gl : Gb) : (C42 gl).primF 85 = some p_pose := rfl
@[simp] theorem C42_p86 (gl : Gb) : (C42 gl).primF 86 = some p_place := rfl
@[simp] theorem C42_p22 (gl : Gb) : (C42 gl).primF 22 = some p_Find := rfl
@[simp] theorem C42_p23 (gl : Gb) : (C42 gl).primF 23 = some p_PoseL := rfl
@[simp] theorem C42_p24 (gl : Gb) : (C42 gl).primF 24 = some p_PlaceL := rfl
@[simp] theorem C42_p16 (gl : Gb) : (C42 gl).primF 16 = some p_awake := rfl
@[simp] theorem C42_p15 (gl : Gb) : (C42 gl).primF 15 = some p_Few := rfl
@[simp] theorem C42_p37 (gl : Gb) : (C42 gl).primF 37 = some p_Volume := rfl
@[simp] theorem C42_p40 (gl : Gb) : (C42 gl).primF 40 = some p_Minus := rfl
@[simp] theorem C42_p179 (gl : Gb) : (C42 gl).primF 179 = some p_apply := rfl
@[simp] theorem C42_p176 (gl : Gb) : (C42 gl).primF 176 = some p_coordinate := rfl
@[simp] theorem C42_p133 (gl : Gb) : (C42 gl).primF 133 = some p_Is := rfl
@[simp] theorem C42_p192 (gl : Gb) : (C42 gl).primF 192 = some p_Plus := rfl
@[simp] theorem C42_p191 (gl : Gb) : (C42 gl).primF 191 = some p_same := rfl
@[simp] theorem C42_p120 (gl : Gb) : (C42 gl).primF 120 = some p_Near := rfl
@[simp] theorem C42_p143 (gl : Gb) : (C42 gl).primF 143 = some p_RCompose := rfl
@[simp] theorem C42_p136 (gl : Gb) : (C42 gl).primF 136 = some p_RInvert := rfl
@[simp] theorem C42_p144 (gl : Gb) : (C42 gl).primF 144 = some p_Point := rfl
@[simp] theorem C42_p66 (gl : Gb) : (C42 gl).primF 66 = some p_Valid := rfl
@[simp] theorem C42_p88 (gl : Gb) : (C42 gl).primF 88 = some p_RBox := rfl
@[simp] theorem C42_p87 (gl : Gb) : (C42 gl).primF 87 = some p_RJoin := rfl
@[simp] theorem C42_p135 (gl : Gb) : (C42 gl).primF 135 = some p_RSize := rfl
@[simp] theorem C42_p134 (gl : Gb) : (C42 gl).primF 134 = some p_RPlace := rfl
@[simp] theorem C42_p132 (gl : Gb) : (C42 gl).primF 132 = some p_sizeB := rfl
@[simp] theorem C42_p79 (gl : Gb) : (C42 gl).primF 79 = some p_SizeR := rfl
@[simp] theorem C42_p78 (gl : Gb) : (C42 gl).primF 78 = some p_WithinR := rfl
@[simp] theorem C42_p43 (gl : Gb) : (C42 gl).primF 43 = some p_MeetR := rfl
@[simp] theorem C42_p77 (gl : Gb) : (C42 gl).primF 77 = some p_RRight := rfl
@[simp] theorem C42_p242 (gl : Gb) : (C42 gl).primF 242 = some p_digit := rfl
@[simp] theorem C42_p173 (gl : Gb) : (C42 gl).primF 173 = some p_letter := rfl
@[simp] theorem C42_p76 (gl : Gb) : (C42 gl).primF 76 = some p_index := rfl
@[simp] theorem C42_p172 (gl : Gb) : (C42 gl).primF 172 = some p_part := rfl
@[simp] theorem C42_p26 (gl : Gb) : (C42 gl).primF 26 = some p_FindR := rfl
@[simp] theorem C42_p117 (gl : Gb) : (C42 gl).primF 117 = some p_RName := rfl
@[simp] theorem C42_p75 (gl : Gb) : (C42 gl).primF 75 = some p_RId := rfl
@[simp] theorem C42_p17 (gl : Gb) : (C42 gl).primF 17 = some p_Check := rfl
@[simp] theorem C42_p25 (gl : Gb) : (C42 gl).primF 25 = some p_first := rfl
@[simp] theorem C42_p27 (gl : Gb) : (C42 gl).primF 27 = some p_RPose := rfl
@[simp] theorem C42_p28 (gl : Gb) : (C42 gl).primF 28 = some p_RPlaceL := rfl
@[simp] theorem C42_p81 (gl : Gb) : (C42 gl).primF 81 = some p_ids := rfl
@[simp] theorem C42_p82 (gl : Gb) : (C42 gl).primF 82 = some p_present := rfl
@[simp] theorem C42_p18 (gl : Gb) : (C42 gl).primF 18 = some p_Present := rfl
@[simp] theorem C42_p42 (gl : Gb) : (C42 gl).primF 42 = some p_Overlap := rfl
theorem C42_ok {gl : Gb} (h : (C41 gl).Ok Tryz.prog) : (C42 gl).Ok Tryz.prog := h.more (by
  intro f gf hf
  unfold prims_C42 at hf
  split at hf
  · simp only [Option.some.injEq] at hf; subst hf; exact does_Present
  · simp only [Option.some.injEq] at hf; subst hf; exact does_Overlap
  · cases hf)
end Go.Proofs.YtmfgnajlkoafkaaGreatDoor
end
section
namespace Go.Proofs.YtmfgnajlkoafkaaGreatDoor
open Go Go.AM Go.AM.Orient Go.AM.Lineage
open Go.AM.Enc (enc dec)
open Go.AM.Row (row ofRow)
set_option maxRecDepth 100000
set_option linter.unusedVariables false
set_option linter.unusedSimpArgs false
variable {gl : Gb}
/-- the places of some ids, as rows -/
noncomputable def placeRows (l : List Piece) (ids : List Str) : List (List D) := ids.map fun s => row (placeE l s).1
theorem placeRows_take {l : List Piece} {ids : List Str} {i : Nat} (hi : i < ids.length) : placeRows l (ids.take (i + 1)) = placeRows l (ids.take i) ++ [row (placeE l ids[i]).1] := by
  unfold placeRows
  rw [List.take_add_one, List.getElem?_eq_getElem hi, List.map_append]; rfl
theorem does_Apart : Does Tryz.prog (C42 gl) 7 (p_law1 (List Piece)) := tot1 (fun _ => 1000) fun l ic => by
  refine W_body (c := _) Tryz.func7 rfl (by simp [Tryz.f7]) ?_
  by_cases hf : fewB l = true
  · have hl := (few_short hf).1
    by_cases hc : checkE l = 0
    · have hpl := presentE_len l
      have hl60 : l.length ≤ 60 := by unfold fewB at hf; simp at hf; exact hf.1
      simp (config := {decide := true, implicitDefEqProofs := false}) [Tryz.f7, p_Few, p_awake, p_Overlap, p_Present, hf, hl, hc]
      refine W_loop rfl (fun (i : Nat) e h => e 9 = .d (I i) ∧ e 6 = .d (.list ((presentE l).map row)) ∧ e 0 = .d (.list (l.map row)) ∧ i ≤ (presentE l).length ∧
        ∃ t, e 8 = .own t (placeRows l ((presentE l).take i)) ∧ h.blk t = .tok 37 6 ∧ t < h.next) (fun i => (presentE l).length - i) 0 (by omega) (by simp (config := {decide := true, implicitDefEqProofs := false}) [placeRows]) ?_
      rintro i e h ⟨g1, g2, g3, g4, t, g5, g6, g7⟩
      by_cases hlt : i < (presentE l).length
      · have hw : IntKind.i64.wrap ((i : Int) + 1) = ((i + 1 : Nat) : Int) := by rw [wrap_i64] <;> omega
        obtain ⟨k1, hm1, hx1⟩ := pres_at hc hlt
        have hk1 := presI_lt hm1
        have hP : placeE l (presentE l)[i] = (placeOf l k1, 0) := by simp [placeE, firstE, hc, hx1, idxN]
        have htk := placeRows_take (l := l) hlt
        have hrl : (placeRows l ((presentE l).take i)).length = i := by simp [placeRows]; omega
        have hne : ∀ j : Nat, ¬ t = h.next + j := fun j => by omega
        have hne0 : ¬ t = h.next := by omega
        simp (config := {decide := true, implicitDefEqProofs := false}) [g1, g2, g3, g5, g6, hlt, p_PlaceL, hl, hP, Nat.add_assoc]
        refine W_loop rfl (fun (k : Nat) e' h' => e' 12 = .d (I k) ∧ e' 10 = .ref (h.next + 13) 0 ∧ e' 9 = .d (I i) ∧ e' 6 = .d (.list ((presentE l).map row)) ∧ e' 0 = .d (.list (l.map row)) ∧ k ≤ i ∧
          e' 8 = .own t (placeRows l ((presentE l).take i)) ∧ h'.blk t = .tok 37 6 ∧ h'.blk (h.next + 13) = .cells ((row (placeOf l k1)).map .d) ∧ h.next + 13 < h'.next) (fun k => i - k) 0 (by omega) (by simp (config := {decide := true, implicitDefEqProofs := false}) [g1, g2, g3, g5, g6, hne, hne0]; try omega) ?_
        rintro k e' h' ⟨d1, d2, d3, d4, d5, d6, d7, d8, d9, d10⟩
        have hne' : ∀ j : Nat, ¬ t = h'.next + j := fun j => by omega
        have hne0' : ¬ t = h'.next := by omega
        have hnb : ¬ t = h.next + 13 := by omega
        have hnc : ∀ j : Nat, ¬ h.next + 13 = h'.next + j := fun j => by omega
        have hnc0 : ¬ h.next + 13 = h'.next := by omega
        by_cases hk : k < i
        · have hkw : IntKind.i64.wrap ((k : Int) + 1) = ((k + 1 : Nat) : Int) := by rw [wrap_i64] <;> omega
          have hkp : k < (presentE l).length := by omega
          obtain ⟨k2, hm2, hx2⟩ := pres_at hc hkp
          have hP2 : placeE l (presentE l)[k] = (placeOf l k2, 0) := by simp [placeE, firstE, hc, hx2, idxN]
          have hov := apart_present hc hm1 hm2 (pres_ne hc hlt hkp (by omega) hx1 hx2)
          have hget : ∀ hk', (placeRows l ((presentE l).take i))[k]'hk' = row (placeOf l k2) := fun hk' => by simp [placeRows, hP2]
          simp (config := {decide := true, implicitDefEqProofs := false}) [d1, d2, d3, d4, d5, d7, d8, d9, hrl, hk, hkw, hget, hne', hne0', hnb, hnc, hnc0, p_MeetR, hov, Nat.add_assoc]
          exact ⟨k + 1, by omega, rfl, by omega, by omega⟩
        · obtain rfl : k = i := by omega
          simp (config := {decide := true, implicitDefEqProofs := false}) [d1, d2, d3, d4, d5, d7, d8, d9, hrl, hw, hne', hne0', hnb, hnc, hnc0, Nat.add_assoc]
          rw [hP] at htk
          refine ⟨fun _ _ => ⟨k + 1, by omega, rfl, by omega, _, ⟨rfl, by rw [htk]; rfl⟩, fun h => absurd rfl h, by omega⟩, by omega, by omega⟩
      · obtain rfl : i = (presentE l).length := by omega
        simp (config := {decide := true, implicitDefEqProofs := false}) [g1, g2, p_awake]
    · simp (config := {decide := true, implicitDefEqProofs := false}) [Tryz.f7, p_Few, p_awake, p_Overlap, p_Present, hf, hl, hc]
  · simp (config := {decide := true, implicitDefEqProofs := false}) [Tryz.f7, p_Few, p_awake, hf]
end Go.Proofs.YtmfgnajlkoafkaaGreatDoor
end
