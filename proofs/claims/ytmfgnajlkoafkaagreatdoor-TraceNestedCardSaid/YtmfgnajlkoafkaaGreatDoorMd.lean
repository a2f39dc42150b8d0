/- Code: what the machine's run of a body says of the model's. The ends of calls: marks that are taken; rounds. Calls: what the machine answers, Go answers. Stepping the machine by simp: what must hold of what code answers. Typed data over the machine's; functions of typed data as what the machine is told; what a machine is told may grow. -/
import Derived.Test.YtmfgnajlkoafkaaGreatDoorMc
import Derived.KernelRfl
set_option linter.all false
set_option maxHeartbeats 2000000
section
namespace Go.AM
open Go Go.RowKit
section
variable {P : Program} {C : Cfg} {callF : CallF} {B : Base} {N : Nat} {ds : Fr}

theorem cond_inv {v : V} {a b : Res} {r : Ex × Env × Heap} (h : condC v a b = some r) : ∃ t, v = .d (.bool t) ∧ (if t then a else b) = some r := by
  unfold condC at h
  split at h
  · exact ⟨true, rfl, h⟩
  · exact ⟨false, rfl, h⟩
  · cases h

theorem den_sim_aux (hmix : P.follows .mixedOrders = true) (hC : CallOk P C.glob callF) (hA : CallApart C callF) (hB : B.glob = C.glob) (n : Nat) (f : FuncId) : ∀ (k : Nat) (c : Code), SizeOf.sizeOf c ≤ k → ∀ (ro : Bool) (e : Env) (h : Heap) (g : G) (w : World) (a : Act) (x : Ex) (e' : Env) (h' : Heap) (Q : Exit → Act → World → Prop),
    codeOk N c = true → St B N ds e h g w a → denC P C callF n f c ro e h = some (x, e', h') → Post B N ds h g w e' h' (Q x.toExit) → c.wpIn (Fe ds.rd) 0 P Q a w := by
  intro k
  induction k with
  | zero => intro c hk; exact absurd hk (by cases c <;> simp)
  | succ k ihk =>
  intro c hk
  have ih : ∀ c', SizeOf.sizeOf c' < SizeOf.sizeOf c → ∀ (ro : Bool) (e : Env) (h : Heap) (g : G) (w : World) (a : Act) (x : Ex) (e' : Env) (h' : Heap) (Q : Exit → Act → World → Prop),
      codeOk N c' = true → St B N ds e h g w a → denC P C callF n f c' ro e h = some (x, e', h') → Post B N ds h g w e' h' (Q x.toExit) → c'.wpIn (Fe ds.rd) 0 P Q a w := fun c' hc' => ihk c' (by omega)
  clear ihk hk
  cases c with
  | skip =>
    intro ro e h g w a x e' h' Q _ s hd hp
    simp only [denC, Option.some.injEq, Prod.mk.injEq] at hd
    obtain ⟨rfl, rfl, rfl⟩ := hd
    exact wpIn_skip (hp a w g s (Ext.refl _ _) (GLe.refl g) (fun _ h => .inl h) (Nat.le_refl _))
  | label l =>
    intro ro e h g w a x e' h' Q _ s hd hp
    simp only [denC, Option.some.injEq, Prod.mk.injEq] at hd
    obtain ⟨rfl, rfl, rfl⟩ := hd
    exact wpIn_label (hp a w g s (Ext.refl _ _) (GLe.refl g) (fun _ h => .inl h) (Nat.le_refl _))
  | exit id =>
    intro ro e h g w a x e' h' Q _ s hd hp
    simp only [denC, Option.some.injEq, Prod.mk.injEq] at hd
    obtain ⟨rfl, rfl, rfl⟩ := hd
    exact wpIn_exit (hp a w g s (Ext.refl _ _) (GLe.refl g) (fun _ h => .inl h) (Nat.le_refl _))
  | ret =>
    intro ro e h g w a x e' h' Q _ s hd hp
    simp only [denC, Option.some.injEq, Prod.mk.injEq] at hd
    obtain ⟨rfl, rfl, rfl⟩ := hd
    exact wpIn_ret (hp a w g s (Ext.refl _ _) (GLe.refl g) (fun _ h => .inl h) (Nat.le_refl _))
  | region id ops draw =>
    intro ro e h g w a x e' h' Q hok s hd hp
    simp only [codeOk, Bool.and_eq_true, Bool.or_eq_true, Bool.not_eq_true'] at hok
    have plain : ∀ (e2 : Env) (h2 : Heap), draw = false → runOps P C callF f ops h.next ops.toList 0 e ⟨h.blk, h.next + ops.size⟩ = some (e2, h2) → Post B N ds h g w e2 h2 (Q .normal) → (Code.region id ops draw).wpIn (Fe ds.rd) 0 P Q a w := by
      rintro e2 h2 rfl hr hp
      refine wpIn_region ?_
      have nodom : ∀ j, ¬ g.dom (h.next + j) := fun j hj => by have := s.inv.nxt _ hj; omega
      have s1 : St B N ds e ⟨h.blk, h.next + ops.size⟩ g w a := ⟨s.inv.bump ops.size, s.env, s.size, s.defers⟩
      have := ops_sim (base := h.next) (g0 := g) (h0 := h) (w0 := w) hC hB hok.1 (Q := Q) ops.toList 0 e ⟨h.blk, h.next + ops.size⟩ g w a e2 h2 rfl s1 (fun j _ _ => nodom j) (Nat.le_refl _) (Ext.refl _ _) (GLe.refl g) (fun b hb => .inl hb) hr
        (fun a' w' g' q1 q2 q3 q4 q5 => hp a' w' g' q1 q2 q3 q4 (by have : h.next + ops.size ≤ h2.next := q5; omega))
      simpa using this
    cases ro with
    | false =>
      cases draw with
      | false =>
        simp only [denC] at hd
        split at hd
        · rename_i e2 h2 hr
          simp only [Option.some.injEq, Prod.mk.injEq] at hd
          obtain ⟨rfl, rfl, rfl⟩ := hd
          exact plain _ _ rfl hr hp
        · cases hd
      | true =>
        simp only [denC] at hd
        split at hd
        · rename_i fps e2 h2 hr
          split at hd
          · rename_i ht
            simp only [Option.some.injEq, Prod.mk.injEq] at hd
            obtain ⟨rfl, rfl, rfl⟩ := hd
            exact draw_sim hmix hC hA hB hok.1 (by simpa using hok.2) s hr ht hp
          · cases hd
        · cases hd
    | true =>
      simp only [denC] at hd
      split at hd
      · rename_i fps e2 h2 hr
        split at hd
        · rename_i ht
          simp only [Option.some.injEq, Prod.mk.injEq] at hd
          obtain ⟨rfl, rfl, rfl⟩ := hd
          cases hdr : draw with
          | false => exact hdr ▸ plain _ _ hdr (runOpsF_runOps _ _ _ _ _ _ _ hr) hp
          | true =>
            subst hdr
            exact draw_sim hmix hC hA hB hok.1 (by simpa using hok.2) s hr (ht.2 rfl) hp
        · cases hd
      · cases hd
  | seq c1 c2 =>
    have ih1 := ih c1 (by simp; omega)
    have ih2 := ih c2 (by simp; omega)
    intro ro e h g w a x e' h' Q hok s hd hp
    simp only [codeOk, Bool.and_eq_true] at hok
    simp only [denC] at hd
    refine wpIn_seq ?_
    cases h1 : denC P C callF n f c1 ro e h with
    | none => rw [h1] at hd; cases hd
    | some r =>
      obtain ⟨x1, e1, h1'⟩ := r
      rw [h1] at hd
      refine ih1 ro e h g w a x1 e1 h1' _ hok.1 s h1 ?_
      cases x1 with
      | normal =>
        simp only [seqC] at hd
        intro a1 w1 g1 s1 q1 q2 q3 q4
        exact ih2 ro e1 h1' g1 w1 a1 x e' h' Q hok.2 s1 hd (hp.of q1 q2 q3 q4)
      | exit id =>
        simp only [seqC, Option.some.injEq, Prod.mk.injEq] at hd
        obtain ⟨rfl, rfl, rfl⟩ := hd
        exact hp
      | ret =>
        simp only [seqC, Option.some.injEq, Prod.mk.injEq] at hd
        obtain ⟨rfl, rfl, rfl⟩ := hd
        exact hp
  | cond c c1 c2 =>
    have ih1 := ih c1 (by simp; omega)
    have ih2 := ih c2 (by simp; omega)
    intro ro e h g w a x e' h' Q hok s hd hp
    simp only [codeOk, Bool.and_eq_true] at hok
    simp only [denC] at hd
    obtain ⟨t, h1, h2⟩ := cond_inv hd
    have hev := s.eval c
    rw [hB, h1] at hev
    have hev' : a.eval c = .bool t := hev
    refine wpIn_cond hev' ?_
    cases t with
    | true => exact ih1 ro e h g w a x e' h' Q hok.1 s h2 hp
    | false => exact ih2 ro e h g w a x e' h' Q hok.2 s h2 hp
  | block id c =>
    have ih := ih c (by simp; try omega)
    intro ro e h g w a x e' h' Q hok s hd hp
    simp only [denC] at hd
    refine wpIn_block ?_
    cases h1 : denC P C callF n f c ro e h with
    | none => rw [h1] at hd; cases hd
    | some r =>
      obtain ⟨x1, e1, h1'⟩ := r
      rw [h1] at hd
      refine ih ro e h g w a x1 e1 h1' _ hok s h1 ?_
      cases x1 with
      | normal =>
        simp only [blockC, Option.some.injEq, Prod.mk.injEq] at hd
        obtain ⟨rfl, rfl, rfl⟩ := hd
        exact hp
      | ret =>
        simp only [blockC, Option.some.injEq, Prod.mk.injEq] at hd
        obtain ⟨rfl, rfl, rfl⟩ := hd
        exact hp
      | exit i =>
        simp only [blockC] at hd
        split at hd
        · rename_i hi
          simp only [Option.some.injEq, Prod.mk.injEq] at hd
          obtain ⟨rfl, rfl, rfl⟩ := hd
          intro a1 w1 g1 s1 q1 q2 q3 q4
          simp only [Ex.toExit, Exit.inBlock, if_pos hi]
          exact hp a1 w1 g1 s1 q1 q2 q3 q4
        · rename_i hi
          simp only [Option.some.injEq, Prod.mk.injEq] at hd
          obtain ⟨rfl, rfl, rfl⟩ := hd
          intro a1 w1 g1 s1 q1 q2 q3 q4
          simp only [Ex.toExit, Exit.inBlock, if_neg hi]
          exact hp a1 w1 g1 s1 q1 q2 q3 q4
  | loop c =>
    have ihs := ih
    have ih := ih c (by simp; try omega)
    intro ro e h g w a x e' h' Q hok s hd hp
    have key : ∀ (m : Nat) (e : Env) (h : Heap) (g : G) (w : World) (a : Act), St B N ds e h g w a → iterC (denC P C callF n f c ro) m e h = some (x, e', h') → Post B N ds h g w e' h' (Q x.toExit) → Code.roundsIn (Fe ds.rd) 0 P c Q m a w := by
      intro m
      induction m with
      | zero => intro e h g w a _ hd _; simp [iterC] at hd
      | succ m ihm =>
        intro e h g w a s hd hp
        rw [roundsIn_succ]
        simp only [iterC] at hd
        cases h1 : denC P C callF n f c ro e h with
        | none => rw [h1] at hd; cases hd
        | some r =>
          obtain ⟨x1, e1, h1'⟩ := r
          rw [h1] at hd
          refine ih ro e h g w a x1 e1 h1' _ hok s h1 ?_
          cases x1 with
          | normal =>
            intro a1 w1 g1 s1 q1 q2 q3 q4
            exact ihm e1 h1' g1 w1 a1 s1 hd (hp.of q1 q2 q3 q4)
          | exit id =>
            simp only [Option.some.injEq, Prod.mk.injEq] at hd
            obtain ⟨rfl, rfl, rfl⟩ := hd
            exact hp
          | ret =>
            simp only [Option.some.injEq, Prod.mk.injEq] at hd
            obtain ⟨rfl, rfl, rfl⟩ := hd
            exact hp
    simp only [denC] at hd
    split at hd
    · rename_i L hL
      refine mapC_sim hC hA hB hL (by simpa [codeOk] using hok) (fun e h g w a x e' h' Q s hd hp => ?_) s hd hp
      have hsz : SizeOf.sizeOf L.rest < SizeOf.sizeOf c := by
        rw [(mapLoop_spec hL).1]; simp; omega
      refine ihs L.rest (by simp; omega) true e h g w a x e' h' Q ?_ s hd hp
      have hok' : codeOk N c = true := by simpa [codeOk] using hok
      rw [(mapLoop_spec hL).1] at hok'
      simp only [codeOk, Bool.and_eq_true] at hok'
      exact hok'.2.2
    · exact wpIn_loop_rounds n (key n e h g w a s hd hp)
    · cases hd
  | rangeFunc gO ps c1 c2 =>
    intro ro e h g w a x e' h' Q hok s hd hp
    simp only [codeOk, Bool.and_eq_true, List.all_eq_true, decide_eq_true_eq] at hok
    cases ro with
    | true => simp [denC] at hd
    | false =>
      simp only [denC] at hd
      exact rangeC_sim hC hB s hok.1.1 hok.1.2 hok.2 hd hp
  | _ =>
    intro ro e h g w a x e' h' Q hok s hd hp
    simp [denC] at hd

theorem den_sim (hmix : P.follows .mixedOrders = true) (hC : CallOk P C.glob callF) (hA : CallApart C callF) (hB : B.glob = C.glob) (n : Nat) (f : FuncId) (c : Code) (ro : Bool) (e : Env) (h : Heap) (g : G) (w : World) (a : Act) (x : Ex) (e' : Env) (h' : Heap) (Q : Exit → Act → World → Prop)
    (hok : codeOk N c = true) (s : St B N ds e h g w a) (hd : denC P C callF n f c ro e h = some (x, e', h')) (hp : Post B N ds h g w e' h' (Q x.toExit)) : c.wpIn (Fe ds.rd) 0 P Q a w :=
  den_sim_aux hmix hC hA hB n f _ c (Nat.le_refl _) ro e h g w a x e' h' Q hok s hd hp

/-! ### calls -/
theorem res_sim {e : Env} {h : Heap} {g : G} {w : World} {a : Act} (s : St B N ds e h g w a) : ∀ (rs : List ResultVar) (vs : List V), resV P e h rs = some vs →
    ∃ vals, (rs.mapM (m := Sem) fun | .tmp t => pure (a.tmps.getD t undef) | .cell p t => do loadVar t (← asAddr (a.tmps.getD p undef))).run P w = .ok vals w ∧ VRL w (Mut B.M0 h g) g vs vals
  | [], vs, hr => by simp [resV] at hr; subst hr; exact ⟨[], by simp, rfl⟩
  | .tmp t :: rs, vs, hr => by
    simp only [resV] at hr
    cases h1 : resV P e h rs with
    | none => rw [h1] at hr; cases hr
    | some us =>
      rw [h1] at hr
      simp only [Option.map_some, Option.some.injEq] at hr; subst hr
      obtain ⟨vals, q1, q2⟩ := res_sim s rs us h1
      refine ⟨a.tmps.getD t undef :: vals, ?_, _, _, rfl, s.env t, q2⟩
      rw [List.mapM_cons]
      simp only [Sem.run_bind, Sem.run_pure, Result.andThen_ok, q1]
  | .cell p t :: rs, vs, hr => by
    simp only [resV] at hr
    split at hr
    · rename_i q us hq h1
      cases hl : loadV q.1 q.2 (e p) h with
      | none => rw [hl] at hr; cases hr
      | some v =>
        rw [hl] at hr
        simp only [Option.map_some, Option.some.injEq] at hr; subst hr
        obtain ⟨vals, q1, q2⟩ := res_sim s rs us h1
        obtain ⟨v', q3, q4⟩ := load_sim (P := P) s.inv hq (s.env p) hl
        refine ⟨v' :: vals, ?_, _, _, rfl, q4, q2⟩
        rw [List.mapM_cons]
        have hload : (do loadVar t (← asAddr (a.tmps.getD p undef)) : Sem Value).run P w = .ok v' w := by
          rw [← q3]
          generalize a.tmps.getD p undef = x at q3
          cases x with
          | pointer o =>
            cases o with
            | none => simp [Instr.loadAt, Instr.sureAddr] at q3
            | some ad => rfl
          | _ => simp [Instr.loadAt, Instr.sureAddr] at q3
        rw [Sem.run_bind, hload]
        simp only [Result.andThen_ok, Sem.run_bind, q1, Sem.run_pure]
    · cases hr
theorem result_sim {fn : Func} {e : Env} {h : Heap} {g : G} {w : World} {a : Act} (s : St B N ds e h g w a) {v : V} (hr : resultV P e h fn.results.toList = some v) :
    ∃ v', (results fn a.tmps).run P w = .ok v' w ∧ VR w (Mut B.M0 h g) g v v' := by
  unfold resultV at hr
  have hm : ∀ vals, (fn.results.toList.mapM (m := Sem) fun | .tmp t => pure (a.tmps.getD t undef) | .cell p t => do loadVar t (← asAddr (a.tmps.getD p undef))).run P w = .ok vals w →
      (fn.results.mapM (m := Sem) fun | .tmp t => pure (a.tmps.getD t undef) | .cell p t => do loadVar t (← asAddr (a.tmps.getD p undef))).run P w = .ok vals.toArray w := by
    intro vals h1
    rw [Array.mapM_eq_mapM_toList]
    simp only [Sem.run_map, h1, Result.andThen_ok]
  split at hr
  · rename_i x h1
    simp only [Option.some.injEq] at hr; subst hr
    obtain ⟨vals, q1, q2⟩ := res_sim s _ _ h1
    obtain ⟨v', vs', rfl, q3, q4⟩ := q2
    have e4 : vs' = [] := q4
    subst e4
    refine ⟨v', ?_, q3⟩
    have := hm _ q1
    simp only [results, Sem.run_bind]
    exact (congrArg (fun r => Result.andThen r _) this).trans (by simp)
  · rename_i vs hne h1
    simp only [Option.some.injEq] at hr; subst hr
    obtain ⟨vals, q1, q2⟩ := res_sim s _ _ h1
    refine ⟨.tuple vals.toArray, ?_, VR_mkTuple (by simpa using q2)⟩
    have := hm _ q1
    have hl : vals.length ≠ 1 := by
      intro hl
      rw [VRL.length q2] at hl
      match vs, hl with
      | [x], _ => exact hne x rfl
    simp only [results, Sem.run_bind]
    exact (congrArg (fun r => Result.andThen r _) this).trans (by simp [hl])
  · cases hr

/-- what the configuration owes -/
structure Cfg.Ok (P : Program) (C : Cfg) : Prop where
  mix : P.follows .mixedOrders = true
  fns : ∀ f fn, C.fns f = some fn → P.funcs[f]? = some fn ∧ fn.name ≠ "runtime.NumGoroutine" ∧ ∀ c, fn.body = some c → codeOk fn.ntmps c = true
  glob : ∀ n, (∃ x, C.glob n = .d x) ∨ C.glob n = .unk
  prim : ∀ f gf, C.primF f = some gf → ∀ (args : List D) (d : D) (vals : Array Value) (w : World) (M : Muts), gf args = some d → RDL w M args vals.toList → C.glob.inv w → (∀ b o, M b o → b < w.heap.size) →
    (∀ n x, C.glob n = .d x → RD w M x (.pointer (some ⟨n, 0, none⟩))) →
    (callFunc f vals).run P w = .ok (.enter f vals) w ∧ Calls P f vals w fun e w' => ∃ v', e = .returned v' ∧ RD w' M d v' ∧ Below w.heap.size w w'
  primV : ∀ f gf, C.primV f = some gf → ∀ (vs : List V) (v : V) (vals : Array Value) (w : World) (M : Muts) (g : G), gf vs = some v → VRL w M g vs vals.toList →
    (callFunc f vals).run P w = .ok (.enter f vals) w ∧ Calls P f vals w fun e w' => ∃ v', e = .returned v' ∧ VR w M g v v' ∧ Below w.heap.size w w'

theorem callFunc_run {f : FuncId} {fn : Func} {vals : Array Value} {w : World} (hf : P.funcs[f]? = some fn) (hn : fn.name ≠ "runtime.NumGoroutine") {c : Code} (hb : fn.body = some c) :
    (callFunc f vals).run P w = .ok (.enter f vals) w := by
  have h1 : (fn.name == "runtime.NumGoroutine") = false := by simpa using hn
  simp only [callFunc, Sem.run_bind, run_program, Result.andThen_ok, hf, h1, hb]
  rfl
end
end Go.AM
end
section
namespace Go.AM
open Go Go.RowKit
section
variable {P : Program} {C : Cfg} {B : Base} {w : World} {M : Muts} {g : G}

def G.setD (g : G) (F : Nat → Prop) : G := { g with dfr := F }
variable {F : Nat → Prop}
mutual
theorem VR.setD : ∀ (u : V) (v : Value), VR w M g u v → VR w M (g.setD F) u v
  | .d _, _, h => h
  | .ref _ _, _, h => h
  | .sref _ _ _ _, _, h => h
  | .mref _, _, h => h
  | .nils, _, h => h
  | .own _ _, _, h => h
  | .fn _ a c, _, h => by
    obtain ⟨xs, ys, e, h1, h2⟩ := h
    exact ⟨xs, ys, e, VRL.setD a _ h1, VRL.setD c _ h2⟩
  | .iface _ u, _, h => by
    obtain ⟨z, e, h⟩ := h
    exact ⟨z, e, VR.setD u _ h⟩
  | .agg cs, _, h => by
    obtain ⟨z, e, h⟩ := h
    exact ⟨z, e, VRL.setD cs _ h⟩
  | .tuple cs, _, h => by
    obtain ⟨z, e, h⟩ := h
    exact ⟨z, e, VRL.setD cs _ h⟩
  | .yld _, _, h => h
  | .unk, _, _ => trivial
theorem VRL.setD : ∀ (us : List V) (vs : List Value), VRL w M g us vs → VRL w M (g.setD F) us vs
  | [], _, h => h
  | u :: us, _, h => by
    obtain ⟨v, vs, e, h1, h2⟩ := h
    exact ⟨v, vs, e, VR.setD u _ h1, VRL.setD us _ h2⟩
end
theorem BlkOk.setD {B0 id : Nat} {b : Block} (h : BlkOk w M g B0 id b) : BlkOk w M (g.setD F) B0 id b := by
  cases b with
  | dead => trivial
  | mover => trivial
  | mpend _ _ _ => exact h.elim
  | cells vs =>
    obtain ⟨d, r, q0, cur, e, q1, q2, q3⟩ := h
    exact ⟨d, r, q0, cur, e, q1, q2, VRL.setD _ _ q3⟩
  | map ks vs =>
    obtain ⟨d, r, es, c, q1, q2, q3, q4⟩ := h
    exact ⟨d, r, es, c, q1, q2, q3, VRL.setD _ _ q4⟩
  | tok e sz => exact h
  | siter s pos => exact h
  | loopb f e ps a c st =>
    obtain ⟨d, r, rec, q1, q2, q3⟩ := h
    exact ⟨d, r, rec, q1, q2, fun t => VR.setD _ _ (q3 t)⟩
  | mfresh m n =>
    obtain ⟨d, r, mo, q1, q2⟩ := h
    exact ⟨d, r, mo, q1, VR.setD _ _ q2⟩
  | mcur m n j =>
    obtain ⟨d, r, rr, since, seen, q1, q2, q3, q4⟩ := h
    exact ⟨d, r, rr, since, seen, q1, q2, q3, VR.setD _ _ q4⟩
variable {h : Heap}
/-- one mark is taken -/
theorem take_sim (I : Inv B h g w) {d : Nat} (hd : g.dfr d) : Inv B h (g.setD fun x => g.dfr x ∧ x ≠ d) (w.putObj d (.deferred none)) ∧ Ext w (Mut B.M0 h g) (w.putObj d (.deferred none)) (Mut B.M0 h g) := by
  obtain ⟨hge, ho⟩ := I.dfr d hd
  have hoth : ∀ k, k ≠ d → (w.putObj d (.deferred none)).heap[k]? = w.heap[k]? := fun k hk => World.putObj_heap_other hk
  have x : Ext w (Mut B.M0 h g) (w.putObj d (.deferred none)) (Mut B.M0 h g) := by
    refine ⟨fun b o v _ hv => ?_, fun r es c _ hr => ?_, fun _ _ hm _ => hm, by simp⟩
    · have hne : b ≠ d := by
        intro e
        subst e
        simp only [World.cell?, ho] at hv
        cases hv
      rw [World.cell?_of_block (w := w) (hoth b hne)]; exact hv
    · rw [hoth r (fun e => by rw [e, ho] at hr; cases hr)]; exact hr
  refine ⟨⟨⟨I.below.os, I.below.tape, I.below.output, by simp; exact I.below.size, fun k hk => (hoth k (by omega)).trans (I.below.block k hk)⟩, I.m0, fun i => ?_, I.inj, fun i hi => by simp; exact I.lt i hi, I.nxt, I.dead,
    fun n => VR.setD _ _ (VR.mono x (GLe.refl g) _ _ (I.glob n)), fun k hk => ?_, fun l hl => ?_⟩, x⟩
  · cases hl : live (h.blk i)
    · exact BlkOk.idle hl
    · refine BlkOk.setD (BlkOk.mono x (GLe.refl g) (hoth _ (fun e => ?_)) (I.blk i))
      obtain ⟨o, q1, q2, _⟩ := BlkOk.obj hl (I.blk i)
      rw [e, ho] at q1
      exact q2 _ (Option.some.inj q1).symm
  · obtain ⟨h1, h2⟩ := I.dfr k hk.1
    exact ⟨h1, (hoth k hk.2).trans h2⟩
  · obtain ⟨h1, r, h2⟩ := I.lps l hl
    exact ⟨h1, r, (hoth l (fun e => by rw [e, ho] at h2; cases h2)).trans h2⟩
/-- all marks are taken, and the results are read -/
theorem marks_sim {N : Nat} {ds : Fr} {e : Env} {fn : Func} {v : V} {R : Ending → World → Prop} {gs : G} (hgs : ∀ d, gs.dfr d → ds.d0 d) : ∀ (Ds : List Nat) (g : G) (w : World) (tm : Array Value), Inv B h g w → (∀ t, VR w (Mut B.M0 h g) g (e t) (tm.getD t undef)) → tm.size = N → GLe gs g →
    Ds.Nodup → (∀ d ∈ Ds, g.dfr d ∧ ¬ ds.d0 d) → (∀ d, ds.d0 d → g.dfr d) → (∀ l, ds.rd = some l → g.lps l) → resultV P e h fn.results.toList = some v →
    (∀ v' w' g', Inv B h g' w' → VR w' (Mut B.M0 h g') g' v v' → Ext w (Mut B.M0 h g) w' (Mut B.M0 h g') → GLe gs g' → (∀ b, g'.dom b → g.dom b) → R (.returned v') w') →
    LeavesInM Fence.wide 0 P fn tm R (Ds.map mark) .returning w
  | [], g, w, tm, I, he, hs, hy, _, _, h1, h2, hr, hR => by
    obtain ⟨v', q1, q2⟩ := result_sim (fn := fn) (a := { tmps := tm, defers := [] }) (N := N) (ds := ds) ⟨I, he, hs, ⟨[], rfl, List.nodup_nil, fun _ h => by cases h⟩, h2, h1⟩ hr
    exact ⟨v', q1, hR v' w g I q2 (Ext.refl _ _) hy (fun _ h => h)⟩
  | d :: Ds, g, w, tm, I, he, hs, hy, hn, hd, h1, h2, hr, hR => by
    obtain ⟨hd1, hd2⟩ := hd d (List.mem_cons_self ..)
    obtain ⟨hn1, hn2⟩ := List.nodup_cons.1 hn
    obtain ⟨I', x'⟩ := take_sim I hd1
    refine ⟨by simp, .inl ⟨d, _, rfl, run_takeDeferred (I.dfr d hd1).2, ?_⟩⟩
    refine marks_sim hgs Ds _ _ tm I' (fun t => VR.setD _ _ (VR.mono x' (GLe.refl g) _ _ (he t))) hs ?_ hn2 (fun k hk => ⟨⟨(hd k (List.mem_cons_of_mem _ hk)).1, fun q => hn1 (q ▸ hk)⟩, (hd k (List.mem_cons_of_mem _ hk)).2⟩)
      (fun k hk => ⟨h1 k hk, fun q => hd2 (q ▸ hk)⟩) h2 hr (fun v' w' g' q1 q2 q3 q4 q5 => hR v' w' g' q1 q2 (x'.trans q3) q4 q5)
    exact ⟨hy.dom, hy.rho, hy.cap, hy.ln, hy.sz, hy.el, hy.it, fun k hk => ⟨hy.dfr k hk, fun q => hd2 (q ▸ hgs k hk)⟩, hy.lps⟩
end
end Go.AM
end
section
namespace Go.AM
open Go Go.RowKit
section
variable {P : Program} {C : Cfg} {B : Base}

theorem body_sim (hO : C.Ok P) {callF : CallF} (hC : CallOk P C.glob callF) (hA : CallApart C callF) (n : Nat) {h : Heap} {g : G} {w : World} {f : FuncId} {vs : List V} {vals : Array Value} {v : V} {h' : Heap} (hB : B.glob = C.glob) (I : Inv B h g w)
    (hv : VRL w (Mut B.M0 h g) g vs vals.toList) (hb : bodyC P C callF n f vs h = some (v, h')) : (callFunc f vals).run P w = .ok (.enter f vals) w ∧ Calls P f vals w (CallPost B h g w v h') := by
  unfold bodyC at hb
  split at hb
  · cases hb
  · rename_i fn hfn
    obtain ⟨h1, h2, h3⟩ := hO.fns f fn hfn
    split at hb
    · cases hb
    · rename_i c hbody
      refine ⟨callFunc_run h1 h2 hbody, ?_⟩
      split at hb
      · rename_i hlen
        refine (callsIn_wide (n := 0)).1 (show CallsIn (Fe none) 0 P f vals w _ from callsIn_of_wp_marks (F := Fe none) h1 hbody trivial ?_)
        have hvl := VRL.length hv
        simp only [Array.length_toList] at hvl
        have s0 : St B fn.ntmps ⟨g.dfr, none⟩ (argEnv vs) h g w { tmps := vals ++ Array.replicate (fn.ntmps - vals.size) undef, defers := [] } := by
          refine ⟨I, fun t => ?_, by simp; omega, ⟨[], rfl, List.nodup_nil, fun _ h => by cases h⟩, (fun _ h => by cases h), fun _ h => h⟩
          simp only [argEnv]
          rw [Array.getD_eq_getD_getElem?]
          by_cases ht : t < vs.length
          · obtain ⟨u, q1, q2⟩ := VRL.get hv t _ (List.getElem?_eq_getElem ht)
            have e1 : (vals ++ Array.replicate (fn.ntmps - vals.size) undef)[t]? = some u := by
              rw [Array.getElem?_append_left (by omega)]; simpa using q1
            rw [e1]
            simpa [List.getD, List.getElem?_eq_getElem ht] using q2
          · have e1 : ((vals ++ Array.replicate (fn.ntmps - vals.size) undef)[t]?).getD undef = undef := by
              rw [Array.getElem?_append_right (by omega)]
              by_cases hr : t - vals.size < fn.ntmps - vals.size
              · simp [hr]
              · simp [hr]
            rw [e1]
            have e2 : vs.getD t undefV = undefV := by simp [List.getD, List.getElem?_eq_none (Nat.le_of_not_lt ht)]
            rw [e2]
            exact undef_sim
        have fin : ∀ (x : Ex) (e' : Env) (h2 : Heap), (x = .normal ∨ x = .ret) → denC P C callF n f c false (argEnv vs) h = some (x, e', h2) → (resultV P e' h2 fn.results.toList).map (·, h2) = some (v, h') →
            c.wpIn (Fe none) 0 P (bodyPostM (Fe none) 0 P fn (CallPost B h g w v h')) { tmps := vals ++ Array.replicate (fn.ntmps - vals.size) undef, defers := [] } w := by
          intro x e' h2 hx hd hr
          obtain ⟨hr, rfl⟩ := opt_pair hr
          refine den_sim hO.mix hC hA hB n f c false (argEnv vs) h g w _ x e' h' _ (h3 c hbody) s0 hd ?_
          intro a1 w1 g1 s1 q1 q2 q3 q4
          have key : LeavesInM Fence.wide 0 P fn a1.tmps (CallPost B h g w v h') a1.defers .returning w1 := by
            obtain ⟨⟨Ds, d1, d2, d3⟩, d4, d5⟩ := s1.defers
            rw [d1]
            refine marks_sim (gs := g) (ds := ⟨g.dfr, none⟩) (fun _ h => h) Ds g1 w1 a1.tmps s1.inv s1.env s1.size q2 d2 d3 d5 d4 hr ?_
            intro v' w' g' r1 r2 r3 r4 r5
            exact ⟨v', g', rfl, r1, r2, q1.trans r3, r4, fun b hb => q3 b (r5 b hb), q4⟩
          rcases hx with rfl | rfl
          · exact key
          · exact key
        split at hb
        · rename_i e' h2 hd
          exact fin .normal e' h2 (.inl rfl) hd hb
        · rename_i e' h2 hd
          exact fin .ret e' h2 (.inr rfl) hd hb
        · cases hb
      · cases hb

theorem putAll_env {w : World} {M : Muts} {g : G} : ∀ (ps : List Nat) (vs : List V) (vals : List Value) (e : Env) (tm : Array Value), VRL w M g vs vals → ps.length = vals.length → (∀ p ∈ ps, p < tm.size) → (∀ t, VR w M g (e t) (tm.getD t undef)) →
    (∀ t, VR w M g (putAll ps vs e t) (((ps.zip vals).foldl (fun (tm : Array Value) (q : Nat × Value) => tm.setIfInBounds q.1 q.2) tm).getD t undef)) ∧ ((ps.zip vals).foldl (fun (tm : Array Value) (q : Nat × Value) => tm.setIfInBounds q.1 q.2) tm).size = tm.size
  | [], vs, vals, e, tm, _, hl, _, he => by
    cases vals with
    | cons _ _ => simp at hl
    | nil => exact ⟨he, rfl⟩
  | p :: ps, vs, vals, e, tm, hv, hl, hp, he => by
    cases vals with
    | nil => simp at hl
    | cons u us =>
      cases vs with
      | nil => exact absurd hv (by simp [VRL])
      | cons x xs =>
        obtain ⟨u', us', e1, h1, h2⟩ := hv
        simp only [List.cons.injEq] at e1
        obtain ⟨rfl, rfl⟩ := e1
        have hput := put_env (a := { tmps := tm, defers := [] }) he (d := some p) (fun s hs => by cases hs; exact hp p (List.mem_cons_self ..)) h1
        obtain ⟨k1, k2⟩ := putAll_env ps xs us (e.put (some p) x) (tm.setIfInBounds p u) h2 (by simpa using hl) (fun q hq => by simp; exact hp q (List.mem_cons_of_mem _ hq)) hput
        exact ⟨k1, by simpa using k2⟩
/-- what a call of yield does -/
theorem round_sim (hO : C.Ok P) {callF : CallF} (hC : CallOk P C.glob callF) (hA : CallApart C callF) (n : Nat) {h : Heap} {g : G} {w : World} {b : Nat} {vs : List V} {vals : Array Value} {v : V} {h' : Heap} (hB : B.glob = C.glob) (I : Inv B h g w)
    (hv : VRL w (Mut B.M0 h g) g vs vals.toList) (hd : g.dom b) (hr : roundC P C callF n b vs h = some (v, h')) :
    ∃ f tmps x y, (Instr.yield (g.rho b) vals).run P w = .ok (.round (g.rho b) f tmps x y) w ∧ RoundIn Fence.wide 0 P (g.rho b) f tmps x y w (CallPost B h g w v h') := by
  have hvl := VRL.length hv
  simp only [Array.length_toList] at hvl
  unfold roundC at hr
  split at hr
  case h_2 => cases hr
  rename_i f e ps x y hb
  split at hr
  case isFalse => cases hr
  rename_i hlen
  have hbk := I.blk b
  rw [hb] at hbk
  obtain ⟨_, hge, rec, ho, ⟨z1, z2, z3, z4, z5, z6, z7⟩, henv⟩ := hbk
  have hps : rec.params.size = ps.length := by rw [← z1]; simp
  refine ⟨rec.fn, _, rec.assign, rec.body, run_yield ho (by omega), ?_⟩
  have I1 := I.addLps (d := g.rho b) hge ho
  have y1 := GLe.addLps g (g.rho b)
  have hpz : (rec.params.zip vals).foldl (fun tmps (t, a) => tmps.setIfInBounds t a) rec.tmps = (ps.zip vals.toList).foldl (fun (tm : Array Value) (q : Nat × Value) => tm.setIfInBounds q.1 q.2) rec.tmps := by
    rw [← Array.foldl_toList, Array.toList_zip, z1]
  rw [hpz]
  obtain ⟨k1, k2⟩ := putAll_env ps vs vals.toList e rec.tmps hv (by simp; omega) z6 henv
  have s0 : St B rec.tmps.size ⟨g.dfr, some (g.rho b)⟩ (putAll ps vs e) h (g.addLps (g.rho b)) w { tmps := (ps.zip vals.toList).foldl (fun (tm : Array Value) (q : Nat × Value) => tm.setIfInBounds q.1 q.2) rec.tmps, defers := [] } :=
    ⟨I1, fun t => VR.mono (Ext.refl _ _) y1 _ _ (k1 t), k2, ⟨[], rfl, List.nodup_nil, fun _ h => by cases h⟩, (fun l hl => by cases hl; exact .inr rfl), fun _ h => h⟩
  split at hr
  case h_2 => cases hr
  rename_i e2 h2 hd2
  split at hr
  case h_2 => cases hr
  rename_i f2 x2 ps2 a2 c2 hb2
  split at hr
  case h_2 => cases hr
  rename_i ex e3 h3 hd3
  split at hr
  case h_2 => cases hr
  rename_i f3 x3 ps3 a3 c3 hb3
  refine roundIn_of_wpIn (F := Fence.wide) (n := 0) trivial ?_
  rw [z2, z3]
  refine den_sim (ds := ⟨g.dfr, some (g.rho b)⟩) hO.mix hC hA hB n f x false _ h _ w _ .normal e2 h2 _ z4 s0 hd2 ?_
  intro a1 w1 g1 s1 q1 q2 q3 q4
  have hd1 := q2.dom b hd
  have hr1 : g1.rho b = g.rho b := q2.rho b hd
  have hbk1 := s1.inv.blk b
  rw [hb2] at hbk1
  obtain ⟨_, hge1, rec1, ho1, ⟨t1, t2, t3, t4, t5, t6, t7⟩, henv1⟩ := hbk1
  rw [hr1] at ho1
  have hlt1 : g.rho b < w1.heap.size := (Array.getElem?_eq_some_iff.1 ho1).1
  refine ⟨_, run_beginRound ho1 t7.1, ?_⟩
  obtain ⟨I2, x2'⟩ := turn_step s1.inv (id := b) (.loopb f2 x2 ps2 a2 c2 .busy) (w' := w1.putObj (g.rho b) (.loop { rec1 with state := .busy }))
    (fun o => by rw [hb2]; trivial) (fun _ _ => trivial) rfl (by rw [hb2]; rfl) (fun _ => rfl) (fun k hk => World.putObj_heap_other (by rw [← hr1]; exact hk)) (by simp) rfl rfl rfl
    (fun ex4 => ⟨hd1, hge1, { rec1 with state := .busy }, by rw [hr1]; exact World.putObj_heap_same hlt1, ⟨t1, t2, t3, t4, t5, t6, rfl⟩, fun t => VR.mono ex4 (GLe.refl g1) _ _ (henv1 t)⟩)
  refine den_sim (ds := ⟨g.dfr, some (g.rho b)⟩) hO.mix hC hA hB n f y false e2 (h2.upd b (.loopb f2 x2 ps2 a2 c2 .busy)) g1 _ a1 ex e3 h3 _ z5 ⟨I2, fun t => VR.mono x2' (GLe.refl g1) _ _ (s1.env t), s1.size, s1.defers⟩ hd3 ?_
  intro a4 w4 g4 s4 r1 r2 r3 r4
  have hd4 := r2.dom b hd1
  have hr4 : g4.rho b = g.rho b := (r2.rho b hd1).trans hr1
  have hbk4 := s4.inv.blk b
  rw [hb3] at hbk4
  obtain ⟨_, hge4, rec4, ho4, ⟨u1, u2, u3, u4, u5, u6, u7⟩, henv4⟩ := hbk4
  rw [hr4] at ho4
  have hlt4 : g.rho b < w4.heap.size := (Array.getElem?_eq_some_iff.1 ho4).1
  have yall : GLe g g4 := (y1.trans q2).trans r2
  have xall : Ext w (Mut B.M0 h g) w4 (Mut B.M0 h3 g4) := (show Ext w (Mut B.M0 h g) w1 (Mut B.M0 h2 g1) from q1).trans (x2'.trans r1)
  -- the round's end
  have fin : ∀ (jump : Option Code) (st : LSt) (bb : Bool), jump.isNone = bb → (∀ r : Loop, r.state = (if bb then .ready else .done) → r.pending = jump → st.ok r) → v = .d (.bool bb) → h' = h3.upd b (.loopb f3 x3 ps3 a3 c3 st) →
      ∃ vv w', (Instr.endRound (g.rho b) jump).run P w4 = .ok vv w' ∧ CallPost B h g w v h' (.returned vv) w' := by
    rintro jump st bb rfl hst rfl rfl
    refine ⟨_, _, run_endRound jump ho4, ?_⟩
    obtain ⟨I5, x5⟩ := turn_step s4.inv (id := b) (.loopb f3 x3 ps3 a3 c3 st) (w' := w4.putObj (g.rho b) (.loop { rec4 with state := if jump.isNone then .ready else .done, pending := jump }))
      (fun o => by rw [hb3]; trivial) (fun _ _ => trivial) rfl (by rw [hb3]; rfl) (fun _ => rfl) (fun k hk => World.putObj_heap_other (by rw [← hr4]; exact hk)) (by simp) rfl rfl rfl
      (fun ex4 => ⟨hd4, hge4, { rec4 with state := if jump.isNone then .ready else .done, pending := jump }, by rw [hr4]; exact World.putObj_heap_same hlt4, ⟨u1, u2, u3, u4, u5, u6, hst _ rfl rfl⟩, fun t => VR.mono ex4 (GLe.refl g4) _ _ (henv4 t)⟩)
    refine ⟨_, g4, rfl, I5, rfl, xall.trans x5, yall, fun i hi => ?_, ?_⟩
    · rcases r3 i hi with q | q
      · exact q3 i q
      · exact .inr (Nat.le_trans q4 q)
    · exact Nat.le_trans q4 r4
  cases ex with
  | normal =>
    simp only [Option.some.injEq, Prod.mk.injEq] at hr
    exact fin none .ready true rfl (fun r h1 h2 => ⟨by simpa using h1, h2⟩) hr.1.symm hr.2.symm
  | ret =>
    simp only [Option.some.injEq, Prod.mk.injEq] at hr
    exact fin (some .ret) (.done .ret) false rfl (fun r h1 h2 => ⟨by simpa using h1, h2⟩) hr.1.symm hr.2.symm
  | exit i =>
    simp only [Option.some.injEq, Prod.mk.injEq] at hr
    exact fin (some (.exit i)) (.done (.exit i)) false rfl (fun r h1 h2 => ⟨by simpa using h1, h2⟩) hr.1.symm hr.2.symm

theorem freeze_scalar {h : Heap} : ∀ (n : Nat) (v : V) (d : D), v.scalar = true → freezeV h n v = some d → d.scalar = true
  | 0, v, d, _, hf => by simp [freezeV] at hf
  | n + 1, v, d, hs, hf => by
    cases v with
    | d x => simp only [freezeV, Option.some.injEq] at hf; subst hf; exact hs
    | nils => simp only [freezeV, Option.some.injEq] at hf; subst hf; rfl
    | own t rows => simp only [freezeV, Option.some.injEq] at hf; subst hf; rfl
    | agg vs => simp [V.scalar] at hs
    | tuple vs => simp [V.scalar] at hs
    | unk => simp [V.scalar] at hs
    | yld b => simp [freezeV] at hf
    | ref b off =>
      simp only [freezeV] at hf
      split at hf
      · obtain ⟨x, _, rfl⟩ := Option.map_eq_some_iff.1 hf; rfl
      · cases hf
    | sref b off len sz =>
      simp only [freezeV] at hf
      split at hf
      · split at hf
        · obtain ⟨x, _, rfl⟩ := Option.map_eq_some_iff.1 hf; rfl
        · cases hf
      · cases hf
    | mref b =>
      simp only [freezeV] at hf
      split at hf
      · split at hf
        · obtain ⟨x, _, rfl⟩ := Option.map_eq_some_iff.1 hf; rfl
        · cases hf
      · cases hf
    | iface t x =>
      simp only [freezeV] at hf
      obtain ⟨x, _, rfl⟩ := Option.map_eq_some_iff.1 hf; rfl
    | fn f a b =>
      simp only [freezeV] at hf
      split at hf
      · simp only [Option.some.injEq] at hf; subst hf; rfl
      · cases hf
theorem freeze_sim {h : Heap} {g : G} {w : World} (I : Inv B h g w) : ∀ (n : Nat) (v : V) (val : Value) (d : D), VR w (Mut B.M0 h g) g v val → freezeV h n v = some d → RD w B.M0 d val := by
  have x : Ext w (Mut B.M0 h g) w B.M0 := ⟨fun _ _ _ _ h => h, fun _ _ _ _ h => h, fun b o hm _ h0 => hm (.inl h0), Nat.le_refl _⟩
  have nom : ∀ id o, live (h.blk id) = true → ¬ B.M0 (g.rho id) o := fun id o hl h0 => by
    have := I.m0 _ _ h0
    have := rho_ge I hl
    omega
  intro n
  induction n with
  | zero => intro v val d _ hf; simp [freezeV] at hf
  | succ n ih =>
    have ihl : ∀ (vs : List V) (vals : List Value) (ds : List D), VRL w (Mut B.M0 h g) g vs vals → vs.mapM (freezeV h n) = some ds → RDL w B.M0 ds vals := by
      intro vs vals ds hv hm
      have hm' := mapM_option _ hm
      clear hm
      induction vs generalizing vals ds with
      | nil =>
        have e1 : vals = [] := hv
        have e2 : ds = [] := by simpa using hm'.symm
        subst e1 e2; rfl
      | cons y ys ihy =>
        obtain ⟨u, us, rfl, q1, q2⟩ := hv
        cases ds with
        | nil => simp at hm'
        | cons d ds =>
          simp only [List.map_cons, List.cons.injEq] at hm'
          exact ⟨u, us, rfl, ih _ _ _ q1 hm'.1, ihy us ds q2 hm'.2⟩
    have scl : ∀ (vs : List V) (ds : List D), vs.all V.scalar = true → vs.mapM (freezeV h n) = some ds → ∀ d ∈ ds, d.scalar = true := by
      intro vs ds hs hm
      have hm' := mapM_option _ hm
      clear hm
      induction vs generalizing ds with
      | nil =>
        have e2 : ds = [] := by simpa using hm'.symm
        subst e2; intro d hd; cases hd
      | cons y ys ihy =>
        cases ds with
        | nil => simp at hm'
        | cons d ds =>
          simp only [List.map_cons, List.cons.injEq] at hm'
          simp only [List.all_cons, Bool.and_eq_true] at hs
          intro z hz
          rcases List.mem_cons.1 hz with rfl | hz
          · exact freeze_scalar n _ _ hs.1 hm'.1
          · exact ihy ds hs.2 hm'.2 z hz
    intro v val d hv hf
    cases v with
    | d y => simp only [freezeV, Option.some.injEq] at hf; subst hf; exact RD.mono x _ _ hv
    | nils =>
      simp only [freezeV, Option.some.injEq] at hf; subst hf
      have e : val = .slice none 0 0 := hv
      exact ⟨none, 0, e, Nat.le_refl _, fun hn => absurd rfl hn⟩
    | own t rows =>
      simp only [freezeV, Option.some.injEq] at hf; subst hf
      obtain ⟨_, e, h1, _, h2⟩ := hv
      exact ⟨_, _, e, h1, fun _ => ⟨_, _, _, rfl, RowsAt.mono x _ _ _ _ h2⟩⟩
    | agg vs =>
      obtain ⟨xs, rfl, hl⟩ := hv
      simp only [freezeV] at hf
      obtain ⟨ds, hm, rfl⟩ := Option.map_eq_some_iff.1 hf
      exact ⟨xs, rfl, ihl vs _ ds hl hm⟩
    | tuple vs =>
      obtain ⟨xs, rfl, hl⟩ := hv
      simp only [freezeV] at hf
      obtain ⟨ds, hm, rfl⟩ := Option.map_eq_some_iff.1 hf
      exact ⟨xs, rfl, ihl vs _ ds hl hm⟩
    | unk => simp [freezeV] at hf
    | yld b => simp [freezeV] at hf
    | iface t y =>
      obtain ⟨z, rfl, hz⟩ := hv
      simp only [freezeV] at hf
      obtain ⟨dd, hm, rfl⟩ := Option.map_eq_some_iff.1 hf
      exact ⟨z, rfl, ih _ _ _ hz hm⟩
    | fn f a b =>
      obtain ⟨xs, ys, rfl, q1, q2⟩ := hv
      simp only [freezeV] at hf
      split at hf
      · rename_i x1 y1 m1 m2
        simp only [Option.some.injEq] at hf; subst hf
        exact ⟨xs, ys, rfl, ihl a _ _ q1 m1, ihl b _ _ q2 m2⟩
      · cases hf
    | ref b off =>
      obtain ⟨hd, rfl⟩ := hv
      simp only [freezeV] at hf
      have hbk := I.blk b
      split at hf
      · rename_i vs hb
        rw [hb] at hbk
        obtain ⟨_, _, hus, cur, e, hcur, hle, hvr⟩ := hbk
        obtain ⟨ds, hm, rfl⟩ := Option.map_eq_some_iff.1 hf
        refine ⟨g.rho b, 0, by simp, At.of (ihl vs _ ds hvr hm) (scl vs ds hus hm) (fun j u hj => ?_) (fun j _ => nom b _ (by rw [hb]; rfl))⟩
        rw [Nat.zero_add, cell_of_row w _ _ cur e (0, 0) hcur]
        rw [List.getElem?_take] at hj
        split at hj
        · simpa using hj
        · cases hj
      · cases hf
    | sref b off len sz =>
      obtain ⟨hd, cap, rfl, hcap⟩ := hv
      simp only [freezeV] at hf
      have hbk := I.blk b
      split at hf
      · rename_i vs hb
        rw [hb] at hbk
        obtain ⟨_, _, hus, cur, e, hcur, hle, hvr⟩ := hbk
        split at hf
        · rename_i hc
          obtain ⟨ds, hm, rfl⟩ := Option.map_eq_some_iff.1 hf
          have hv2 := VRL.take (len * sz) (VRL.drop off hvr)
          have hr := ihl _ _ ds hv2 hm
          have hsc := scl _ ds (by
            simp only [List.all_eq_true] at hus ⊢
            exact fun y hy => hus y (List.mem_of_mem_drop (List.mem_of_mem_take hy))) hm
          have hl : ds.length = len * sz := by rw [← RDL.length hr, VRL.length hv2]; simp; omega
          obtain ⟨c1, c2, c3⟩ := chunk_spec sz len ds hl
          refine ⟨_, cap, by rw [c1], by rw [c1]; exact hcap, fun _ => ⟨g.rho b, off, sz, rfl, RowsAt.iff.2 ⟨c2, ?_⟩⟩⟩
          rw [c3]
          refine At.of hr hsc (fun j u hj => ?_) (fun j _ => nom b _ (by rw [hb]; rfl))
          rw [cell_of_row w _ _ cur e (0, 0) hcur]
          rw [List.getElem?_take] at hj
          split at hj
          · rw [List.getElem?_drop, List.getElem?_take] at hj
            split at hj
            · simpa using hj
            · cases hj
          · cases hj
        · cases hf
      · cases hf
    | mref b =>
      obtain ⟨hd, rfl⟩ := hv
      simp only [freezeV] at hf
      have hbk := I.blk b
      split at hf
      · rename_i ks vs hb
        rw [hb] at hbk
        obtain ⟨_, _, es, c, hr, hbn, h1, h2⟩ := hbk
        split at hf
        · obtain ⟨ds, hm, rfl⟩ := Option.map_eq_some_iff.1 hf
          exact ⟨g.rho b, es, c, rfl, nom b 0 (by rw [hb]; rfl), hr, hbn, RDL.mono x _ _ h1, ihl vs _ ds h2 hm⟩
        · cases hf
      · cases hf

def emptyG : G := ⟨fun _ => False, id, id, id, id, id, fun _ => default, fun _ => False, fun _ => False⟩
theorem Inv.start {B : Base} {w : World} (hb : B.w0 = w) (hm : ∀ b o, B.M0 b o → b < w.heap.size) (hg : ∀ n, (∃ x, B.glob n = .d x ∧ RD w B.M0 x (.pointer (some ⟨n, 0, none⟩))) ∨ B.glob n = .unk) : Inv B Heap.empty emptyG w := by
  subst hb
  refine ⟨Below.refl _ _, hm, fun _ => trivial, fun i j hi => ?_, fun _ h => h.elim, fun _ h => h.elim, fun _ _ => rfl, fun n => ?_, fun _ h => h.elim, fun _ h => h.elim⟩
  · simp [Heap.empty, live] at hi
  · rcases hg n with ⟨x, h1, h2⟩ | h1
    · rw [h1]
      refine RD.mono ⟨fun _ _ _ _ h => h, fun _ _ _ _ h => h, fun b o hm _ => ?_, Nat.le_refl _⟩ _ _ h2
      rintro (h0 | ⟨i, hd, _⟩)
      · exact hm h0
      · exact hd.elim
    · rw [h1]; trivial
/-- a pure call: the machine's heap begins anew, what comes back is data -/
theorem pure_sim (hO : C.Ok P) {ic : CallF} (hC : CallOk P C.glob ic) {f : FuncId} {ds : List D} {vals : Array Value} {w : World} {M : Muts} {k : Nat} {d : D} {v : V} {h' : Heap}
    (hr : ic (.fn f) (ds.map .d) Heap.empty = some (v, h')) (hz : freezeV h' k v = some d) (hi : C.glob.inv w) (hm : ∀ b o, M b o → b < w.heap.size) (hg : ∀ n x, C.glob n = .d x → RD w M x (.pointer (some ⟨n, 0, none⟩)))
    (hv : RDL w M ds vals.toList) : (callFunc f vals).run P w = .ok (.enter f vals) w ∧ Calls P f vals w fun e w' => ∃ v', e = .returned v' ∧ RD w' M d v' ∧ Below w.heap.size w w' := by
  let B : Base := ⟨w, M, C.glob, hi⟩
  have I : Inv B Heap.empty emptyG w := Inv.start rfl hm (fun n => by
    rcases hO.glob n with ⟨x, h1⟩ | h1
    · exact .inl ⟨x, h1, hg n x h1⟩
    · exact .inr h1)
  have hv' : RDL w (Mut B.M0 Heap.empty emptyG) ds vals.toList := RDL.mono ⟨fun _ _ _ _ h => h, fun _ _ _ _ h => h, fun b o hm _ => by
    rintro (h0 | ⟨i, hd, _⟩)
    · exact hm h0
    · exact hd.elim, Nat.le_refl _⟩ _ _ hv
  obtain ⟨h1, h2⟩ := hC B Heap.empty emptyG w (.fn f) (ds.map .d) vals v h' rfl I (RDL.toVRL hv') hr
  refine ⟨h1, Calls.mono h2 ?_⟩
  rintro e w' ⟨v', g', rfl, q1, q2, _, _, _, _⟩
  exact ⟨v', rfl, freeze_sim q1 k v v' d q2 hz, q1.below⟩
theorem pick_apart (ic : CallF) (k : Nat) : CallApart C (pickC C ic k) := by
  intro t vs ha
  cases t with
  | yld b => simp [apartC] at ha
  | fn f =>
  unfold apartC at ha
  unfold pickC
  simp only at ha ⊢
  cases hp : C.primF f with
  | some gf =>
    refine ⟨(allD vs).bind fun ds => (gf ds).map .d, fun h => ?_⟩
    simp only
    cases allD vs with
    | none => rfl
    | some ds => simp only [Option.bind_some]; cases gf ds <;> rfl
  | none =>
    cases hpv : C.primV f with
    | some gv =>
      refine ⟨gv vs, fun h => ?_⟩
      simp only
    | none =>
    rw [hp, hpv] at ha
    simp only [Option.isSome_none, Bool.false_or, Bool.and_eq_true] at ha
    obtain ⟨h1, h2⟩ := ha
    obtain ⟨ds, hds⟩ := Option.isSome_iff_exists.1 h2
    refine ⟨match ic (.fn f) (ds.map .d) Heap.empty with | some (v, h') => (freezeV h' k v).map V.d | none => none, fun h => ?_⟩
    simp only [h1, if_true, hds]
    cases ic (.fn f) (ds.map .d) Heap.empty with
    | none => rfl
    | some p => obtain ⟨v, h'⟩ := p; simp only; cases freezeV h' k v <;> rfl
theorem pick_sim (hO : C.Ok P) {ic : CallF} (hC : CallOk P C.glob ic) (k : Nat) : CallOk P C.glob (pickC C ic k) := by
  intro B h g w t vs vals v h' hB I hv hp
  cases t with
  | yld b => exact hC B h g w (.yld b) vs vals v h' hB I hv hp
  | fn f =>
  have hM : ∀ b o, Mut B.M0 h g b o → b < w.heap.size := by
    rintro b o (h0 | ⟨i, hd, rfl, _⟩)
    · have := I.m0 b o h0; have := I.below.size; omega
    · exact I.lt i hd
  have hI : C.glob.inv w := C.glob.keep B.w0 w (hB ▸ B.hinv) I.below
  have hG : ∀ n x, C.glob n = .d x → RD w (Mut B.M0 h g) x (.pointer (some ⟨n, 0, none⟩)) := by
    intro n x hx
    have := I.glob n
    rw [hB, hx] at this
    exact this
  have back : ∀ (d : D), v = .d d → h' = h → (callFunc f vals).run P w = .ok (.enter f vals) w → (Calls P f vals w fun e w' => ∃ v', e = .returned v' ∧ RD w' (Mut B.M0 h g) d v' ∧ Below w.heap.size w w') →
      (callFunc f vals).run P w = .ok (.enter f vals) w ∧ Calls P f vals w (CallPost B h g w v h') := by
    rintro d rfl rfl h1 h2
    refine ⟨h1, Calls.mono h2 ?_⟩
    rintro e w' ⟨v', rfl, q1, q2⟩
    obtain ⟨I', x'⟩ := I.same q2
    exact ⟨v', g, rfl, I', q1, x', GLe.refl g, fun b hb => .inl hb, Nat.le_refl _⟩
  unfold pickC at hp
  simp only at hp
  split at hp
  · rename_i gf hprim
    split at hp
    · rename_i ds hds
      obtain ⟨d, hd, he⟩ := Option.map_eq_some_iff.1 hp
      simp only [Prod.mk.injEq] at he
      obtain ⟨h1, h2⟩ := hO.prim f gf hprim ds d vals w (Mut B.M0 h g) hd (allD_sim hv hds) hI hM hG
      exact back d he.1.symm he.2.symm h1 h2
    · cases hp
  · rename_i hprim
    split at hp
    · rename_i gv hpv
      obtain ⟨v1, hv1, he⟩ := Option.map_eq_some_iff.1 hp
      simp only [Prod.mk.injEq] at he
      obtain ⟨rfl, rfl⟩ := he
      obtain ⟨h1, h2⟩ := hO.primV f gv hpv vs v1 vals w (Mut B.M0 h g) g hv1 hv
      refine ⟨h1, Calls.mono h2 ?_⟩
      rintro e w' ⟨v', rfl, q1, q2⟩
      obtain ⟨I', x'⟩ := I.same q2
      exact ⟨v', g, rfl, I', VR.mono x' (GLe.refl g) _ _ q1, x', GLe.refl g, fun b hb => .inl hb, Nat.le_refl _⟩
    split at hp
    · rename_i ds hds
      have hds' : allD vs = some ds := by
        split at hds
        · exact hds
        · cases hds
      split at hp
      · rename_i v1 h1 hic
        obtain ⟨d, hd, he⟩ := Option.map_eq_some_iff.1 hp
        simp only [Prod.mk.injEq] at he
        obtain ⟨q1, q2⟩ := pure_sim hO hC hic hd hI hM hG (allD_sim hv hds')
        exact back d he.1.symm he.2.symm q1 q2
      · cases hp
    · exact hC B h g w (.fn f) vs vals v h' hB I hv hp
theorem icall_sim (hO : C.Ok P) : ∀ k, CallOk P C.glob (icall P C k)
  | 0 => by intro B h g w t vs vals v h' _ _ _ hc; simp [icall] at hc
  | k + 1 => by
    intro B h g w t vs vals v h' hB I hv hc
    cases t with
    | fn f => exact body_sim hO (pick_sim hO (icall_sim hO k) k) (pick_apart (icall P C k) k) k hB I hv hc
    | yld b => exact fun hd => round_sim hO (pick_sim hO (icall_sim hO k) k) (pick_apart (icall P C k) k) k hB I hv hd hc
/-- WHAT THE MACHINE ANSWERS, Go ANSWERS: a call on data -/
theorem pcall_sound (hO : C.Ok P) {k : Nat} {f : FuncId} {ds : List D} {d : D} (h : pcall P C k f ds = some d) {vals : Array Value} {w : World} {M : Muts} (hi : C.glob.inv w) (hm : ∀ b o, M b o → b < w.heap.size)
    (hg : ∀ n x, C.glob n = .d x → RD w M x (.pointer (some ⟨n, 0, none⟩))) (hv : RDL w M ds vals.toList) :
    Calls P f vals w fun e w' => ∃ v', e = .returned v' ∧ RD w' M d v' ∧ Below w.heap.size w w' := by
  unfold pcall at h
  split at h
  · rename_i v h' hic
    exact (pure_sim hO (icall_sim hO k) hic h hi hm hg hv).2
  · cases h
end
end Go.AM
end
section
namespace Go.AM
open Go
set_option linter.unusedVariables false

/-- what is asked of an answer: no step of simp looks into it ahead of the answer -/
class Kont (α : Type) where
  run : α → Prop
def Wk {α : Type} (x : Option α) [Q : Kont α] : Prop := ∃ r, x = some r ∧ Q.run r
/-- it answers, and the answer is as told -/
@[reducible] def W {α : Type} (x : Option α) (Q : α → Prop) : Prop := @Wk α x ⟨Q⟩
@[simp ↓] theorem W_k {α : Type} {x : Option α} {Q : α → Prop} : W x Q = @Wk α x ⟨Q⟩ := rfl
@[simp ↓] theorem W_some {α : Type} {r : α} {Q : Kont α} : @Wk α (some r) Q ↔ Q.run r := by simp [Wk]
@[simp ↓] theorem W_none {α : Type} {Q : Kont α} : @Wk α none Q ↔ False := by simp [Wk]
@[simp high] theorem W_some' {α : Type} {r : α} {Q : Kont α} : @Wk α (some r) Q ↔ Q.run r := W_some
@[simp high] theorem W_none' {α : Type} {Q : Kont α} : @Wk α none Q ↔ False := W_none
theorem W.mono {α : Type} {x : Option α} {Q R : α → Prop} (h : W x Q) (hq : ∀ r, Q r → R r) : W x R := by
  obtain ⟨r, h1, h2⟩ := h; exact ⟨r, h1, hq r h2⟩
@[simp] theorem W_map {α β : Type} {x : Option α} {f : α → β} {Q : Kont β} : @Wk β (x.map f) Q ↔ W x (fun r => Q.run (f r)) := by
  cases x <;> simp
@[simp] theorem W_bind {α β : Type} {x : Option α} {f : α → Option β} {Q : Kont β} : @Wk β (x.bind f) Q ↔ W x (fun r => @Wk β (f r) Q) := by
  cases x <;> simp
/-- either way: both ways are looked at only where the test is not decided -/
class BothK where
  A : Prop
  B : Prop
def bothK (b : Bool) [K : BothK] : Prop := (b = true → K.A) ∧ (b = false → K.B)
@[reducible] def both (b : Bool) (A B : Prop) : Prop := @bothK b ⟨A, B⟩
@[simp ↓] theorem both_k {b : Bool} {A B : Prop} : both b A B = @bothK b ⟨A, B⟩ := rfl
@[simp ↓] theorem both_true {K : BothK} : @bothK true K = K.A := by simp [bothK]
@[simp ↓] theorem both_false {K : BothK} : @bothK false K = K.B := by simp [bothK]
@[simp high] theorem both_true' {K : BothK} : @bothK true K = K.A := both_true
@[simp high] theorem both_false' {K : BothK} : @bothK false K = K.B := both_false
@[simp low] theorem both_any {b : Bool} {K : BothK} : @bothK b K = ((b = true → K.A) ∧ (b = false → K.B)) := rfl
@[simp] theorem W_if {α : Type} {c : Prop} [Decidable c] {x y : Option α} {Q : Kont α} : @Wk α (if c then x else y) Q ↔ both (decide c) (@Wk α x Q) (@Wk α y Q) := by
  by_cases h : c <;> simp [h]
theorem W_eq {α : Type} {x : Option α} {r : α} : W x (· = r) ↔ x = some r := by cases x <;> simp

/-! which operations touch the same: asked pair by pair, where both touch something -/
def ordB (ops : Array Oper) (i j : Nat) : Bool := ((predsOf ops).getD j []).contains i
def tGo (ops : Array Oper) : List Fp → Nat → List (Nat × Fp) → Bool
  | [], _, _ => true
  | .none :: fs, j, acc => tGo ops fs (j + 1) acc
  | .bad :: _, _, _ => false
  | .rd l :: fs, j, acc => (acc.all fun q => compat q.2 (.rd l) || ordB ops q.1 j) && tGo ops fs (j + 1) ((j, .rd l) :: acc)
  | .wr l :: fs, j, acc => (acc.all fun q => compat q.2 (.wr l) || ordB ops q.1 j) && tGo ops fs (j + 1) ((j, .wr l) :: acc)
def liveFp : Fp → Bool
  | .none => false
  | _ => true
theorem tGo_iff {ops : Array Oper} : ∀ {fs : List Fp} {j : Nat} {acc : List (Nat × Fp)}, tGo ops fs j acc = true ↔
    (∀ x ∈ fs, notBad x = true) ∧ (∀ b x, fs[b]? = some x → liveFp x = true → ∀ q ∈ acc, compat q.2 x = true ∨ ordB ops q.1 (j + b) = true) ∧
      (∀ a b x y, a < b → fs[a]? = some x → fs[b]? = some y → liveFp x = true → liveFp y = true → compat x y = true ∨ ordB ops (j + a) (j + b) = true)
  | [], j, acc => by simp [tGo]
  | f :: fs, j, acc => by
    have key : ∀ (hl : liveFp f = true) (hb : notBad f = true), ((acc.all fun q => compat q.2 f || ordB ops q.1 j) && tGo ops fs (j + 1) ((j, f) :: acc)) = true ↔
        (∀ x ∈ f :: fs, notBad x = true) ∧ (∀ b x, (f :: fs)[b]? = some x → liveFp x = true → ∀ q ∈ acc, compat q.2 x = true ∨ ordB ops q.1 (j + b) = true) ∧
        (∀ a b x y, a < b → (f :: fs)[a]? = some x → (f :: fs)[b]? = some y → liveFp x = true → liveFp y = true → compat x y = true ∨ ordB ops (j + a) (j + b) = true) := by
      intro hl hb
      rw [Bool.and_eq_true, tGo_iff]
      simp only [List.all_eq_true, Bool.or_eq_true]
      constructor
      · rintro ⟨h1, h2, h3, h4⟩
        refine ⟨fun x hx => ?_, fun b x hx hlx q hq => ?_, fun a b x y hab hx hy hlx hly => ?_⟩
        · rcases List.mem_cons.1 hx with rfl | hx
          · exact hb
          · exact h2 x hx
        · cases b with
          | zero => simp at hx; subst hx; exact h1 q hq
          | succ b => have := h3 b x (by simpa using hx) hlx q (List.mem_cons_of_mem _ hq); rwa [show j + (b + 1) = j + 1 + b from by omega]
        · cases b with
          | zero => omega
          | succ b =>
            rw [show j + (b + 1) = j + 1 + b from by omega]
            cases a with
            | zero =>
              simp at hx; subst hx
              exact h3 b y (by simpa using hy) hly (j, f) (List.mem_cons_self ..)
            | succ a =>
              rw [show j + (a + 1) = j + 1 + a from by omega]
              exact h4 a b x y (by omega) (by simpa using hx) (by simpa using hy) hlx hly
      · rintro ⟨h1, h2, h3⟩
        refine ⟨fun q hq => h2 0 f (by simp) hl q hq, fun x hx => h1 x (List.mem_cons_of_mem _ hx), fun b x hx hlx q hq => ?_, fun a b x y hab hx hy hlx hly => ?_⟩
        · rcases List.mem_cons.1 hq with rfl | hq
          · have := h3 0 (b + 1) f x (by omega) (by simp) (by simpa using hx) hl hlx
            rwa [show j + (b + 1) = j + 1 + b from by omega] at this
          · have := h2 (b + 1) x (by simpa using hx) hlx q hq
            rwa [show j + (b + 1) = j + 1 + b from by omega] at this
        · have := h3 (a + 1) (b + 1) x y (by omega) (by simpa using hx) (by simpa using hy) hlx hly
          rwa [show j + (a + 1) = j + 1 + a from by omega, show j + (b + 1) = j + 1 + b from by omega] at this
    cases f with
    | bad => simp [tGo, notBad]
    | rd l => exact key rfl rfl
    | wr l => exact key rfl rfl
    | none =>
      simp only [tGo]
      rw [tGo_iff]
      constructor
      · rintro ⟨h2, h3, h4⟩
        refine ⟨fun x hx => ?_, fun b x hx hlx q hq => ?_, fun a b x y hab hx hy hlx hly => ?_⟩
        · rcases List.mem_cons.1 hx with rfl | hx
          · rfl
          · exact h2 x hx
        · cases b with
          | zero => simp at hx; subst hx; cases hlx
          | succ b => have := h3 b x (by simpa using hx) hlx q hq; rwa [show j + (b + 1) = j + 1 + b from by omega]
        · cases a with
          | zero => simp at hx; subst hx; cases hlx
          | succ a =>
            cases b with
            | zero => omega
            | succ b =>
              rw [show j + (b + 1) = j + 1 + b from by omega, show j + (a + 1) = j + 1 + a from by omega]
              exact h4 a b x y (by omega) (by simpa using hx) (by simpa using hy) hlx hly
      · rintro ⟨h1, h2, h3⟩
        refine ⟨fun x hx => h1 x (List.mem_cons_of_mem _ hx), fun b x hx hlx q hq => ?_, fun a b x y hab hx hy hlx hly => ?_⟩
        · have := h2 (b + 1) x (by simpa using hx) hlx q hq
          rwa [show j + (b + 1) = j + 1 + b from by omega] at this
        · have := h3 (a + 1) (b + 1) x y (by omega) (by simpa using hx) (by simpa using hy) hlx hly
          rwa [show j + (a + 1) = j + 1 + a from by omega, show j + (b + 1) = j + 1 + b from by omega] at this
theorem compat_r {x y : Fp} (h : notBad x = true) (hy : liveFp y = false) : compat x y = true := by
  cases y <;> simp [liveFp] at hy
  cases x <;> simp_all [compat, notBad]
theorem compat_l {x y : Fp} (h : notBad y = true) (hx : liveFp x = false) : compat x y = true := by
  cases x <;> simp [liveFp] at hx
  cases y <;> simp_all [compat, notBad]
theorem touch_tGo {ops : Array Oper} {fps : List Fp} : touchOk (predsOf ops) fps = true ↔ tGo ops fps 0 [] = true := by
  rw [tGo_iff]
  unfold touchOk
  simp only [Bool.and_eq_true, List.all_eq_true, List.mem_range, Bool.or_eq_true, List.not_mem_nil, false_implies, implies_true, true_and, Nat.zero_add]
  constructor
  · rintro ⟨h1, h2⟩
    refine ⟨h1, fun a b x y hab hx hy _ _ => ?_⟩
    have hb : b < fps.length := (List.getElem?_eq_some_iff.1 hy).1
    have := h2 b hb a hab
    simp only [List.getD_eq_getElem?_getD, hx, hy, Option.getD_some] at this
    rcases this with h | h
    · right; unfold ordB; simp only [List.getD_eq_getElem?_getD]; exact h
    · exact .inl h
  · rintro ⟨h1, h2⟩
    refine ⟨h1, fun b hb a hab => ?_⟩
    have hx : fps[a]? = some (fps[a]'(by omega)) := List.getElem?_eq_getElem (by omega)
    have hy : fps[b]? = some fps[b] := List.getElem?_eq_getElem hb
    have bx := h1 _ (List.getElem_mem (show a < fps.length by omega))
    have by_ := h1 _ (List.getElem_mem hb)
    simp only [List.getD_eq_getElem?_getD, hx, hy, Option.getD_some]
    by_cases lx : liveFp (fps[a]'(by omega)) = true
    · by_cases ly : liveFp fps[b] = true
      · rcases h2 a b _ _ hab hx hy lx ly with h | h
        · exact .inr h
        · left; unfold ordB at h; simpa only [List.getD_eq_getElem?_getD] using h
      · right
        exact compat_r bx (by simpa using ly)
    · right
      exact compat_l by_ (by simpa using lx)
section
variable {P : Program} {C : Cfg} {callF : CallF} {n : Nat} {f : FuncId} {e : Env} {h : Heap} {Q : Kont (Ex × Env × Heap)}
theorem W_seqC {x : Res} {k : Env → Heap → Res} : @Wk _ (seqC x k) Q ↔ W x (fun r => @Wk _ (seqC (some r) k) Q) := by
  cases x <;> simp [seqC]
@[simp ↓] theorem seqC_normal {k : Env → Heap → Res} : seqC (some (.normal, e, h)) k = k e h := rfl
@[simp ↓] theorem seqC_ret {k : Env → Heap → Res} : seqC (some (.ret, e, h)) k = some (.ret, e, h) := rfl
@[simp ↓] theorem seqC_exit {i : Nat} {k : Env → Heap → Res} : seqC (some (.exit i, e, h)) k = some (.exit i, e, h) := rfl
attribute [simp] seqC_normal seqC_ret seqC_exit
def unblk (id : Nat) (r : Ex × Env × Heap) : Ex × Env × Heap := match r with
  | (.exit i, e, h) => if i = id then (.normal, e, h) else (.exit i, e, h)
  | x => x
@[simp] theorem unblk_normal {id : Nat} : unblk id (.normal, e, h) = (.normal, e, h) := rfl
@[simp] theorem unblk_ret {id : Nat} : unblk id (.ret, e, h) = (.ret, e, h) := rfl
@[simp] theorem unblk_exit {id i : Nat} : unblk id (.exit i, e, h) = if i = id then (.normal, e, h) else (.exit i, e, h) := rfl
theorem W_blockC {id : Nat} {x : Res} : @Wk _ (blockC id x) Q ↔ W x (fun r => Q.run (unblk id r)) := by
  cases x with
  | none => simp [blockC]
  | some r =>
    obtain ⟨x, e, h⟩ := r
    cases x with
    | exit i => simp only [blockC, W_k, W_some, unblk]; split <;> simp
    | _ => simp [blockC]
@[simp] theorem W_condC {b : Bool} {x y : Res} : @Wk _ (condC (.d (.bool b)) x y) Q ↔ both b (@Wk _ x Q) (@Wk _ y Q) := by
  cases b <;> simp [condC]
@[simp] theorem den_skip {ro : Bool} : denC P C callF n f .skip ro e h = some (.normal, e, h) := rfl
@[simp] theorem den_label {ro : Bool} {l : Nat} : denC P C callF n f (.label l) ro e h = some (.normal, e, h) := rfl
@[simp] theorem den_exit {ro : Bool} {id : Nat} : denC P C callF n f (.exit id) ro e h = some (.exit id, e, h) := by cases ro <;> rfl
@[simp] theorem den_ret {ro : Bool} : denC P C callF n f .ret ro e h = some (.ret, e, h) := by cases ro <;> rfl
@[simp] theorem W_seq {ro : Bool} {a b : Code} : @Wk _ (denC P C callF n f (.seq a b) ro e h) Q ↔ W (denC P C callF n f a ro e h) (fun r => @Wk _ (seqC (some r) (denC P C callF n f b ro)) Q) := by
  have : denC P C callF n f (.seq a b) ro e h = seqC (denC P C callF n f a ro e h) (denC P C callF n f b ro) := by cases ro <;> rfl
  rw [this]
  exact W_seqC
@[simp] theorem W_block {ro : Bool} {id : Nat} {c : Code} : @Wk _ (denC P C callF n f (.block id c) ro e h) Q ↔ W (denC P C callF n f c ro e h) (fun r => Q.run (unblk id r)) := by
  have : denC P C callF n f (.block id c) ro e h = blockC id (denC P C callF n f c ro e h) := by cases ro <;> rfl
  rw [this]
  exact W_blockC
@[simp] theorem W_cond {ro : Bool} {c : Operand} {a b : Code} : @Wk _ (denC P C callF n f (.cond c a b) ro e h) Q ↔ @Wk _ (condC (evO C.glob e c) (denC P C callF n f a ro e h) (denC P C callF n f b ro e h)) Q := by
  have : denC P C callF n f (.cond c a b) ro e h = condC (evO C.glob e c) (denC P C callF n f a ro e h) (denC P C callF n f b ro e h) := by cases ro <;> rfl
  rw [this]
@[congr] theorem condC_congr {v v' : V} {a b : Res} (hv : v = v') : condC v a b = condC v' a b := by rw [hv]
@[simp] theorem W_region {id : Nat} {ops : Array Oper} : @Wk _ (denC P C callF n f (.region id ops false) false e h) Q ↔
    W (runOps P C callF f ops h.next ops.toList 0 e ⟨h.blk, h.next + ops.size⟩) (fun p => Q.run (.normal, p.1, p.2)) := by
  show @Wk _ (match runOps P C callF f ops h.next ops.toList 0 e ⟨h.blk, h.next + ops.size⟩ with
    | some (e', h') => some (Ex.normal, e', h')
    | none => none) Q ↔ _
  cases runOps P C callF f ops h.next ops.toList 0 e ⟨h.blk, h.next + ops.size⟩ with
  | none => simp
  | some p => simp
@[simp] theorem W_regionF {id : Nat} {ops : Array Oper} : @Wk _ (denC P C callF n f (.region id ops true) false e h) Q ↔
    W (runOpsF P C callF f ops h.next ops.toList 0 e ⟨h.blk, h.next + ops.size⟩) (fun p => tGo ops p.1 0 [] = true ∧ Q.run (.normal, p.2.1, p.2.2)) := by
  show @Wk _ (match runOpsF P C callF f ops h.next ops.toList 0 e ⟨h.blk, h.next + ops.size⟩ with
    | some (fps, e', h') => if touchOk (predsOf ops) fps then some (Ex.normal, e', h') else none
    | none => none) Q ↔ _
  cases runOpsF P C callF f ops h.next ops.toList 0 e ⟨h.blk, h.next + ops.size⟩ with
  | none => simp
  | some p =>
    simp only [W_k, W_some, ← touch_tGo]
    split <;> simp_all
@[simp] theorem W_regionR {id : Nat} {ops : Array Oper} {d : Bool} : @Wk _ (denC P C callF n f (.region id ops d) true e h) Q ↔
    W (runOpsF P C callF f ops h.next ops.toList 0 e ⟨h.blk, h.next + ops.size⟩) (fun p => roOk ops.toList p.1 = true ∧ (d = true → tGo ops p.1 0 [] = true) ∧ Q.run (.normal, p.2.1, p.2.2)) := by
  have : denC P C callF n f (.region id ops d) true e h = match runOpsF P C callF f ops h.next ops.toList 0 e ⟨h.blk, h.next + ops.size⟩ with
    | some (fps, e', h') => if roOk ops.toList fps = true ∧ (d = true → touchOk (predsOf ops) fps = true) then some (Ex.normal, e', h') else none
    | none => none := by cases d <;> rfl
  rw [this]
  cases runOpsF P C callF f ops h.next ops.toList 0 e ⟨h.blk, h.next + ops.size⟩ with
  | none => simp
  | some p =>
    simp only [W_k, W_some, ← touch_tGo]
    split
    · rename_i hc
      simp only [W_some]
      exact ⟨fun hq => ⟨hc.1, hc.2, hq⟩, fun hq => hq.2.2⟩
    · rename_i hc
      simp only [W_none]
      exact ⟨fun hq => hq.elim, fun hq => (hc ⟨hq.1, hq.2.1⟩).elim⟩
@[simp] theorem W_runOps_nil {all : Array Oper} {base i : Nat} {R : Kont (Env × Heap)} : @Wk _ (runOps P C callF f all base [] i e h) R ↔ R.run (e, h) := by simp [runOps]
/-- an operation that is always carried out -/
@[simp] theorem W_runOps_cons {all : Array Oper} {base i : Nat} {dst : Option Nat} {op : Op} {type : TypeId} {pos : String} {after : Array Edge} {os : List Oper} {R : Kont (Env × Heap)} :
    @Wk _ (runOps P C callF f all base (⟨dst, op, type, pos, after, none⟩ :: os) i e h) R ↔
    W (stepC P C callF f ⟨dst, op, type, pos, after, none⟩ e (base + i) h) (fun p => @Wk _ (runOps P C callF f all base os (i + 1) (e.put dst p.1) p.2) R) := by
  simp only [runOps, wantedV]
  cases stepC P C callF f ⟨dst, op, type, pos, after, none⟩ e (base + i) h <;> simp
def boolOf : V → Option Bool
  | .d (.bool b) => some b
  | _ => none
@[simp] theorem boolOf_bool {b : Bool} : boolOf (.d (.bool b)) = some b := rfl
theorem boolOf_some {v : V} {b : Bool} (h : boolOf v = some b) : v = .d (.bool b) := by
  unfold boolOf at h; split at h <;> simp_all
theorem put_id {s : Nat} {v : V} (h : e s = v) : e.put (some s) v = e := by
  funext t; simp only [Env.put]; split
  · rename_i ht; rw [ht, h]
  · rfl
class CaseK (α : Type) where
  f : α → Prop
  B : Prop
def gcaseK (v : V) [K : CaseK Bool] : Prop := match v with
  | .d (.bool b) => K.f b
  | .unk => False
  | _ => K.B
@[reducible] def gcase (v : V) (f : Bool → Prop) (B : Prop) : Prop := @gcaseK v ⟨f, B⟩
@[simp ↓] theorem gcase_k {v : V} {f : Bool → Prop} {B : Prop} : gcase v f B = @gcaseK v ⟨f, B⟩ := rfl
@[simp ↓] theorem gcase_bool {b : Bool} {K : CaseK Bool} : @gcaseK (.d (.bool b)) K = K.f b := rfl
@[simp] theorem gcase_undef {K : CaseK Bool} : @gcaseK (.d (.tuple [])) K = K.B := rfl
@[simp high] theorem gcase_bool' {b : Bool} {K : CaseK Bool} : @gcaseK (.d (.bool b)) K = K.f b := rfl
def ocaseK (x : Option Nat) [K : CaseK Nat] : Prop := match x with
  | some s => K.f s
  | none => K.B
@[reducible] def ocase (x : Option Nat) (f : Nat → Prop) (B : Prop) : Prop := @ocaseK x ⟨f, B⟩
@[simp ↓] theorem ocase_k {x : Option Nat} {f : Nat → Prop} {B : Prop} : ocase x f B = @ocaseK x ⟨f, B⟩ := rfl
@[simp ↓] theorem ocase_some {s : Nat} {K : CaseK Nat} : @ocaseK (some s) K = K.f s := rfl
@[simp high] theorem ocase_some' {s : Nat} {K : CaseK Nat} : @ocaseK (some s) K = K.f s := rfl
theorem gd_wanted (v : V) (w : Bool) {α : Type} (X : Option α) (Y : Option α) (Q : Kont α) : @Wk _ (match (match v with | .d (.bool b) => some (b == w) | .unk => none | _ => some false) with
    | none => none
    | some false => Y
    | some true => X) Q ↔ gcase v (fun b => both (b == w) (@Wk _ X Q) (@Wk _ Y Q)) (@Wk _ Y Q) := by
  cases v with
  | d x =>
    cases x with
    | bool b => cases b <;> cases w <;> simp [gcase, gcaseK]
    | _ => simp [gcase, gcaseK]
  | _ => simp [gcase, gcaseK]
/-- an operation behind a guard: either way the guard is known from here on -/
@[simp] theorem W_runOps_guard {all : Array Oper} {base i j : Nat} {w : Bool} {dst : Option Nat} {op : Op} {type : TypeId} {pos : String} {after : Array Edge} {os : List Oper} {R : Kont (Env × Heap)} :
    @Wk _ (runOps P C callF f all base (⟨dst, op, type, pos, after, some (j, w)⟩ :: os) i e h) R ↔
    ocase ((all[j]?).bind (·.dst)) (fun s => gcase (e s) (fun b => both (b == w) (W (stepC P C callF f ⟨dst, op, type, pos, after, none⟩ (e.put (some s) (.d (.bool w))) (base + i) h) (fun p => @Wk _ (runOps P C callF f all base os (i + 1) ((e.put (some s) (.d (.bool w))).put dst p.1) p.2) R))
      (@Wk _ (runOps P C callF f all base os (i + 1) ((e.put (some s) (.d (.bool !w))).put dst undefV) h) R)) (@Wk _ (runOps P C callF f all base os (i + 1) (e.put dst undefV) h) R)) (@Wk _ (runOps P C callF f all base os (i + 1) (e.put dst undefV) h) R) := by
  have hs : stepC P C callF f ⟨dst, op, type, pos, after, some (j, w)⟩ e (base + i) h = stepC P C callF f ⟨dst, op, type, pos, after, none⟩ e (base + i) h := by unfold stepC; rfl
  simp only [runOps, wantedV]
  cases hj : (all[j]?).bind (·.dst) with
  | none => rfl
  | some s =>
    simp only [ocase, ocase_some]
    rw [hs]
    have := gd_wanted (e s) w (match stepC P C callF f ⟨dst, op, type, pos, after, none⟩ e (base + i) h with
      | none => none
      | some (v, h') => runOps P C callF f all base os (i + 1) (e.put dst v) h') (runOps P C callF f all base os (i + 1) (e.put dst undefV) h) R
    refine this.trans ?_
    unfold gcase gcaseK
    split
    · rename_i b hb
      have e1 : b = w → e.put (some s) (.d (.bool w)) = e := fun h => put_id (by rw [← h]; exact hb)
      have e2 : b = (!w) → e.put (some s) (.d (.bool !w)) = e := fun h => put_id (by rw [← h]; exact hb)
      simp only []
      by_cases hbw : b = w
      · rw [show (b == w) = true from by simp [hbw]]; simp only [both, both_true]; rw [e1 hbw]
        cases stepC P C callF f ⟨dst, op, type, pos, after, none⟩ e (base + i) _ <;> simp
      · rw [show (b == w) = false from by simp [hbw]]; simp only [both, both_false]; rw [e2 (by cases b <;> cases w <;> simp_all)]
    · rfl
    · rfl
@[simp] theorem W_runOpsF_nil {all : Array Oper} {base i : Nat} {R : Kont (List Fp × Env × Heap)} : @Wk _ (runOpsF P C callF f all base [] i e h) R ↔ R.run ([], e, h) := by simp [runOpsF]
@[simp] theorem W_runOpsF_cons {all : Array Oper} {base i : Nat} {dst : Option Nat} {op : Op} {type : TypeId} {pos : String} {after : Array Edge} {os : List Oper} {R : Kont (List Fp × Env × Heap)} :
    @Wk _ (runOpsF P C callF f all base (⟨dst, op, type, pos, after, none⟩ :: os) i e h) R ↔
    W (stepC P C callF f ⟨dst, op, type, pos, after, none⟩ e (base + i) h) (fun p => W (runOpsF P C callF f all base os (i + 1) (e.put dst p.1) p.2) (fun r => R.run (footC C ⟨dst, op, type, pos, after, none⟩ e (base + i) :: r.1, r.2))) := by
  simp only [runOpsF, wantedV]
  cases stepC P C callF f ⟨dst, op, type, pos, after, none⟩ e (base + i) h <;> simp
@[simp] theorem W_runOpsF_guard {all : Array Oper} {base i j : Nat} {w : Bool} {dst : Option Nat} {op : Op} {type : TypeId} {pos : String} {after : Array Edge} {os : List Oper} {R : Kont (List Fp × Env × Heap)} :
    @Wk _ (runOpsF P C callF f all base (⟨dst, op, type, pos, after, some (j, w)⟩ :: os) i e h) R ↔
    ocase ((all[j]?).bind (·.dst)) (fun s => gcase (e s) (fun b => both (b == w) (W (stepC P C callF f ⟨dst, op, type, pos, after, none⟩ (e.put (some s) (.d (.bool w))) (base + i) h) (fun p => W (runOpsF P C callF f all base os (i + 1) ((e.put (some s) (.d (.bool w))).put dst p.1) p.2)
        (fun r => R.run (footC C ⟨dst, op, type, pos, after, none⟩ (e.put (some s) (.d (.bool w))) (base + i) :: r.1, r.2))))
      (W (runOpsF P C callF f all base os (i + 1) ((e.put (some s) (.d (.bool !w))).put dst undefV) h) (fun r => R.run (Fp.none :: r.1, r.2))))
      (W (runOpsF P C callF f all base os (i + 1) (e.put dst undefV) h) (fun r => R.run (Fp.none :: r.1, r.2)))) (W (runOpsF P C callF f all base os (i + 1) (e.put dst undefV) h) (fun r => R.run (Fp.none :: r.1, r.2))) := by
  have hs : stepC P C callF f ⟨dst, op, type, pos, after, some (j, w)⟩ e (base + i) h = stepC P C callF f ⟨dst, op, type, pos, after, none⟩ e (base + i) h := by unfold stepC; rfl
  have hf : footC C ⟨dst, op, type, pos, after, some (j, w)⟩ e (base + i) = footC C ⟨dst, op, type, pos, after, none⟩ e (base + i) := by unfold footC; rfl
  simp only [runOpsF, wantedV]
  cases hj : (all[j]?).bind (·.dst) with
  | none => simp only [W_k, W_map, ocase, ocaseK]
  | some s =>
    simp only [ocase, ocase_some]
    rw [hs, hf]
    have := gd_wanted (e s) w (match stepC P C callF f ⟨dst, op, type, pos, after, none⟩ e (base + i) h with
      | none => none
      | some (v, h') => (runOpsF P C callF f all base os (i + 1) (e.put dst v) h').map fun r => (footC C ⟨dst, op, type, pos, after, none⟩ e (base + i) :: r.1, r.2))
        ((runOpsF P C callF f all base os (i + 1) (e.put dst undefV) h).map fun r => (Fp.none :: r.1, r.2)) R
    refine this.trans ?_
    unfold gcase gcaseK
    split
    · rename_i b hb
      have e1 : b = w → e.put (some s) (.d (.bool w)) = e := fun h => put_id (by rw [← h]; exact hb)
      have e2 : b = (!w) → e.put (some s) (.d (.bool !w)) = e := fun h => put_id (by rw [← h]; exact hb)
      simp only []
      by_cases hbw : b = w
      · rw [show (b == w) = true from by simp [hbw]]; simp only [both, both_true]; rw [e1 hbw]
        cases stepC P C callF f ⟨dst, op, type, pos, after, none⟩ e (base + i) _ <;> simp
      · rw [show (b == w) = false from by simp [hbw]]; simp only [both, both_false]; rw [e2 (by cases b <;> cases w <;> simp_all)]; simp
    · rfl
    · simp
@[simp] theorem put_none {v : V} : e.put none v = e := rfl
@[simp] theorem put_some {s t : Nat} {v : V} : e.put (some s) v t = if t = s then v else e t := rfl
@[simp] theorem evO_tmp {gl : Nat → V} {t : Nat} : evO gl e (.tmp t) = e t := rfl
@[simp] theorem evO_func {gl : Nat → V} {g : FuncId} : evO gl e (.func g) = .d (.fn g [] []) := rfl
@[simp] theorem evO_int {gl : Nat → V} {k : IntKind} {m : Int} : evO gl e (.const (.int k m)) = .d (.int k m) := rfl
@[simp] theorem evO_bool {gl : Nat → V} {b : Bool} : evO gl e (.const (.bool b)) = .d (.bool b) := rfl
@[simp] theorem evO_str {gl : Nat → V} {s : ByteArray} : evO gl e (.const (.string s)) = .d (.str s) := rfl
@[simp] theorem evO_nilp {gl : Nat → V} : evO gl e (.const (.pointer none)) = .d .nilp := rfl
@[simp] theorem evO_nils {gl : Nat → V} : evO gl e (.const (.slice none 0 0)) = .nils := rfl
@[simp] theorem evO_nilm {gl : Nat → V} : evO gl e (.const (.map none)) = .d .nilm := rfl
@[simp] theorem evO_nilf {gl : Nat → V} : evO gl e (.const .nilFunc) = .d .nilf := rfl
@[simp] theorem evO_nili {gl : Nat → V} : evO gl e (.const .nilIface) = .d .nili := rfl
@[simp] theorem evO_tup {gl : Nat → V} : evO gl e (.const (.tuple #[])) = .d (.tuple []) := rfl
@[simp] theorem evO_glob {gl : Nat → V} {g : Nat} : evO gl e (.global g) = gl g := rfl
end
attribute [simp] stepC stepV muO allocV boxV loadV storeV fieldAddrV V.cells V.scalar D.scalar Heap.upd mkAgg allD' mkTuple intOpD isConstO partV fieldV extractV undefV
  indexA indexStr sliceV boundO cutRows appendV newsOf headLen bsliceV chunk msliceV buildV convX convV convB mkIface mkFn lookRes rowsBytes
  partsOf fillV spliceAt V.toD plainL allD targetV calleeV resV resultV indexAddrS indexAddrA rowsOf nilCheckV builtinV lenV isSliceV argEnv

@[simp] theorem binV_int {P : Program} {c : Bool} {op : BinOp} {t : TypeId} {k k' : IntKind} {a b : Int} : binV P c op t (.d (.int k a)) (.d (.int k' b)) = (intOpD op k k' a b).map .d := rfl
@[simp] theorem binV_str {P : Program} {c : Bool} {op : BinOp} {t : TypeId} {a b : ByteArray} : binV P c op t (.d (.str a)) (.d (.str b)) = (strOpD op a b).map .d := rfl
@[simp] theorem binV_bool {P : Program} {c : Bool} {op : BinOp} {t : TypeId} {a b : Bool} : binV P c op t (.d (.bool a)) (.d (.bool b)) = eqOpV P c op t (.d (.bool a)) (.d (.bool b)) := rfl
@[simp] theorem binV_agg {P : Program} {c : Bool} {op : BinOp} {t : TypeId} {a b : List D} : binV P c op t (.d (.agg a)) (.d (.agg b)) = eqOpV P c op t (.d (.agg a)) (.d (.agg b)) := rfl
@[simp] theorem binV_iface {P : Program} {c : Bool} {op : BinOp} {t u : TypeId} {x : D} {y : V} : binV P c op t (.d (.iface u x)) y = eqOpV P c op t (.d (.iface u x)) y := rfl
@[simp] theorem binV_nili {P : Program} {c : Bool} {op : BinOp} {t : TypeId} {y : V} : binV P c op t (.d .nili) y = eqOpV P c op t (.d .nili) y := rfl
@[simp] theorem binV_ptr {P : Program} {c : Bool} {op : BinOp} {t : TypeId} {r : List D} {o : Nat} {y : V} : binV P c op t (.d (.ptr r o)) y = eqOpV P c op t (.d (.ptr r o)) y := rfl
@[simp] theorem binV_nilp {P : Program} {c : Bool} {op : BinOp} {t : TypeId} {y : V} : binV P c op t (.d .nilp) y = eqOpV P c op t (.d .nilp) y := rfl
@[simp] theorem binV_ref {P : Program} {c : Bool} {op : BinOp} {t : TypeId} {b o : Nat} {y : V} : binV P c op t (.ref b o) y = eqOpV P c op t (.ref b o) y := rfl
@[simp] theorem unV_bool {b : Bool} : unV .not (.d (.bool b)) = some (.d (.bool !b)) := rfl
@[simp] theorem unV_neg {k : IntKind} {n : Int} : unV .neg (.d (.int k n)) = some (.d (.int k (k.wrap (0 - n)))) := rfl
attribute [simp] intArithD
theorem str_eq (a b : ByteArray) : (a.toList == b.toList) = decide (a = b) := by
  rw [ByteArray.toList_eq, ByteArray.toList_eq]
  by_cases h : a = b
  · simp [h]
  · have : a.data.toList ≠ b.data.toList := fun e => h (ByteArray.ext (Array.ext' e))
    rw [decide_eq_false h, beq_eq_false_iff_ne]; exact this
@[simp] theorem strOp_eql {a b : ByteArray} : strOpD .eql a b = some (.bool (decide (a = b))) := by simp only [strOpD, str_eq]
@[simp] theorem strOp_neq {a b : ByteArray} : strOpD .neq a b = some (.bool !(decide (a = b))) := by simp only [strOpD, str_eq]
/-- a loop, by what holds ahead of each round -/
theorem W_iterC {σ : Type} {body : Env → Heap → Res} {Q : Ex × Env × Heap → Prop} (I : σ → Env → Heap → Prop) (m : σ → Nat) :
    ∀ (n : Nat) (s : σ) (e : Env) (h : Heap), m s < n → I s e h →
      (∀ s e h, I s e h → W (body e h) (fun r => match r with
        | (.normal, e', h') => ∃ s', m s' < m s ∧ I s' e' h'
        | r => Q r)) → W (iterC body n e h) Q
  | 0, s, e, h, hm, _, _ => absurd hm (Nat.not_lt_zero _)
  | n + 1, s, e, h, hm, hi, hb => by
    obtain ⟨⟨x, e', h'⟩, h1, h2⟩ := hb s e h hi
    unfold iterC
    rw [h1]
    cases x with
    | normal =>
      obtain ⟨s', hs, hi'⟩ := h2
      exact W_iterC I m n s' e' h' (by omega) hi' hb
    | exit i => exact ⟨_, rfl, h2⟩
    | ret => exact ⟨_, rfl, h2⟩
theorem W_loop {P : Program} {C : Cfg} {callF : CallF} {n : Nat} {f : FuncId} {e : Env} {h : Heap} {Q : Ex × Env × Heap → Prop} {c : Code} (hl : mapLoop? c = none) {σ : Type} (I : σ → Env → Heap → Prop) (m : σ → Nat) (s : σ)
    (hm : m s < n) (hi : I s e h) (hb : ∀ s e h, I s e h → W (denC P C callF n f c false e h) (fun r => match r with
        | (.normal, e', h') => ∃ s', m s' < m s ∧ I s' e' h'
        | r => Q r)) : W (denC P C callF n f (.loop c) false e h) Q := by
  show W (match false, mapLoop? c with
    | false, some L => mapC (denC P C callF n f c true) L (dstsC c) e h
    | _, none => iterC (denC P C callF n f c false) n e h
    | true, some _ => none) Q
  rw [hl]
  exact W_iterC I m n s e h hm hi hb
@[simp] theorem empty_next : Heap.empty.next = 0 := rfl
@[simp] theorem empty_blk {b : Nat} : Heap.empty.blk b = .dead := rfl
attribute [simp] tGo compat noCommon footC footV fpR fpW fpRM fpWM fpApp apartC
attribute [simp] roOk roFp
theorem W_loopR {P : Program} {C : Cfg} {callF : CallF} {n : Nat} {f : FuncId} {e : Env} {h : Heap} {Q : Ex × Env × Heap → Prop} {c : Code} (hl : mapLoop? c = none) {σ : Type} (I : σ → Env → Heap → Prop) (m : σ → Nat) (s : σ)
    (hm : m s < n) (hi : I s e h) (hb : ∀ s e h, I s e h → W (denC P C callF n f c true e h) (fun r => match r with
        | (.normal, e', h') => ∃ s', m s' < m s ∧ I s' e' h'
        | r => Q r)) : W (denC P C callF n f (.loop c) true e h) Q := by
  show W (match true, mapLoop? c with
    | false, some L => mapC (denC P C callF n f c true) L (dstsC c) e h
    | _, none => iterC (denC P C callF n f c true) n e h
    | true, some _ => none) Q
  rw [hl]
  exact W_iterC I m n s e h hm hi hb
/-- rounds of a loop over a map: they go on, or they all leave alike -/
theorem meetR_spec {l : List Nat} {K : List (Nat × V)} (hK : ∀ p ∈ K, likeV p.2 p.2 = true ∧ ∀ v, likeV p.2 v = true → v = p.2) {x : Ex} (hx : x ≠ .normal) : ∀ {rs : List Res},
    (∀ r ∈ rs, (∃ e h, r = some (.normal, e, h)) ∨ ∃ e h, r = some (x, e, h) ∧ ∀ p ∈ K, e p.1 = p.2) →
    (meetR l rs = some none ∧ ∀ r ∈ rs, ∃ e h, r = some (.normal, e, h)) ∨ ∃ e', meetR l rs = some (some (x, e')) ∧ (∀ p ∈ K, e' p.1 = p.2) ∧ ∃ r ∈ rs, ∃ e h, r = some (x, e, h)
  | [], _ => .inl ⟨rfl, by simp⟩
  | r :: rs, hr => by
    have ih := meetR_spec (l := l) hK hx (rs := rs) (fun r hm => hr r (List.mem_cons_of_mem _ hm))
    rcases hr r (List.mem_cons_self ..) with ⟨e, h, rfl⟩ | ⟨e, h, rfl, he⟩
    · rcases ih with ⟨h1, h2⟩ | ⟨e', h1, h2, r, h3, h4⟩
      · exact .inl ⟨by simp only [meetR]; exact h1, by simpa using h2⟩
      · exact .inr ⟨e', by simp only [meetR]; exact h1, h2, r, List.mem_cons_of_mem _ h3, h4⟩
    · right
      rcases ih with ⟨h1, h2⟩ | ⟨e', h1, h2, r, h3, h4⟩
      · refine ⟨meetE l e e, ?_, fun p hp => ?_, _, List.mem_cons_self .., e, h, rfl⟩
        · cases x <;> first | exact absurd rfl hx | simp [meetR, h1]
        · unfold meetE; rw [he p hp]; simp [(hK p hp).1]
      · refine ⟨meetE l e e', ?_, fun p hp => ?_, _, List.mem_cons_self .., e, h, rfl⟩
        · cases x <;> first | exact absurd rfl hx | simp [meetR, h1]
        · unfold meetE; rw [he p hp, h2 p hp]; simp [(hK p hp).1]
theorem W_mapLoop {P : Program} {C : Cfg} {callF : CallF} {n : Nat} {f : FuncId} {e : Env} {h : Heap} {Q : Ex × Env × Heap → Prop} {c : Code} {L : MapLoop} (hL : mapLoop? c = some L)
    {b : Nat} {m : V} {ks : List D} {vs : List V} (hit : e L.it = .ref b 0) (hb : h.blk b = .mfresh m ks.length) (hm : mapOf m h = some (ks, vs)) (hlen : vs.length = ks.length) (hc : (dstsC c).contains L.it = false)
    {K : List (Nat × V)} (hK : ∀ p ∈ K, likeV p.2 p.2 = true ∧ ∀ v, likeV p.2 v = true → v = p.2) (Go : Nat → Prop)
    (hround : ∀ j, j < ks.length → W (denC P C callF n f c true ((forget (dstsC c) e).put (some L.it) (.ref h.next 0)) ⟨((h.upd b .dead).upd h.next (.mpend m ks.length j)).blk, h.next + 1⟩) (fun r => match r with
      | (.normal, _, _) => Go j
      | (.ret, e', _) => ¬ Go j ∧ ∀ p ∈ K, e' p.1 = p.2
      | _ => False))
    (hall : (∀ j, j < ks.length → Go j) → Q (.exit L.out, forget (dstsC c) e, h.upd b .dead))
    (hsome : ∀ e' : Env, (∃ j, j < ks.length ∧ ¬ Go j) → (∀ p ∈ K, (dstsC c).contains p.1 = true → e' p.1 = p.2) → (∀ t, (dstsC c).contains t = false → e' t = e t) → Q (.ret, e', h.upd b .dead)) :
    W (denC P C callF n f (.loop c) false e h) Q := by
  show W (match false, mapLoop? c with
    | false, some L => mapC (denC P C callF n f c true) L (dstsC c) e h
    | _, none => iterC (denC P C callF n f c false) n e h
    | true, some _ => none) Q
  rw [hL]
  show W (mapC (denC P C callF n f c true) L (dstsC c) e h) Q
  unfold mapC
  rw [hit]
  simp only [hb, hm, hlen, hc, and_self, if_true]
  have hspec := meetR_spec (l := dstsC c) hK (x := .ret) (by decide) (rs := (List.range ks.length).map fun j => denC P C callF n f c true ((forget (dstsC c) e).put (some L.it) (.ref h.next 0)) ⟨((h.upd b .dead).upd h.next (.mpend m ks.length j)).blk, h.next + 1⟩) (fun r hr => by
    obtain ⟨j, hj, rfl⟩ := List.mem_map.1 hr
    obtain ⟨⟨x, e', h'⟩, h1, h2⟩ := hround j (List.mem_range.1 hj)
    cases x with
    | normal => exact .inl ⟨e', h', h1⟩
    | ret => exact .inr ⟨e', h', h1, h2.2⟩
    | exit i => exact h2.elim)
  rcases hspec with ⟨h1, h2⟩ | ⟨e', h1, h2, r, h3, e1, h4, h5⟩
  · rw [h1]
    refine ⟨_, rfl, hall fun j hj => ?_⟩
    obtain ⟨e1, h3, h4⟩ := h2 _ (List.mem_map.2 ⟨j, List.mem_range.2 hj, rfl⟩)
    obtain ⟨r, h5, h6⟩ := hround j hj
    rw [h4] at h5; cases h5; exact h6
  · rw [h1]
    obtain ⟨j, hj, rfl⟩ := List.mem_map.1 h3
    obtain ⟨r, h6, h7⟩ := hround j (List.mem_range.1 hj)
    rw [h5] at h6; cases h6
    refine ⟨_, rfl, hsome _ ⟨j, List.mem_range.1 hj, h7.1⟩ (fun p hp hcon => ?_) (fun t ht => ?_)⟩
    · show (if (dstsC c).contains p.1 = true then e' p.1 else e p.1) = p.2
      rw [if_pos hcon]; exact h2 p hp
    · show (if (dstsC c).contains t = true then e' t else e t) = e t
      rw [if_neg (by rw [ht]; decide)]
/-- a loop taken round by round -/
def nextI (body : Env → Heap → Res) (n : Nat) (Q : Kont (Ex × Env × Heap)) : Ex × Env × Heap → Prop
  | (.normal, e', h') => @Wk _ (iterC body n e' h') Q
  | r => Q.run r
@[simp] theorem nextI_normal {body : Env → Heap → Res} {n : Nat} {Q : Kont (Ex × Env × Heap)} {e : Env} {h : Heap} : nextI body n Q (.normal, e, h) = @Wk _ (iterC body n e h) Q := rfl
@[simp] theorem nextI_ret {body : Env → Heap → Res} {n : Nat} {Q : Kont (Ex × Env × Heap)} {e : Env} {h : Heap} : nextI body n Q (.ret, e, h) = Q.run (.ret, e, h) := rfl
@[simp] theorem nextI_exit {body : Env → Heap → Res} {n i : Nat} {Q : Kont (Ex × Env × Heap)} {e : Env} {h : Heap} : nextI body n Q (.exit i, e, h) = Q.run (.exit i, e, h) := rfl
theorem W_iter_succ {body : Env → Heap → Res} {n : Nat} {Q : Kont (Ex × Env × Heap)} {e : Env} {h : Heap} : @Wk _ (iterC body (n + 1) e h) Q ↔ W (body e h) (nextI body n Q) := by
  simp only [iterC]
  cases body e h with
  | none => simp
  | some r =>
    obtain ⟨x, e, h⟩ := r
    cases x <;> simp
theorem W_loop_iter {P : Program} {C : Cfg} {callF : CallF} {n : Nat} {f : FuncId} {e : Env} {h : Heap} {Q : Kont (Ex × Env × Heap)} {c : Code} (hl : mapLoop? c = none) : @Wk _ (denC P C callF n f (.loop c) false e h) Q ↔ @Wk _ (iterC (denC P C callF n f c false) n e h) Q := by
  show @Wk _ (match false, mapLoop? c with
    | false, some L => mapC (denC P C callF n f c true) L (dstsC c) e h
    | _, none => iterC (denC P C callF n f c false) n e h
    | true, some _ => none) Q ↔ _
  rw [hl]
@[simp] theorem fold_min {k k' : IntKind} {x y : Int} : foldD min2D [.d (.int k x), .d (.int k' y)] = some (.d (.int k (min x y))) := by
  simp only [foldD, stepD, min2D, List.foldlM, Int.min_def]
  by_cases h : y < x
  · have : ¬ x ≤ y := by omega
    simp [h, this]
  · have : x ≤ y := by omega
    simp [h, this]
@[simp] theorem fold_max {k k' : IntKind} {x y : Int} : foldD max2D [.d (.int k x), .d (.int k' y)] = some (.d (.int k (max x y))) := by
  simp only [foldD, stepD, max2D, List.foldlM, Int.max_def]
  by_cases h : y > x
  · have : x ≤ y := by omega
    simp [h, this]
  · by_cases h2 : x ≤ y
    · obtain rfl : x = y := by omega
      simp
    · simp [h, h2]
/-- what is asked behind a body's code -/
def PostB (P : Program) (rs : List ResultVar) (Q : V × Heap → Prop) : Ex × Env × Heap → Prop
  | (.exit _, _, _) => False
  | (_, e, h) => W (resultV P e h rs) (fun v => Q (v, h))
@[simp] theorem PostB_normal {P : Program} {rs : List ResultVar} {Q : V × Heap → Prop} {e : Env} {h : Heap} : PostB P rs Q (.normal, e, h) ↔ W (resultV P e h rs) (fun v => Q (v, h)) := Iff.rfl
@[simp] theorem PostB_ret {P : Program} {rs : List ResultVar} {Q : V × Heap → Prop} {e : Env} {h : Heap} : PostB P rs Q (.ret, e, h) ↔ W (resultV P e h rs) (fun v => Q (v, h)) := Iff.rfl
theorem W_body {P : Program} {C : Cfg} {callF : CallF} {n : Nat} {f : FuncId} {fn : Func} {c : Code} {vs : List V} {h : Heap} {Q : V × Heap → Prop} (hf : C.fns f = some fn) (hb : fn.body = some c) (hv : vs.length ≤ fn.ntmps)
    (hw : W (denC P C callF n f c false (argEnv vs) h) (PostB P fn.results.toList Q)) : W (bodyC P C callF n f vs h) Q := by
  unfold bodyC
  rw [hf]
  simp only [hb, if_pos hv]
  obtain ⟨⟨x, e, h'⟩, h1, h2⟩ := hw
  rw [h1]
  cases x with
  | exit i => exact h2.elim
  | normal => simp only [PostB] at h2; simpa using h2
  | ret => simp only [PostB] at h2; simpa using h2
section
variable {h : Heap} {k : Nat}
@[simp] theorem freeze_d {x : D} : freezeV h (k + 1) (.d x) = some x := by simp [freezeV]
@[simp] theorem freeze_nils : freezeV h (k + 1) .nils = some (.list []) := by simp [freezeV]
@[simp] theorem freeze_own {t : Nat} {rows : List (List D)} : freezeV h (k + 1) (.own t rows) = some (.list rows) := by simp [freezeV]
@[simp] theorem freeze_agg {vs : List V} : freezeV h (k + 1) (.agg vs) = (vs.mapM (freezeV h k)).map .agg := by simp [freezeV]
@[simp] theorem freeze_tuple {vs : List V} : freezeV h (k + 1) (.tuple vs) = (vs.mapM (freezeV h k)).map .tuple := by simp [freezeV]
theorem freeze_ref {b off : Nat} {vs : List V} (hb : h.blk b = .cells vs) : freezeV h (k + 1) (.ref b off) = (vs.mapM (freezeV h k)).map (.ptr · off) := by simp [freezeV, hb]
theorem freeze_mref {b : Nat} {ks : List D} {vs : List V} (hb : h.blk b = .map ks vs) (hl : ks.length = vs.length) : freezeV h (k + 1) (.mref b) = (vs.mapM (freezeV h k)).map (.map ks ·) := by simp [freezeV, hb, hl]
end
theorem pick_prim {C : Cfg} {ic : CallF} {k : Nat} {g : FuncId} {gf : List D → Option D} {vs : List V} {h : Heap} (hp : C.primF g = some gf) :
    pickC C ic k (.fn g) vs h = (allD vs).bind fun ds => (gf ds).map fun d => (.d d, h) := by
  simp only [pickC, hp]
  cases allD vs <;> rfl
theorem pcall_of {P : Program} {C : Cfg} {k : Nat} {f : FuncId} {ds : List D} {d : D}
    (hw : W (bodyC P C (pickC C (icall P C k) k) k f (ds.map .d) Heap.empty) (fun r => freezeV r.2 (k + 1) r.1 = some d)) : pcall P C (k + 1) f ds = some d := by
  obtain ⟨⟨v, h⟩, h1, h2⟩ := hw
  unfold pcall
  rw [show icall P C (k + 1) (.fn f) (ds.map .d) Heap.empty = some (v, h) from h1]
  exact h2
end Go.AM
end
section
namespace Go.AM
open Go
set_option linter.unusedVariables false

abbrev Str := ByteArray
abbrev w64 (n : Int) : Int := IntKind.i64.wrap n
abbrev I (n : Int) : D := .int .i64 n
@[simp] theorem str_beq (a b : ByteArray) : (a == b) = decide (a = b) := by
  cases a with | mk x => cases b with | mk y =>
  show (x == y) = _
  by_cases h : x = y
  · simp [h]
  · have : ByteArray.mk x ≠ ByteArray.mk y := fun e => h (by injection e)
    rw [decide_eq_false this, beq_eq_false_iff_ne]; exact h

@[simp] theorem int_beq (a b : Int) : (a == b) = decide (a = b) := rfl
@[simp] theorem int_bne (a b : Int) : (a != b) = !decide (a = b) := rfl
class Row (α : Type) where
  row : α → List D
  ofRow : List D → Option α
  sound : ∀ ds x, ofRow ds = some x → ds = row x
  back : ∀ x, ofRow (row x) = some x
class Enc (α : Type) where
  enc : α → D
  dec : D → Option α
  sound : ∀ d x, dec d = some x → d = enc x
  back : ∀ x, dec (enc x) = some x
open Enc (enc dec)
open Row (row ofRow)
attribute [simp] Enc.back Row.back

def decInt : D → Option Int
  | .int .i64 n => some n
  | _ => none
instance : Enc Int := ⟨fun n => .int .i64 n, decInt, fun d x h => by
  unfold decInt at h; split at h <;> simp_all, fun x => rfl⟩
def decBool : D → Option Bool
  | .bool n => some n
  | _ => none
instance : Enc Bool := ⟨.bool, decBool, fun d x h => by unfold decBool at h; split at h <;> simp_all, fun x => rfl⟩
def decStr : D → Option ByteArray
  | .str n => some n
  | _ => none
instance : Enc ByteArray := ⟨.str, decStr, fun d x h => by unfold decStr at h; split at h <;> simp_all, fun x => rfl⟩
@[simp] theorem enc_int (n : Int) : enc n = I n := rfl
@[simp] theorem enc_bool (n : Bool) : enc n = D.bool n := rfl
@[simp] theorem enc_str (n : ByteArray) : enc n = D.str n := rfl
@[simp] theorem dec_int (n : Int) : (dec (D.int .i64 n) : Option Int) = some n := rfl
@[simp] theorem dec_bool (n : Bool) : (dec (D.bool n) : Option Bool) = some n := rfl
@[simp] theorem dec_str (n : ByteArray) : (dec (D.str n) : Option ByteArray) = some n := rfl
/-- a byte -/
structure U8 where
  v : Int
  deriving DecidableEq
def decU8 : D → Option U8
  | .int .u8 n => some ⟨n⟩
  | _ => none
instance : Enc U8 := ⟨fun b => .int .u8 b.v, decU8, fun d x h => by unfold decU8 at h; split at h <;> simp_all; subst h; rfl, fun x => rfl⟩
@[simp] theorem enc_u8 (n : U8) : enc n = D.int .u8 n.v := rfl
@[simp] theorem dec_u8 (n : Int) : (dec (D.int .u8 n) : Option U8) = some ⟨n⟩ := rfl
/-- rows of one cell -/
def row1 {α : Type} [Enc α] (x : α) : List D := [enc x]
def ofRow1 {α : Type} [Enc α] : List D → Option α
  | [d] => dec d
  | _ => none
theorem row1_sound {α : Type} [Enc α] (ds : List D) (x : α) (h : ofRow1 ds = some x) : ds = row1 x := by
  unfold ofRow1 at h
  split at h
  · rw [row1, Enc.sound _ _ h]
  · cases h
instance : Row Int := ⟨row1, ofRow1, row1_sound, fun x => rfl⟩
instance : Row Bool := ⟨row1, ofRow1, row1_sound, fun x => rfl⟩
instance : Row ByteArray := ⟨row1, ofRow1, row1_sound, fun x => rfl⟩
@[simp] theorem row_int (n : Int) : row n = [I n] := rfl
@[simp] theorem row_bool (n : Bool) : row n = [D.bool n] := rfl
@[simp] theorem row_str (n : ByteArray) : row n = [D.str n] := rfl
@[simp] theorem ofRow_int (n : Int) : (ofRow [I n] : Option Int) = some n := rfl
@[simp] theorem ofRow_bool (n : Bool) : (ofRow [D.bool n] : Option Bool) = some n := rfl
@[simp] theorem ofRow_str (n : ByteArray) : (ofRow [D.str n] : Option ByteArray) = some n := rfl

/-! lists -/
def decRows {α : Type} [Row α] : List (List D) → Option (List α)
  | [] => some []
  | r :: rs => match ofRow r, decRows rs with
    | some x, some xs => some (x :: xs)
    | _, _ => none
@[simp] theorem decRows_nil {α : Type} [Row α] : decRows (α := α) [] = some [] := rfl
theorem decRows_sound {α : Type} [Row α] : ∀ (rs : List (List D)) (xs : List α), decRows rs = some xs → rs = xs.map row
  | [], xs, h => by simp at h; subst h; rfl
  | r :: rs, xs, h => by
    simp only [decRows] at h
    split at h
    · rename_i x ys h1 h2
      simp only [Option.some.injEq] at h
      subst h
      rw [Row.sound _ _ h1, decRows_sound rs ys h2]; rfl
    · cases h
@[simp] theorem decRows_map {α : Type} [Row α] : ∀ (xs : List α), decRows (xs.map row) = some xs
  | [] => rfl
  | x :: xs => by simp [decRows, decRows_map xs]
def decList {α : Type} [Row α] : D → Option (List α)
  | .list rows => decRows rows
  | _ => none
instance {α : Type} [Row α] : Enc (List α) := ⟨fun l => .list (l.map row), decList, (fun d x h => by
  unfold decList at h; split at h
  · rw [decRows_sound _ _ h]
  · cases h), fun x => by simp [decList]⟩
@[simp] theorem enc_list {α : Type} [Row α] (l : List α) : enc l = .list (l.map row) := rfl
@[simp] theorem dec_list {α : Type} [Row α] (rows : List (List D)) : (dec (D.list rows) : Option (List α)) = decRows rows := rfl
@[simp] theorem decRows_cons {α : Type} [Row α] (r : List D) (rs : List (List D)) : (decRows (r :: rs) : Option (List α)) = (ofRow r).bind fun x => (decRows rs).map fun xs => x :: xs := by
  simp only [decRows]
  cases ofRow (α := α) r <;> cases decRows (α := α) rs <;> rfl
instance {α : Type} [Row α] : Row (List α) := ⟨row1, ofRow1, row1_sound, fun x => by simp [row1, ofRow1]⟩
@[simp] theorem row_list {α : Type} [Row α] (l : List α) : row l = [D.list (l.map row)] := rfl
@[simp] theorem ofRow_list {α : Type} [Row α] (rows : List (List D)) : (ofRow [D.list rows] : Option (List α)) = decRows rows := rfl

/-! results of several values -/
def enc2 {α β : Type} [Enc α] [Enc β] (p : α × β) : D := .tuple [enc p.1, enc p.2]
def enc3 {α β γ : Type} [Enc α] [Enc β] [Enc γ] (p : α × β × γ) : D := .tuple [enc p.1, enc p.2.1, enc p.2.2]
attribute [simp] enc2 enc3

/-! functions -/
def p1 {α : Type} [Enc α] (g : α → Option D) : List D → Option D
  | [a] => (dec a).bind g
  | _ => none
def p2 {α β : Type} [Enc α] [Enc β] (g : α → β → Option D) : List D → Option D
  | [a, b] => (dec a).bind fun x => (dec b).bind (g x)
  | _ => none
def p3 {α β γ : Type} [Enc α] [Enc β] [Enc γ] (g : α → β → γ → Option D) : List D → Option D
  | [a, b, c] => (dec a).bind fun x => (dec b).bind fun y => (dec c).bind (g x y)
  | _ => none
def p4 {α β γ δ : Type} [Enc α] [Enc β] [Enc γ] [Enc δ] (g : α → β → γ → δ → Option D) : List D → Option D
  | [a, b, c, d] => (dec a).bind fun x => (dec b).bind fun y => (dec c).bind fun z => (dec d).bind (g x y z)
  | _ => none
@[simp] theorem p1_eq {α : Type} [Enc α] (g : α → Option D) (a : D) : p1 g [a] = (dec a).bind g := rfl
@[simp] theorem p2_eq {α β : Type} [Enc α] [Enc β] (g : α → β → Option D) (a b : D) : p2 g [a, b] = (dec a).bind fun x => (dec b).bind (g x) := rfl
@[simp] theorem p3_eq {α β γ : Type} [Enc α] [Enc β] [Enc γ] (g : α → β → γ → Option D) (a b c : D) : p3 g [a, b, c] = (dec a).bind fun x => (dec b).bind fun y => (dec c).bind (g x y) := rfl
@[simp] theorem p4_eq {α β γ δ : Type} [Enc α] [Enc β] [Enc γ] [Enc δ] (g : α → β → γ → δ → Option D) (a b c d : D) : p4 g [a, b, c, d] = (dec a).bind fun x => (dec b).bind fun y => (dec c).bind fun z => (dec d).bind (g x y z) := rfl
/-- a function answers as told -/
def Does (P : Program) (C : Cfg) (f : FuncId) (g : List D → Option D) : Prop := ∀ ds d, g ds = some d → ∃ k, pcall P C k f ds = some d
theorem Does.p1 {P : Program} {C : Cfg} {f : FuncId} {α : Type} [Enc α] {g : α → Option D} (h : ∀ x d, g x = some d → ∃ k, pcall P C k f [enc x] = some d) : Does P C f (p1 g) := by
  intro ds d hd
  unfold AM.p1 at hd
  split at hd
  · obtain ⟨x, h1, h2⟩ := Option.bind_eq_some_iff.1 hd
    rw [Enc.sound _ _ h1]; exact h x d h2
  · cases hd
theorem Does.p2 {P : Program} {C : Cfg} {f : FuncId} {α β : Type} [Enc α] [Enc β] {g : α → β → Option D} (h : ∀ x y d, g x y = some d → ∃ k, pcall P C k f [enc x, enc y] = some d) : Does P C f (p2 g) := by
  intro ds d hd
  unfold AM.p2 at hd
  split at hd
  · obtain ⟨x, h1, h2⟩ := Option.bind_eq_some_iff.1 hd
    obtain ⟨y, h3, h4⟩ := Option.bind_eq_some_iff.1 h2
    rw [Enc.sound _ _ h1, Enc.sound _ _ h3]; exact h x y d h4
  · cases hd
theorem Does.p3 {P : Program} {C : Cfg} {f : FuncId} {α β γ : Type} [Enc α] [Enc β] [Enc γ] {g : α → β → γ → Option D} (h : ∀ x y z d, g x y z = some d → ∃ k, pcall P C k f [enc x, enc y, enc z] = some d) : Does P C f (p3 g) := by
  intro ds d hd
  unfold AM.p3 at hd
  split at hd
  · obtain ⟨x, h1, h2⟩ := Option.bind_eq_some_iff.1 hd
    obtain ⟨y, h3, h4⟩ := Option.bind_eq_some_iff.1 h2
    obtain ⟨z, h5, h6⟩ := Option.bind_eq_some_iff.1 h4
    rw [Enc.sound _ _ h1, Enc.sound _ _ h3, Enc.sound _ _ h5]; exact h x y z d h6
  · cases hd
theorem Does.p4 {P : Program} {C : Cfg} {f : FuncId} {α β γ δ : Type} [Enc α] [Enc β] [Enc γ] [Enc δ] {g : α → β → γ → δ → Option D} (h : ∀ x y z u d, g x y z u = some d → ∃ k, pcall P C k f [enc x, enc y, enc z, enc u] = some d) : Does P C f (p4 g) := by
  intro ds d hd
  unfold AM.p4 at hd
  split at hd
  · obtain ⟨x, h1, h2⟩ := Option.bind_eq_some_iff.1 hd
    obtain ⟨y, h3, h4⟩ := Option.bind_eq_some_iff.1 h2
    obtain ⟨z, h5, h6⟩ := Option.bind_eq_some_iff.1 h4
    obtain ⟨u, h7, h8⟩ := Option.bind_eq_some_iff.1 h6
    rw [Enc.sound _ _ h1, Enc.sound _ _ h3, Enc.sound _ _ h5, Enc.sound _ _ h7]; exact h x y z u d h8
  · cases hd

section
variable {P : Program} {C : Cfg} {f : FuncId}
theorem does1 {α : Type} [Enc α] {g : α → Option D} (K : α → Nat) (h : ∀ x d, g x = some d → ∀ ic, W (bodyC P C (pickC C ic (K x)) (K x) f [.d (enc x)] Heap.empty) (fun r => freezeV r.2 (K x + 1) r.1 = some d)) : Does P C f (p1 g) :=
  Does.p1 fun x d hd => ⟨K x + 1, pcall_of (h x d hd _)⟩
theorem does2 {α β : Type} [Enc α] [Enc β] {g : α → β → Option D} (K : α → β → Nat) (h : ∀ x y d, g x y = some d → ∀ ic, W (bodyC P C (pickC C ic (K x y)) (K x y) f [.d (enc x), .d (enc y)] Heap.empty) (fun r => freezeV r.2 (K x y + 1) r.1 = some d)) : Does P C f (p2 g) :=
  Does.p2 fun x y d hd => ⟨K x y + 1, pcall_of (h x y d hd _)⟩
theorem does3 {α β γ : Type} [Enc α] [Enc β] [Enc γ] {g : α → β → γ → Option D} (K : α → β → γ → Nat) (h : ∀ x y z d, g x y z = some d → ∀ ic, W (bodyC P C (pickC C ic (K x y z)) (K x y z) f [.d (enc x), .d (enc y), .d (enc z)] Heap.empty) (fun r => freezeV r.2 (K x y z + 1) r.1 = some d)) : Does P C f (p3 g) :=
  Does.p3 fun x y z d hd => ⟨K x y z + 1, pcall_of (h x y z d hd _)⟩
theorem tot1 {α : Type} [Enc α] {F : α → D} (K : α → Nat) (h : ∀ x ic, W (bodyC P C (pickC C ic (K x)) (K x) f [.d (enc x)] Heap.empty) (fun r => freezeV r.2 (K x + 1) r.1 = some (F x))) : Does P C f (p1 fun x => some (F x)) :=
  does1 K fun x d hd ic => by cases hd; exact h x ic
theorem con1 {α : Type} [Enc α] {c : α → Prop} [i : ∀ x, Decidable (c x)] {F : α → D} (K : α → Nat) (h : ∀ x, c x → ∀ ic, W (bodyC P C (pickC C ic (K x)) (K x) f [.d (enc x)] Heap.empty) (fun r => freezeV r.2 (K x + 1) r.1 = some (F x))) : Does P C f (p1 fun x => if c x then some (F x) else none) :=
  does1 K fun x d hd ic => by
    split at hd
    · rename_i hc; cases hd; exact h x hc ic
    · cases hd
theorem tot2 {α β : Type} [Enc α] [Enc β] {F : α → β → D} (K : α → β → Nat) (h : ∀ x y ic, W (bodyC P C (pickC C ic (K x y)) (K x y) f [.d (enc x), .d (enc y)] Heap.empty) (fun r => freezeV r.2 (K x y + 1) r.1 = some (F x y))) : Does P C f (p2 fun x y => some (F x y)) :=
  does2 K fun x y d hd ic => by cases hd; exact h x y ic
theorem con2 {α β : Type} [Enc α] [Enc β] {c : α → β → Prop} [i : ∀ x y, Decidable (c x y)] {F : α → β → D} (K : α → β → Nat) (h : ∀ x y, c x y → ∀ ic, W (bodyC P C (pickC C ic (K x y)) (K x y) f [.d (enc x), .d (enc y)] Heap.empty) (fun r => freezeV r.2 (K x y + 1) r.1 = some (F x y))) : Does P C f (p2 fun x y => if c x y then some (F x y) else none) :=
  does2 K fun x y d hd ic => by
    split at hd
    · rename_i hc; cases hd; exact h x y hc ic
    · cases hd
theorem tot3 {α β γ : Type} [Enc α] [Enc β] [Enc γ] {F : α → β → γ → D} (K : α → β → γ → Nat) (h : ∀ x y z ic, W (bodyC P C (pickC C ic (K x y z)) (K x y z) f [.d (enc x), .d (enc y), .d (enc z)] Heap.empty) (fun r => freezeV r.2 (K x y z + 1) r.1 = some (F x y z))) : Does P C f (p3 fun x y z => some (F x y z)) :=
  does3 K fun x y z d hd ic => by cases hd; exact h x y z ic
theorem con3 {α β γ : Type} [Enc α] [Enc β] [Enc γ] {c : α → β → γ → Prop} [i : ∀ x y z, Decidable (c x y z)] {F : α → β → γ → D} (K : α → β → γ → Nat) (h : ∀ x y z, c x y z → ∀ ic, W (bodyC P C (pickC C ic (K x y z)) (K x y z) f [.d (enc x), .d (enc y), .d (enc z)] Heap.empty) (fun r => freezeV r.2 (K x y z + 1) r.1 = some (F x y z))) : Does P C f (p3 fun x y z => if c x y z then some (F x y z) else none) :=
  does3 K fun x y z d hd ic => by
    split at hd
    · rename_i hc; cases hd; exact h x y z hc ic
    · cases hd
theorem does4 {α β γ δ : Type} [Enc α] [Enc β] [Enc γ] [Enc δ] {g : α → β → γ → δ → Option D} (K : α → β → γ → δ → Nat) (h : ∀ x y z u d, g x y z u = some d → ∀ ic, W (bodyC P C (pickC C ic (K x y z u)) (K x y z u) f [.d (enc x), .d (enc y), .d (enc z), .d (enc u)] Heap.empty) (fun r => freezeV r.2 (K x y z u + 1) r.1 = some d)) : Does P C f (p4 g) :=
  Does.p4 fun x y z u d hd => ⟨K x y z u + 1, pcall_of (h x y z u d hd _)⟩
theorem tot4 {α β γ δ : Type} [Enc α] [Enc β] [Enc γ] [Enc δ] {F : α → β → γ → δ → D} (K : α → β → γ → δ → Nat) (h : ∀ x y z u ic, W (bodyC P C (pickC C ic (K x y z u)) (K x y z u) f [.d (enc x), .d (enc y), .d (enc z), .d (enc u)] Heap.empty) (fun r => freezeV r.2 (K x y z u + 1) r.1 = some (F x y z u))) : Does P C f (p4 fun x y z u => some (F x y z u)) :=
  does4 K fun x y z u d hd ic => by cases hd; exact h x y z u ic
theorem con4 {α β γ δ : Type} [Enc α] [Enc β] [Enc γ] [Enc δ] {c : α → β → γ → δ → Prop} [i : ∀ x y z u, Decidable (c x y z u)] {F : α → β → γ → δ → D} (K : α → β → γ → δ → Nat) (h : ∀ x y z u, c x y z u → ∀ ic, W (bodyC P C (pickC C ic (K x y z u)) (K x y z u) f [.d (enc x), .d (enc y), .d (enc z), .d (enc u)] Heap.empty) (fun r => freezeV r.2 (K x y z u + 1) r.1 = some (F x y z u))) : Does P C f (p4 fun x y z u => if c x y z u then some (F x y z u) else none) :=
  does4 K fun x y z u d hd ic => by
    split at hd
    · rename_i hc; cases hd; exact h x y z u hc ic
    · cases hd
end
/-- told more -/
def Cfg.more (C : Cfg) (g : FuncId → Option (List D → Option D)) : Cfg := { C with primF := fun f => match g f with | some x => some x | none => C.primF f }
theorem Cfg.Ok.more {P : Program} {C : Cfg} (hO : C.Ok P) {g : FuncId → Option (List D → Option D)} (h : ∀ f gf, g f = some gf → Does P C f gf) : (C.more g).Ok P where
  mix := hO.mix
  fns := hO.fns
  glob := hO.glob
  primV := hO.primV
  prim := by
    intro f gf hf args d vals w M hd hr hi hm hg
    unfold Cfg.more at hf
    simp only at hf
    split at hf
    · rename_i x hx
      simp only [Option.some.injEq] at hf
      subst hf
      obtain ⟨k, hk⟩ := h f x hx args d hd
      unfold pcall at hk
      split at hk
      · rename_i v h' hic
        exact pure_sim hO (icall_sim hO k) hic hk hi hm hg hr
      · cases hk
    · exact hO.prim f gf hf args d vals w M hd hr hi hm hg

/-- what is asked of one that is told -/
def PrimOk (P : Program) (gl : Gb) (f : FuncId) (gf : List D → Option D) : Prop :=
  ∀ (args : List D) (d : D) (vals : Array Value) (w : World) (M : Muts), gf args = some d → RDL w M args vals.toList → gl.inv w → (∀ b o, M b o → b < w.heap.size) → (∀ n x, gl n = .d x → RD w M x (.pointer (some ⟨n, 0, none⟩))) →
    (callFunc f vals).run P w = .ok (.enter f vals) w ∧ Calls P f vals w fun e w' => ∃ v', e = .returned v' ∧ RD w' M d v' ∧ Go.RowKit.Below w.heap.size w w'
theorem Cfg.Ok.lib {P : Program} {C : Cfg} (hO : C.Ok P) {g : FuncId → Option (List D → Option D)} (h : ∀ f gf, g f = some gf → PrimOk P C.glob f gf) : (C.more g).Ok P where
  mix := hO.mix
  fns := hO.fns
  glob := hO.glob
  primV := hO.primV
  prim := by
    intro f gf hf args d vals w M hd hr hi hm hg
    unfold Cfg.more at hf
    simp only at hf
    split at hf
    · rename_i x hx
      simp only [Option.some.injEq] at hf
      subst hf
      exact h f x hx args d vals w M hd hr hi hm hg
    · exact hO.prim f gf hf args d vals w M hd hr hi hm hg
theorem RDL_one {w : World} {M : Muts} {a : D} {vals : Array Value} (h : RDL w M [a] vals.toList) : ∃ v, vals = #[v] ∧ RD w M a v := by
  obtain ⟨v, vs, e, h1, h2⟩ := h
  simp only [RDL] at h2
  subst h2
  exact ⟨v, by rw [← Array.toArray_toList (xs := vals), e], h1⟩
theorem RDL_two {w : World} {M : Muts} {a b : D} {vals : Array Value} (h : RDL w M [a, b] vals.toList) : ∃ v u, vals = #[v, u] ∧ RD w M a v ∧ RD w M b u := by
  obtain ⟨v, vs, e, h1, u, us, e2, h2, h3⟩ := h
  simp only [RDL] at h3
  subst h3
  subst e2
  exact ⟨v, u, by rw [← Array.toArray_toList (xs := vals), e], h1, h2⟩
theorem PrimOk.p1 {P : Program} {gl : Gb} {f : FuncId} {α : Type} [Enc α] {g : α → Option D} (he : ∀ vals w, (callFunc f vals).run P w = .ok (.enter f vals) w)
    (h : ∀ (x : α) (d : D) (v : Value) (w : World) (M : Muts), g x = some d → RD w M (enc x) v → gl.inv w → (∀ b o, M b o → b < w.heap.size) → (∀ n x, gl n = .d x → RD w M x (.pointer (some ⟨n, 0, none⟩))) →
      Calls P f #[v] w fun e w' => ∃ v', e = .returned v' ∧ RD w' M d v' ∧ Go.RowKit.Below w.heap.size w w') : PrimOk P gl f (AM.p1 g) := by
  intro args d vals w M hd hr hi hm hg
  unfold AM.p1 at hd
  split at hd
  · obtain ⟨x, h1, h2⟩ := Option.bind_eq_some_iff.1 hd
    obtain rfl := Enc.sound _ _ h1
    obtain ⟨v, rfl, hv⟩ := RDL_one hr
    exact ⟨he _ _, h x d v w M h2 hv hi hm hg⟩
  · cases hd
theorem PrimOk.p2 {P : Program} {gl : Gb} {f : FuncId} {α β : Type} [Enc α] [Enc β] {g : α → β → Option D} (he : ∀ vals w, (callFunc f vals).run P w = .ok (.enter f vals) w)
    (h : ∀ (x : α) (y : β) (d : D) (v u : Value) (w : World) (M : Muts), g x y = some d → RD w M (enc x) v → RD w M (enc y) u → gl.inv w → (∀ b o, M b o → b < w.heap.size) → (∀ n x, gl n = .d x → RD w M x (.pointer (some ⟨n, 0, none⟩))) →
      Calls P f #[v, u] w fun e w' => ∃ v', e = .returned v' ∧ RD w' M d v' ∧ Go.RowKit.Below w.heap.size w w') : PrimOk P gl f (AM.p2 g) := by
  intro args d vals w M hd hr hi hm hg
  unfold AM.p2 at hd
  split at hd
  · obtain ⟨x, h1, h2⟩ := Option.bind_eq_some_iff.1 hd
    obtain ⟨y, h3, h4⟩ := Option.bind_eq_some_iff.1 h2
    obtain rfl := Enc.sound _ _ h1
    obtain rfl := Enc.sound _ _ h3
    obtain ⟨v, u, rfl, hv, hu⟩ := RDL_two hr
    exact ⟨he _ _, h x y d v u w M h4 hv hu hi hm hg⟩
  · cases hd
/-- a call of a function that is told -/
@[simp] theorem pick_bind {C : Cfg} {ic : CallF} {k : Nat} {g : FuncId} {vs : List V} {h : Heap} {gf : List D → Option D} (hp : C.primF g = some gf) :
    pickC C ic k (.fn g) vs h = (allD vs).bind fun ds => (gf ds).map fun d => (.d d, h) := pick_prim hp
/-! equality of structs -/
def andO (x y : Option Bool) : Option Bool := match x with
  | some true => y
  | some false => some false
  | none => none
@[simp] theorem andO_some (a b : Bool) : andO (some a) (some b) = some (a && b) := by cases a <;> rfl
theorem eqFieldsV_cons {eq : TypeId → V → V → Option Bool} {P : Program} {f : Field} {fs : List Field} {xs ys : List V} : eqFieldsV eq P (f :: fs) xs ys =
    if f.name ≠ "_" then (tyT P f.type).bind fun q => (partV q.1 q.2 f.offset xs).bind fun x => (partV q.1 q.2 f.offset ys).bind fun y => andO (eq f.type x y) (eqFieldsV eq P fs xs ys) else none := by
  simp only [eqFieldsV]
  split
  · cases tyT P f.type with
    | none => rfl
    | some q =>
      simp only [Option.bind_some]
      cases partV q.1 q.2 f.offset xs with
      | none => rfl
      | some x =>
        simp only [Option.bind_some]
        cases partV q.1 q.2 f.offset ys with
        | none => rfl
        | some y => rfl
  · rfl
theorem eqFieldsV_nil {eq : TypeId → V → V → Option Bool} {P : Program} {xs ys : List V} : eqFieldsV eq P [] xs ys = some true := rfl
theorem eqElemsV_succ {eq : TypeId → V → V → Option Bool} {e : TypeId} {q : Bool × Nat} {n i : Nat} {xs ys : List V} : eqElemsV eq e q (n + 1) i xs ys =
    (partV q.1 q.2 (i * q.2) xs).bind fun x => (partV q.1 q.2 (i * q.2) ys).bind fun y => andO (eq e x y) (eqElemsV eq e q n (i + 1) xs ys) := by
  simp only [eqElemsV]
  cases partV q.1 q.2 (i * q.2) xs with
  | none => rfl
  | some x =>
    simp only [Option.bind_some]
    cases partV q.1 q.2 (i * q.2) ys <;> rfl
theorem eqV_int {P : Program} {t : TypeId} {k : IntKind} (hu : P.underlying t = some (.int k)) (c : Bool) (d : Nat) (a b : Int) : eqV P c (d + 1) t (.d (.int k a)) (.d (.int k b)) = some (decide (a = b)) := by
  simp [eqV, hu]
theorem eqV_str {P : Program} {t : TypeId} (hu : P.underlying t = some .string) (c : Bool) (d : Nat) (a b : ByteArray) : eqV P c (d + 1) t (.d (.str a)) (.d (.str b)) = some (decide (a = b)) := by
  simp [eqV, hu]
theorem eqV_bool {P : Program} {t : TypeId} (hu : P.underlying t = some .bool) (c : Bool) (d : Nat) (a b : Bool) : eqV P c (d + 1) t (.d (.bool a)) (.d (.bool b)) = some (decide (a = b)) := by
  simp [eqV, hu]; cases a <;> cases b <;> rfl
theorem eqV_struct {P : Program} {t : TypeId} {fs : Array Field} (hu : P.underlying t = some (.struct fs)) (hs : P.stoodInHeld t = false) (c : Bool) (d : Nat) (xs ys : List D) :
    eqV P c (d + 1) t (.d (.agg xs)) (.d (.agg ys)) = eqFieldsV (eqV P false d) P fs.toList (xs.map .d) (ys.map .d) := by
  simp [eqV, hu, hs]
theorem eqV_array {P : Program} {t : TypeId} {n : Nat} {e : TypeId} {q : Bool × Nat} (hu : P.underlying t = some (.array n e)) (hq : tyT P e = some q) (c : Bool) (d : Nat) (xs ys : List D) :
    eqV P c (d + 1) t (.d (.agg xs)) (.d (.agg ys)) = eqElemsV (eqV P false d) e q n 0 (xs.map .d) (ys.map .d) := by
  simp [eqV, hu, hq]
theorem eqOpV_eql {P : Program} {c : Bool} {t : TypeId} {x y : V} {b : Bool} (hg : P.eqGuardType P.depth t = false ∨ isAggB P t = false) (h : eqV P c 50 t x y = some b) : eqOpV P c .eql t x y = some (.d (.bool b)) := by
  simp only [eqOpV, if_pos hg, h, Option.map_some]
theorem eqOpV_neq {P : Program} {c : Bool} {t : TypeId} {x y : V} {b : Bool} (hg : P.eqGuardType P.depth t = false ∨ isAggB P t = false) (h : eqV P c 50 t x y = some b) : eqOpV P c .neq t x y = some (.d (.bool !b)) := by
  simp only [eqOpV, if_pos hg, h, Option.map_some]
@[simp] theorem wrap_i64 {n : Int} (h1 : -9223372036854775808 ≤ n) (h2 : n ≤ 9223372036854775807) : IntKind.i64.wrap n = n := by
  simp [IntKind.wrap, IntKind.bits, IntKind.signed]
  omega
end Go.AM
end
