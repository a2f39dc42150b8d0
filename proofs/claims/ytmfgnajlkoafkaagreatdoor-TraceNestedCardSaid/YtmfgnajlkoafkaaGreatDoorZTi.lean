/- Go's library, as the machine is told of it. -/
import Derived.Test.YtmfgnajlkoafkaaGreatDoorMf
import Derived.Test.YtmfgnajlkoafkaaGreatDoorZShelf
import Derived.Lib.AppendIntMem
set_option linter.all false
set_option maxHeartbeats 2000000
namespace Go.Proofs.YtmfgnajlkoafkaaGreatDoor
open Go Go.AM Go.RowKit
open Go.AM.Enc (enc dec)
open Go.AM.Row (row ofRow)
set_option maxRecDepth 100000
set_option linter.unusedVariables false
/-- what the variables of the library hold -/
def syntaxText : D := .iface 372 (.ptr [.str ⟨#[105, 110, 118, 97, 108, 105, 100, 32, 115, 121, 110, 116, 97, 120]⟩] 0)
def rangeText : D := .iface 372 (.ptr [.str ⟨#[118, 97, 108, 117, 101, 32, 111, 117, 116, 32, 111, 102, 32, 114, 97, 110, 103, 101]⟩] 0)
def Glv (m : Int) (n : Nat) : V :=
  if n = 4 then .d (.ptr [I m] 0) else
  if n = 1 then .d (.ptr [syntaxText] 0) else
  if n = 2 then .d (.ptr [rangeText] 0) else
  if n = 3 then .d (.ptr (Lib.pow10Tab.map fun z => D.int .u64 z) 0) else .unk
theorem Glv_ok (m : Int) (n : Nat) : (∃ x, Glv m n = .d x) ∨ Glv m n = .unk := by
  unfold Glv; repeat' split
  all_goals first | exact .inl ⟨_, rfl⟩ | exact .inr rfl
def Gl (m : Int) : Gb where
  v := Glv m
  inv := fun w => Lib.TabIs Tryz.prog w "internal/strconv.uint64pow10" .u64 Lib.pow10Tab
  keep := by
    intro w w' h hb
    unfold Lib.TabIs World.var? at *
    cases hg : Tryz.prog.globalNamed "internal/strconv.uint64pow10" with
    | none => rw [hg] at h; cases h
    | some g =>
      rw [hg] at h
      simp only [Option.bind_some] at h ⊢
      have hlt : g < w.heap.size := by
        cases hc : w.heap[g]? with
        | none => rw [hc] at h; cases h
        | some o => exact (Array.getElem?_eq_some_iff.1 hc).1
      rw [hb.block g hlt]; exact h
theorem enters (f : FuncId) (fn : Func) (hf : Tryz.prog.funcs[f]? = some fn) (c : Code) (hb : fn.body = some c) (hn : fn.name ≠ "runtime.NumGoroutine") (vals : Array Value) (w : World) : (callFunc f vals).run Tryz.prog w = .ok (.enter f vals) w :=
  callFunc_run hf hn hb
theorem flat1 : ∀ (ds : List D), (ds.map fun d => [d]).flatten = ds
  | [] => rfl
  | d :: ds => by simp [flat1 ds]
/-- a new row of scalar data -/
theorem rd_new {w : World} {M : Muts} {ds : List D} {vs : Array Value} {t : TypeId} (hm : ∀ b o, M b o → b < w.heap.size) (hr : RDL w M ds vs.toList) (hs : ∀ d ∈ ds, d.scalar = true) :
    RD (w.alloc (.cells vs t)) M (.list (ds.map fun d => [d])) (.slice (some ⟨w.heap.size, 0, none⟩) ds.length ds.length) := by
  have x : Ext w M (w.alloc (.cells vs t)) M := ⟨fun b o v hb hc => by
    rw [World.cell?_of_block (((Below.refl w.heap.size w).alloc (Nat.le_refl _) _).block b (World.block_lt_of_cell? _ _ hc))]; exact hc, fun r es c hb hc => by
    rw [((Below.refl w.heap.size w).alloc (Nat.le_refl _) (.cells vs t)).block r (lt_of_map hc)]; exact hc, fun b o hb _ => hb, by simp⟩
  have hl : (ds.map fun d => [d]).length = ds.length := by simp
  refine ⟨some ⟨w.heap.size, 0, none⟩, ds.length, by rw [hl], by rw [hl]; exact Nat.le_refl _, fun _ => ⟨w.heap.size, 0, 1, rfl, RowsAt.iff.2 ⟨by simp, ?_⟩⟩⟩
  rw [flat1]
  refine At.of (RDL.mono x _ _ hr) hs (fun j u hj => ?_) (fun j _ hM => ?_)
  · rw [cell_of_row (w.alloc (.cells vs t)) _ _ vs t (0, 0) (heap_alloc_new w _)]
    simpa using hj
  · have := hm _ _ hM; omega
theorem RDL_strs {w : World} {M : Muts} : ∀ (l : List ByteArray), RDL w M (l.map D.str) (l.map Value.string)
  | [] => rfl
  | s :: l => ⟨_, _, rfl, rfl, RDL_strs l⟩
def p_Split : List D → Option D := p2 fun (s sep : Str) => if s.size < 4294967281 ∧ 1 ≤ sep.size then some (enc (Lib.splitB sep 0 (Lib.countB s sep) s)) else none
theorem glob_cell {w : World} {M : Muts} {n : Nat} {d : D} (h : RD w M (.ptr [d] 0) (.pointer (some ⟨n, 0, none⟩))) : ∃ v, w.cell? ⟨n, 0, none⟩ = some v ∧ RD w M d v := by
  obtain ⟨b, o, e, _, _, ⟨v, hv, hv2⟩, _⟩ := h
  simp only [Value.pointer.injEq, Option.some.injEq, Addr.mk.injEq, and_true] at e
  obtain ⟨rfl, e⟩ := e
  have : o = 0 := by omega
  subst this
  exact ⟨v, hv, hv2⟩
theorem prim_Split (m : Int) : PrimOk Tryz.prog (Gl m) 182 p_Split := PrimOk.p2 (enters _ _ Tryz.func182 _ rfl (by decide)) fun s sep d v u w M hd hv hu hi hm hg => by
  split at hd
  · rename_i hc
    cases hd
    obtain rfl : v = .string s := hv
    obtain rfl : u = .string sep := hu
    have hml : w.cell? ⟨4, 0, none⟩ = some (.int .i64 m) := by
      obtain ⟨v, hv, hv2⟩ := glob_cell (hg 4 _ rfl)
      obtain rfl : v = .int .i64 m := hv2
      exact hv
    refine (Tryz.strings_Split s sep m w hc.1 hml hc.2).mono ?_
    rintro e w' ⟨rfl, rfl⟩
    refine ⟨_, rfl, ?_, (Below.refl _ _).alloc (Nat.le_refl _) _⟩
    have := rd_new (t := 9) hm (ds := (Lib.splitB sep 0 (Lib.countB s sep) s).map D.str) (vs := ((Lib.splitB sep 0 (Lib.countB s sep) s).map Value.string).toArray) (by simpa using RDL_strs _) (by simp [D.scalar])
    simp only [List.map_map, List.length_map, Lib.splitB_all sep hc.2 0 _ s rfl] at this
    exact this
  · cases hd
def p_Itoa : List D → Option D := p1 fun (n : Int) => if -9223372036854775808 ≤ n ∧ n ≤ 9223372036854775807 then some (.str ⟨(Lib.itoa n).toArray⟩) else none
theorem prim_Itoa (m : Int) : PrimOk Tryz.prog (Gl m) 114 p_Itoa := PrimOk.p1 (enters _ _ Tryz.func114 _ rfl (by decide)) fun n d v w M hd hv hi hm hg => by
  split at hd
  · rename_i hc
    cases hd
    obtain rfl : v = .int .i64 n := hv
    refine (Tryz.strconv_Itoa n hc.1 hc.2 w hi).mono ?_
    rintro e w' ⟨rfl, k, os, rfl⟩
    exact ⟨_, rfl, rfl, Go.Lib.below_grow _ _ (Nat.le_refl _) _ _⟩
  · cases hd
/-- the error of Atoi -/
def atoiErr (s : Str) (what : D) : D := .iface 290 (.ptr [.str ⟨#[65, 116, 111, 105]⟩, .str s, what] 0)
def atoiD (s : Str) : D := match Lib.atoiAll s.data.toList with
  | .ok v => .tuple [I v, .nili]
  | .range => .tuple [I (Lib.atoiSat s.data.toList), atoiErr s rangeText]
  | _ => .tuple [I 0, atoiErr s syntaxText]
def p_Atoi : List D → Option D := p1 fun (s : Str) => if s.size ≤ 281474976710656 then some (atoiD s) else none
theorem rd_err {w w' : World} {M : Muts} {s : Str} {ev : Value} {N : Nat} {t : D} {ty : TypeId} (hm : ∀ b o, M b o → b < w.heap.size) (hN : w.heap.size ≤ N) (hh : w'.heap[N]? = some (.cells #[.string ⟨#[65, 116, 111, 105]⟩, .string s, ev] ty (0, 0)))
    (hb : Below w.heap.size w w') (he : RD w M t ev) (hs : t.scalar = true) : RD w' M (atoiErr s t) (.iface 290 (.pointer (some ⟨N, 0, none⟩))) := by
  have x : Ext w M w' M := ⟨fun b o v hb' hc => by
    rw [World.cell?_of_block (hb.block b (World.block_lt_of_cell? _ _ hc))]; exact hc, fun r es c hb' hc => by
    rw [hb.block r (lt_of_map hc)]; exact hc, fun b o hb' _ => hb', hb.size⟩
  refine ⟨_, rfl, N, 0, rfl, ?_⟩
  refine At.of (vs := [.string ⟨#[65, 116, 111, 105]⟩, .string s, ev]) ⟨_, _, rfl, rfl, _, _, rfl, rfl, _, _, rfl, RD.mono x _ _ he, rfl⟩ (by simp [D.scalar]; simpa [D.scalar] using hs) (fun j u hj => ?_) (fun j _ hM => ?_)
  · rw [cell_of_row w' _ _ _ ty (0, 0) hh]
    simpa using hj
  · have := hm _ _ hM; omega
theorem prim_Atoi (m : Int) : PrimOk Tryz.prog (Gl m) 131 p_Atoi := PrimOk.p1 (enters _ _ Tryz.func131 _ rfl (by decide)) fun s d v w M hd hv hi hm hg => by
  split at hd
  · rename_i hc
    cases hd
    obtain rfl : v = .string s := hv
    unfold atoiD
    cases hat : Lib.atoiAll s.data.toList with
    | ok v =>
      refine (Tryz.strconv_Atoi_ok s (by omega) v hat w).mono ?_
      rintro e w' ⟨rfl, hw⟩
      refine ⟨_, rfl, ⟨_, rfl, _, _, rfl, rfl, _, _, rfl, rfl, rfl⟩, ?_⟩
      rcases hw with rfl | ⟨t, rfl⟩
      · exact Below.refl _ _
      · exact Go.Lib.bytesWorld_below _ _ _
    | range =>
      obtain ⟨ev, h1, h2⟩ := glob_cell (hg 2 _ rfl)
      refine (Tryz.strconv_Atoi_range s hc hat ev w h1 (by obtain ⟨y, rfl, _⟩ := h2; exact .inr ⟨_, _, rfl⟩)).mono ?_
      rintro e w' ⟨N, rfl, hN, hh, hb⟩
      exact ⟨_, rfl, ⟨_, rfl, _, _, rfl, rfl, _, _, rfl, rd_err hm hN hh hb h2 rfl, rfl⟩, hb⟩
    | _ =>
      obtain ⟨ev, h1, h2⟩ := glob_cell (hg 1 _ rfl)
      refine (Tryz.strconv_Atoi_syntax s hc ⟨fun v hv => (by rw [hat] at hv; cases hv), fun hr => (by rw [hat] at hr; cases hr)⟩ ev w h1 (by obtain ⟨y, rfl, _⟩ := h2; exact .inr ⟨_, _, rfl⟩)).mono ?_
      rintro e w' ⟨N, rfl, hN, hh, hb⟩
      exact ⟨_, rfl, ⟨_, rfl, _, _, rfl, rfl, _, _, rfl, rd_err hm hN hh hb h2 rfl, rfl⟩, hb⟩
  · cases hd
end Go.Proofs.YtmfgnajlkoafkaaGreatDoor
