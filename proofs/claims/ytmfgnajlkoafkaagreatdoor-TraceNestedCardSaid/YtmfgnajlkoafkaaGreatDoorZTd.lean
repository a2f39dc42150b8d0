/- What the machine is told of this program, to begin with. -/
import Derived.Test.YtmfgnajlkoafkaaGreatDoorZTb
import Derived.Test.YtmfgnajlkoafkaaGreatDoorMe
set_option linter.all false
set_option maxHeartbeats 2000000
namespace Go.Proofs.YtmfgnajlkoafkaaGreatDoor
open Go Go.AM
open Go.AM.Enc (enc dec)
open Go.AM.Row (row ofRow)
set_option maxRecDepth 100000
def fnOk (fn : Func) : Bool := !(fn.name == "runtime.NumGoroutine") && (match fn.body with | some c => codeOk fn.ntmps c | none => true)
theorem fns_ok : Tryz.prog.funcs.toList.all fnOk = true := by kernel_rfl
/-- slots of slices that are written -/
def mutTab (f : FuncId) (s : Nat) : Bool := f == 246 && s == 30
noncomputable def Cz (gl : Gb) : Cfg := { fns := fun f => Tryz.prog.funcs[f]?, mutS := mutTab, pureF := fun _ => true, primF := fun _ => none, primV := fun _ => none, glob := gl }
theorem Cz_ok {gl : Gb} (hg : ∀ n, (∃ x, gl n = .d x) ∨ gl n = .unk) : (Cz gl).Ok Tryz.prog where
  mix := by kernel_rfl
  fns := by
    intro f fn hf
    have h := List.all_eq_true.1 fns_ok fn (by
      have := Array.getElem?_eq_some_iff.1 hf
      obtain ⟨h1, h2⟩ := this
      rw [← h2]; simp)
    simp only [fnOk, Bool.and_eq_true, Bool.not_eq_true', beq_eq_false_iff_ne] at h
    refine ⟨hf, h.1, fun c hc => ?_⟩
    have := h.2
    rw [hc] at this
    exact this
  glob := hg
  prim := by intro f gf hf; cases hf
  primV := by intro f gf hf; cases hf
end Go.Proofs.YtmfgnajlkoafkaaGreatDoor
