/- Closed facts of the program that every claim of this seat asks for. -/
import Derived.Test.YtmfgnajlkoafkaaGreatDoorMk
set_option linter.all false
set_option maxHeartbeats 2000000
namespace Go.Proofs.YtmfgnajlkoafkaaGreatDoor
open Go Go.AM
open Go.AM.Enc (enc dec)
open Go.AM.Row (row ofRow)
set_option maxRecDepth 100000
theorem and_of {a b : Bool} (h1 : a = true) (h2 : b = true) : (a && b) = true := by rw [h1, h2]; rfl
theorem maps_rowed : mapsRowed Tryz.prog = true := by kernel_rfl
theorem rows_typed : (Tryz.prog.stops == []) = true := by kernel_rfl
theorem main_is : Tryz.prog.mainIs = some (true, "cc44ed9c4e12e2028538bd977500a2e826d11eced8931b02e3a85813b8a3333b".toList) := by kernel_rfl
theorem looks_are : true = Tryz.prog.looks [] := by kernel_rfl
end Go.Proofs.YtmfgnajlkoafkaaGreatDoor
