/-
  What is asked of a program that is one: closed runs.
-/
import Derived.Test.YtaglodpkpggdiaaGreatDoorMag
import Derived.Test.YtaglodpkpggdiaaGreatDoorMaf
set_option linter.unusedSimpArgs false
set_option linter.unusedVariables false
set_option maxRecDepth 100000
namespace Go.Proofs.YtaglodpkpggdiaaGreatDoor
open Go Go.Gm
theorem qon : O.call 7 [] [] = some (.pv (.bool true),[]) := qdz (n := 100) (by kernel_rfl)
theorem q8b {r : Bool} (h : aw7 = some r) : O.call 7 [] [] = some (AV.pv (PV.bool r),[]) := by cases h; exact qon
end Go.Proofs.YtaglodpkpggdiaaGreatDoor
