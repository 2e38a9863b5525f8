/-
  What is asked of a program that is one: closed runs.
-/
import Derived.Test.YtaglodpkpggdiaaGreatDoorLag
import Derived.Test.YtaglodpkpggdiaaGreatDoorLaf
set_option linter.unusedSimpArgs false
set_option linter.unusedVariables false
set_option maxRecDepth 100000
namespace Go.Proofs.YtaglodpkpggdiaaGreatDoor
open Go Go.Gm
theorem x2a : O.call 7 [] [] = some (.pv (.bool true),[]) := qgu (n := 100) (by kernel_rfl)
theorem qdc {r : Bool} (h : aw7 = some r) : O.call 7 [] [] = some (AV.pv (PV.bool r),[]) := by cases h; exact x2a
end Go.Proofs.YtaglodpkpggdiaaGreatDoor
