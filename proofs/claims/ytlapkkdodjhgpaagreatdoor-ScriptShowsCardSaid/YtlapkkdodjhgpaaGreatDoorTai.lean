/-
  What is asked of a program that is one: closed runs.
-/
import Derived.Test.YtlapkkdodjhgpaaGreatDoorTag
import Derived.Test.YtlapkkdodjhgpaaGreatDoorTaf
set_option linter.unusedSimpArgs false
set_option linter.unusedVariables false
set_option maxRecDepth 100000
namespace Go.Proofs.YtlapkkdodjhgpaaGreatDoor
open Go Go.Gm
theorem zw9 : O.call 5 [] [] = some (.pv (.bool true),[]) := qe7 (n := 100) (by kernel_rfl)
theorem q7p {r : Bool} (h : aw5 = some r) : O.call 5 [] [] = some (AV.pv (PV.bool r),[]) := by cases h; exact zw9
end Go.Proofs.YtlapkkdodjhgpaaGreatDoor
