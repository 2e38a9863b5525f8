/-
  What is asked of a program that is one: closed runs.
-/
import Derived.Test.YtljbbncgpbgboaaGreatDoorCaf
import Derived.Test.YtljbbncgpbgboaaGreatDoorCag
set_option linter.unusedSimpArgs false
set_option linter.unusedVariables false
set_option maxRecDepth 100000
namespace Go.Proofs.YtljbbncgpbgboaaGreatDoor
open Go Go.Gm
theorem qvo : O.call 4 [] [] = some (.pv (.bool true),[]) := q8f (n := 100) (by kernel_rfl)
theorem q91 {r : Bool} (h : aw4 = some r) : O.call 4 [] [] = some (AV.pv (PV.bool r),[]) := by cases h; exact qvo
end Go.Proofs.YtljbbncgpbgboaaGreatDoor
