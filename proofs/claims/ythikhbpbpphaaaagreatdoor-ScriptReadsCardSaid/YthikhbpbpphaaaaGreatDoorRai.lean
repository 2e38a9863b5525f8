/-
  What is asked of a program that is one: closed runs.
-/
import Derived.Test.YthikhbpbpphaaaaGreatDoorRaf
import Derived.Test.YthikhbpbpphaaaaGreatDoorRag
set_option linter.unusedSimpArgs false
set_option linter.unusedVariables false
set_option maxRecDepth 100000
namespace Go.Proofs.YthikhbpbpphaaaaGreatDoor
open Go Go.Gm
theorem zb5 : O.call 4 [] [] = some (.pv (.bool true),[]) := qbq (n := 100) (by kernel_rfl)
theorem qco {r : Bool} (h : aw4 = some r) : O.call 4 [] [] = some (AV.pv (PV.bool r),[]) := by cases h; exact zb5
end Go.Proofs.YthikhbpbpphaaaaGreatDoor
