/-
  What is asked of a program that is one: closed runs.
-/
import Derived.Test.YtcelddmcoklooaaGreatDoorJag
import Derived.Test.YtcelddmcoklooaaGreatDoorJaf
set_option linter.unusedSimpArgs false
set_option linter.unusedVariables false
set_option maxRecDepth 100000
namespace Go.Proofs.YtcelddmcoklooaaGreatDoor
open Go Go.Gm
theorem z01 : O.call 4 [] [] = some (.pv (.bool true),[]) := qb6 (n := 100) (by kernel_rfl)
theorem q5c {r : Bool} (h : aw4 = some r) : O.call 4 [] [] = some (AV.pv (PV.bool r),[]) := by cases h; exact z01
end Go.Proofs.YtcelddmcoklooaaGreatDoor
