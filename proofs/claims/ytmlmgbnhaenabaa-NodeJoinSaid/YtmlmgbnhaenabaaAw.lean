/-
  What is asked of a program that is one: closed runs.
-/
import Derived.Test.YtmlmgbnhaenabaaSp
import Derived.Test.YtmlmgbnhaenabaaTy
set_option linter.unusedSimpArgs false
set_option linter.unusedVariables false
set_option maxRecDepth 100000
namespace Go.Proofs.Ytmlmgbnhaenabaa
open Go Go.Gm
theorem aw9_run : O.call 9 [] [] = some (.pv (.bool true), []) := orc_call (n := 100) (by kernel_rfl)
theorem aw9_ok {r : Bool} (h : aw9 = some r) : O.call 9 [] [] = some (AV.pv (PV.bool r), []) := by cases h; exact aw9_run
end Go.Proofs.Ytmlmgbnhaenabaa
