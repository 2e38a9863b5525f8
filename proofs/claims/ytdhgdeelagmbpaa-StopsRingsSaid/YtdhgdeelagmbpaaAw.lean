/-
  What is asked of a program that is one: closed runs.
-/
import Derived.Test.YtdhgdeelagmbpaaSp
import Derived.Test.YtdhgdeelagmbpaaTy
set_option linter.unusedSimpArgs false
set_option linter.unusedVariables false
set_option maxRecDepth 100000
namespace Go.Proofs.Ytdhgdeelagmbpaa
open Go Go.Gm
theorem aw7_run : O.call 7 [] [] = some (.pv (.bool true), []) := orc_call (n := 100) (by kernel_rfl)
theorem aw7_ok {r : Bool} (h : aw7 = some r) : O.call 7 [] [] = some (AV.pv (PV.bool r), []) := by cases h; exact aw7_run
end Go.Proofs.Ytdhgdeelagmbpaa
