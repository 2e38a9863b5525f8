/-
  What is asked of a program that is one: closed runs.
-/
import Derived.Test.YtdhgdeelagmbpaaGreatQaf
import Derived.Test.YtdhgdeelagmbpaaGreatQag
set_option linter.unusedSimpArgs false
set_option linter.unusedVariables false
set_option maxRecDepth 100000
namespace Go.Proofs.YtdhgdeelagmbpaaGreat
open Go Go.Gm
theorem qtm : O.call 8 [] [] = some (.pv (.bool true),[]) := qm0 (n := 100) (by kernel_rfl)
theorem qn4 {r : Bool} (h : aw8 = some r) : O.call 8 [] [] = some (AV.pv (PV.bool r),[]) := by cases h; exact qtm
end Go.Proofs.YtdhgdeelagmbpaaGreat
