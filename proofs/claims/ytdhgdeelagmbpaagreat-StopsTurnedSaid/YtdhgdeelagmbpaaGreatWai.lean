/-
  What is asked of a program that is one: closed runs.
-/
import Derived.Test.YtdhgdeelagmbpaaGreatWaf
import Derived.Test.YtdhgdeelagmbpaaGreatWag
set_option linter.unusedSimpArgs false
set_option linter.unusedVariables false
set_option maxRecDepth 100000
namespace Go.Proofs.YtdhgdeelagmbpaaGreat
open Go Go.Gm
theorem z14 : O.call 8 [] [] = some (.pv (.bool true),[]) := qi5 (n := 100) (by kernel_rfl)
theorem qau {r : Bool} (h : aw8 = some r) : O.call 8 [] [] = some (AV.pv (PV.bool r),[]) := by cases h; exact z14
end Go.Proofs.YtdhgdeelagmbpaaGreat
