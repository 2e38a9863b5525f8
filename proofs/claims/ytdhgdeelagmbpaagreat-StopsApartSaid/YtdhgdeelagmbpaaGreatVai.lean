/-
  What is asked of a program that is one: closed runs.
-/
import Derived.Test.YtdhgdeelagmbpaaGreatVaf
import Derived.Test.YtdhgdeelagmbpaaGreatVag
set_option linter.unusedSimpArgs false
set_option linter.unusedVariables false
set_option maxRecDepth 100000
namespace Go.Proofs.YtdhgdeelagmbpaaGreat
open Go Go.Gm
theorem qt2 : O.call 8 [] [] = some (.pv (.bool true),[]) := qi1 (n := 100) (by kernel_rfl)
theorem qa5 {r : Bool} (h : aw8 = some r) : O.call 8 [] [] = some (AV.pv (PV.bool r),[]) := by cases h; exact qt2
end Go.Proofs.YtdhgdeelagmbpaaGreat
