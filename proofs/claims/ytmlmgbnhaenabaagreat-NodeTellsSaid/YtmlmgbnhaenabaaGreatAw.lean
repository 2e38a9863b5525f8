/-
  What is asked of a program that is one: closed runs.
-/
import Derived.Test.YtmlmgbnhaenabaaGreatSp
import Derived.Test.YtmlmgbnhaenabaaGreatTy
set_option linter.unusedSimpArgs false
set_option linter.unusedVariables false
set_option maxRecDepth 100000
namespace Go.Proofs.YtmlmgbnhaenabaaGreat
open Go Go.Gm
theorem aw5_run : O.call 5 [] [] = some (.pv (.bool true), []) := orc_call (n := 100) (by kernel_rfl)
theorem aw5_ok {r : Bool} (h : aw5 = some r) : O.call 5 [] [] = some (AV.pv (PV.bool r), []) := by cases h; exact aw5_run
end Go.Proofs.YtmlmgbnhaenabaaGreat
