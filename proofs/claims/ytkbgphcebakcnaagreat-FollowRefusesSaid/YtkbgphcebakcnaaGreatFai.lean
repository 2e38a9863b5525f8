/-
  What is asked of a program that is one: closed runs.
-/
import Derived.Test.YtkbgphcebakcnaaGreatFaf
import Derived.Test.YtkbgphcebakcnaaGreatFag
set_option linter.unusedSimpArgs false
set_option linter.unusedVariables false
set_option maxRecDepth 100000
namespace Go.Proofs.YtkbgphcebakcnaaGreat
open Go Go.Gm
theorem quk : O.call 5 [] [] = some (.pv (.bool true),[]) := qe1 (n := 100) (by kernel_rfl)
theorem q00 {r : Bool} (h : aw5 = some r) : O.call 5 [] [] = some (AV.pv (PV.bool r),[]) := by cases h; exact quk
end Go.Proofs.YtkbgphcebakcnaaGreat
