/-
  What is asked of a program that is one: closed runs.
-/
import Derived.Test.YtkbgphcebakcnaaGreatEaf
import Derived.Test.YtkbgphcebakcnaaGreatEag
set_option linter.unusedSimpArgs false
set_option linter.unusedVariables false
set_option maxRecDepth 100000
namespace Go.Proofs.YtkbgphcebakcnaaGreat
open Go Go.Gm
theorem zjy : O.call 5 [] [] = some (.pv (.bool true),[]) := qh2 (n := 100) (by kernel_rfl)
theorem qe4 {r : Bool} (h : aw5 = some r) : O.call 5 [] [] = some (AV.pv (PV.bool r),[]) := by cases h; exact zjy
end Go.Proofs.YtkbgphcebakcnaaGreat
