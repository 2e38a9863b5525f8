/-
  Selections in order, edits that may be: what ends, and with what.
-/
import Derived.Test.YtkbgphcebakcnaaGreatEas
set_option linter.unusedSimpArgs false
set_option linter.unusedVariables false
namespace Go.Proofs.YtkbgphcebakcnaaGreat
open Go Go.Gm
theorem xc {n k : Nat} (h : n ≤ 2 ^ 30) (hk : k ≤ 2 ^ 16 := by omega) : qj n k = true := qp5 h hk
def okS (n : Int) (s : T.Span) : Prop := 0 ≤ s.frm ∧ s.frm ≤ s.to ∧ s.to ≤ n
end Go.Proofs.YtkbgphcebakcnaaGreat
