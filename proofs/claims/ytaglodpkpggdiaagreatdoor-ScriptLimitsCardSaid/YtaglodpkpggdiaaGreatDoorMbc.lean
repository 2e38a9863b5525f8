/-
  How much operations are: what the laws let in.
-/
import Derived.Test.YtaglodpkpggdiaaGreatDoorMar
set_option linter.unusedSimpArgs false
set_option linter.unusedVariables false
namespace Go.Proofs.YtaglodpkpggdiaaGreatDoor
open Go Go.Gm
end Go.Proofs.YtaglodpkpggdiaaGreatDoor
