/-
  Scripts: operations that are told well.
-/
import Derived.Test.YtaglodpkpggdiaaGreatDoorMbf
set_option linter.unusedSimpArgs false
set_option linter.unusedVariables false
namespace Go.Proofs.YtaglodpkpggdiaaGreatDoor
open Go Go.Gm
end Go.Proofs.YtaglodpkpggdiaaGreatDoor
