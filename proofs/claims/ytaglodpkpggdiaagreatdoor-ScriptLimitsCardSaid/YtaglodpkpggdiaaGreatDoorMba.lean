/-
  Scripts: what reads as a line is told so.
-/
import Derived.Test.YtaglodpkpggdiaaGreatDoorMaz
set_option linter.unusedSimpArgs false
set_option linter.unusedVariables false
namespace Go.Proofs.YtaglodpkpggdiaaGreatDoor
open Go Go.Gm
end Go.Proofs.YtaglodpkpggdiaaGreatDoor
