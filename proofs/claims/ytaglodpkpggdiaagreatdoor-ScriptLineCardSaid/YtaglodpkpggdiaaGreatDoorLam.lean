/-
  What the machine's calls come to: the plain functions.
-/
import Derived.Test.YtaglodpkpggdiaaGreatDoorLaj
import Derived.Test.YtaglodpkpggdiaaGreatDoorLak
import Derived.Test.YtaglodpkpggdiaaGreatDoorLal
set_option linter.unusedSimpArgs false
set_option linter.unusedVariables false
set_option maxRecDepth 100000
namespace Go.Proofs.YtaglodpkpggdiaaGreatDoor
open Go Go.Gm
set_option maxHeartbeats 4000000
end Go.Proofs.YtaglodpkpggdiaaGreatDoor
