/-
  What the laws' arguments read as.
-/
import Derived.Test.YtaglodpkpggdiaaGreatDoorMag
import Derived.Test.YtaglodpkpggdiaaGreatDoorMaf
set_option linter.unusedSimpArgs false
set_option linter.unusedVariables false
set_option maxRecDepth 100000
namespace Go.Proofs.YtaglodpkpggdiaaGreatDoor
open Go Go.Gm
theorem qfv : q40 Tryz.prog 3 (fun x : Int => PV.int IntKind.i64 x) (fun _ => True) := q40.one Tryz.underlying3 rfl (fun n => (qtg (Reads.int (P := Tryz.prog) (t := 3) Tryz.underlying3 (by kernel_rfl) n)))
end Go.Proofs.YtaglodpkpggdiaaGreatDoor
