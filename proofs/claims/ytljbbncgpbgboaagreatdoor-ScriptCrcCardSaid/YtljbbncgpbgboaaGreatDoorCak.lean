/-
  What the laws' arguments read as.
-/
import Derived.Test.YtljbbncgpbgboaaGreatDoorCaf
import Derived.Test.YtljbbncgpbgboaaGreatDoorCag
set_option linter.unusedSimpArgs false
set_option linter.unusedVariables false
set_option maxRecDepth 100000
namespace Go.Proofs.YtljbbncgpbgboaaGreatDoor
open Go Go.Gm
theorem q97 : q0w Tryz.prog 9 (fun x : Bytes => PV.str x) (fun _ => True) := q0w.one Tryz.underlying9 rfl (fun n => (qhi (Reads.str (P := Tryz.prog) (t := 9) Tryz.underlying9 (by kernel_rfl) n)))
end Go.Proofs.YtljbbncgpbgboaaGreatDoor
