/-
  What the laws' arguments read as.
-/
import Derived.Test.YtdhgdeelagmbpaaGreatQaf
import Derived.Test.YtdhgdeelagmbpaaGreatQag
set_option linter.unusedSimpArgs false
set_option linter.unusedVariables false
set_option maxRecDepth 100000
namespace Go.Proofs.YtdhgdeelagmbpaaGreat
open Go Go.Gm
theorem qtc : q7d Tryz.prog 9 (fun x : Bytes => PV.str x) (fun _ => True) := q7d.one Tryz.underlying9 rfl (fun n => (qxn (Reads.str (P := Tryz.prog) (t := 9) Tryz.underlying9 (by kernel_rfl) n)))
end Go.Proofs.YtdhgdeelagmbpaaGreat
