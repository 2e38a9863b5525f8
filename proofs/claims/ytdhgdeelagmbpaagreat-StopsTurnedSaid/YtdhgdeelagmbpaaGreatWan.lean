/-
  What the laws' arguments read as.
-/
import Derived.Test.YtdhgdeelagmbpaaGreatWaf
import Derived.Test.YtdhgdeelagmbpaaGreatWag
set_option linter.unusedSimpArgs false
set_option linter.unusedVariables false
set_option maxRecDepth 100000
namespace Go.Proofs.YtdhgdeelagmbpaaGreat
open Go Go.Gm
theorem zfg : q3n Tryz.prog 9 (fun x : Bytes => PV.str x) (fun _ => True) := q3n.one Tryz.underlying9 rfl (fun n => (qk7 (Reads.str (P := Tryz.prog) (t := 9) Tryz.underlying9 (by kernel_rfl) n)))
theorem qhi : q3n Tryz.prog 3 (fun x : Int => PV.int IntKind.i64 x) (fun _ => True) := q3n.one Tryz.underlying3 rfl (fun n => (qk7 (Reads.int (P := Tryz.prog) (t := 3) Tryz.underlying3 (by kernel_rfl) n)))
end Go.Proofs.YtdhgdeelagmbpaaGreat
