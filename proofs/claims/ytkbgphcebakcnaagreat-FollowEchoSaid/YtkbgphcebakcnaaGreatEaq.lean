/-
  What the laws' arguments read as.
-/
import Derived.Test.YtkbgphcebakcnaaGreatEaf
import Derived.Test.YtkbgphcebakcnaaGreatEag
set_option linter.unusedSimpArgs false
set_option linter.unusedVariables false
set_option maxRecDepth 100000
namespace Go.Proofs.YtkbgphcebakcnaaGreat
open Go Go.Gm
theorem qay : pq Tryz.prog 9 (fun x : Bytes => PV.str x) (fun _ => True) := pq.one Tryz.underlying9 rfl (fun n => (qca (Reads.str (P := Tryz.prog) (t := 9) Tryz.underlying9 (by kernel_rfl) n)))
theorem qgc : pq Tryz.prog 3 (fun x : Int => PV.int IntKind.i64 x) (fun _ => True) := pq.one Tryz.underlying3 rfl (fun n => (qca (Reads.int (P := Tryz.prog) (t := 3) Tryz.underlying3 (by kernel_rfl) n)))
theorem zm7 : pq Tryz.prog 4 (fun x : Bool => PV.bool x) (fun _ => True) := pq.one Tryz.underlying4 rfl (fun n => (qca (Reads.bool (P := Tryz.prog) (t := 4) Tryz.underlying4 (by kernel_rfl) n)))
end Go.Proofs.YtkbgphcebakcnaaGreat
