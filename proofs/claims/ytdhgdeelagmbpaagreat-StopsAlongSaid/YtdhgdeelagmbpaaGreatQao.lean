/-
  What the laws' arguments read as.
-/
import Derived.Test.YtdhgdeelagmbpaaGreatQaf
import Derived.Test.YtdhgdeelagmbpaaGreatQag
set_option linter.unusedSimpArgs false
set_option linter.unusedVariables false
set_option maxRecDepth 100000
namespace Go.Proofs.YtdhgdeelagmbpaaGreat
open Go Go.Gm
theorem zu8 : q1a Tryz.prog 9 (fun x : Bytes => PV.str x) (fun _ => True) := q1a.one Tryz.underlying9 rfl (fun n => (qg2 (Reads.str (P := Tryz.prog) (t := 9) Tryz.underlying9 (by kernel_rfl) n)))
theorem zne : q1a Tryz.prog 3 (fun x : Int => PV.int IntKind.i64 x) (fun _ => True) := q1a.one Tryz.underlying3 rfl (fun n => (qg2 (Reads.int (P := Tryz.prog) (t := 3) Tryz.underlying3 (by kernel_rfl) n)))
theorem zn6 : q1a Tryz.prog 49 (fun x : (Sl Bool) => PV.sl x.nil (szc 1 x.l) (List.map q0h x.l)) (fun _ => True) := q1a.one Tryz.underlying49 rfl (fun n => (ztb (P := Tryz.prog) (t := 49) (el := 4) (sz := 1) Tryz.underlying49 (by kernel_rfl) (by kernel_rfl) (by omega) (qg2 (Reads.bool (P := Tryz.prog) (t := 4) Tryz.underlying4 (by kernel_rfl) n))))
end Go.Proofs.YtdhgdeelagmbpaaGreat
