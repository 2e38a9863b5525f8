/-
  What the laws' arguments read as.
-/
import Derived.Test.YthikhbpbpphaaaaGreatDoorRaf
import Derived.Test.YthikhbpbpphaaaaGreatDoorRag
set_option linter.unusedSimpArgs false
set_option linter.unusedVariables false
set_option maxRecDepth 100000
namespace Go.Proofs.YthikhbpbpphaaaaGreatDoor
open Go Go.Gm
theorem qt7 : q3c Tryz.prog 22 (fun x : (Sl UInt8) => PV.sl x.nil (szc 1 x.l) (List.map qw x.l)) (fun _ => True) := q3c.one Tryz.underlying22 rfl (fun n => (zdx (P := Tryz.prog) (t := 22) (el := 5) (sz := 1) Tryz.underlying22 (by kernel_rfl) (by kernel_rfl) (by omega) (qpf (P := Tryz.prog) (t := 5) Tryz.underlying5 (by kernel_rfl) n)))
end Go.Proofs.YthikhbpbpphaaaaGreatDoor
