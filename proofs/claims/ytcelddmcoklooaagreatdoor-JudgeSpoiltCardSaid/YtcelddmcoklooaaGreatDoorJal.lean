/-
  What the laws' arguments read as.
-/
import Derived.Test.YtcelddmcoklooaaGreatDoorJag
import Derived.Test.YtcelddmcoklooaaGreatDoorJaf
set_option linter.unusedSimpArgs false
set_option linter.unusedVariables false
set_option maxRecDepth 100000
namespace Go.Proofs.YtcelddmcoklooaaGreatDoor
open Go Go.Gm
theorem qb5 : uw Tryz.prog 9 (fun x : Bytes => PV.str x) (fun _ => True) := uw.one Tryz.underlying9 rfl (fun n => (qca (Reads.str (P := Tryz.prog) (t := 9) Tryz.underlying9 (by kernel_rfl) n)))
theorem qsq : uw Tryz.prog 3 (fun x : Int => PV.int IntKind.i64 x) (fun _ => True) := uw.one Tryz.underlying3 rfl (fun n => (qca (Reads.int (P := Tryz.prog) (t := 3) Tryz.underlying3 (by kernel_rfl) n)))
theorem qks : uw Tryz.prog 5 (fun x : UInt8 => PV.int IntKind.u8 (x.toNat : Int)) (fun _ => True) := uw.one Tryz.underlying5 rfl (fun n => (zw4 (P := Tryz.prog) (t := 5) Tryz.underlying5 (by kernel_rfl) n))
end Go.Proofs.YtcelddmcoklooaaGreatDoor
