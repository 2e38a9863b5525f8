/-
  What the laws' arguments read as.
-/
import Derived.Test.YtdhgdeelagmbpaaSp
import Derived.Test.YtdhgdeelagmbpaaTy
set_option linter.unusedSimpArgs false
set_option linter.unusedVariables false
set_option maxRecDepth 100000
namespace Go.Proofs.Ytdhgdeelagmbpaa
open Go Go.Gm
theorem rdv29 : ReadsV Try.prog 29 (fun x : (Sl Int) => PV.sl x.nil (szc 1 x.l) (List.map intE x.l)) (fun _ => True) := ReadsV.one Try.underlying29 rfl (fun n => (rdSl (P := Try.prog) (t := 29) (el := 3) (sz := 1) Try.underlying29 (by kernel_rfl) (by kernel_rfl) (by omega) (rdAny (Reads.int (P := Try.prog) (t := 3) Try.underlying3 (by kernel_rfl) n))))

theorem rkv29 : ReadsV Try.prog 29 (fun x : (Sl Int) => PV.sl x.nil (szc 1 x.l) (List.map intE x.l)) (slOk inI) := ReadsV.one Try.underlying29 rfl (fun n => (rkSl (P := Try.prog) (t := 29) (el := 3) (sz := 1) Try.underlying29 (by kernel_rfl) (by kernel_rfl) (by omega) (rkInt (P := Try.prog) (t := 3) Try.underlying3 (by kernel_rfl) n)))
end Go.Proofs.Ytdhgdeelagmbpaa
