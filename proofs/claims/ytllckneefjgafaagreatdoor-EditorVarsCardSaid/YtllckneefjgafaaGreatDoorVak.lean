/-
  What the laws' arguments read as.
-/
import Derived.Test.YtllckneefjgafaaGreatDoorVag
import Derived.Test.YtllckneefjgafaaGreatDoorVaf
set_option linter.unusedSimpArgs false
set_option linter.unusedVariables false
set_option maxRecDepth 100000
namespace Go.Proofs.YtllckneefjgafaaGreatDoor
open Go Go.Gm
theorem qvz (n : Nat) : Reads Tryz.prog 107 T.Span.enc (fun _ => True) n := by
 have h := Reads.struct (P := Tryz.prog) (t := 107) (c := 2) (n := n) Tryz.underlying107 (by kernel_rfl) (fun _ => by simp [q0f,q07,T.Span.qc,yo])
  (yc (c := 1) rfl (by kernel_rfl) (gy (Reads.int (P := Tryz.prog) (t := 3) Tryz.underlying3 (by kernel_rfl) n)) (yc (c := 1) rfl (by kernel_rfl) (gy (Reads.int (P := Tryz.prog) (t := 3) Tryz.underlying3 (by kernel_rfl) n)) (q4y n _)))
 exact (h.map (fun x => T.Span.mk x.1 x.2.1) (fun _ _ => ⟨trivial,by simp [q0f,q07,T.Span.qc,yo]⟩)).mono (Nat.le_succ n)
theorem zs3 (n : Nat) : Reads Tryz.prog 109 T.xm.enc (fun _ => True) n := by
 have h := Reads.struct (P := Tryz.prog) (t := 109) (c := 3) (n := n) Tryz.underlying109 (by kernel_rfl) (fun _ => by simp [q0f,q07,T.xm.qc,T.Span.qc,xx])
  (yc (c := 2) rfl (by kernel_rfl) (qvz n) (yc (c := 1) rfl (by kernel_rfl) (gy (Reads.str (P := Tryz.prog) (t := 9) Tryz.underlying9 (by kernel_rfl) n)) (q4y n _)))
 exact (h.map (fun x => T.xm.mk x.1 x.2.1) (fun _ _ => ⟨trivial,by simp [q0f,q07,T.xm.qc,T.Span.qc,xx]⟩)).mono (Nat.le_succ n)
theorem qu5 (n : Nat) : Reads Tryz.prog 47 T.Sel.enc (fun _ => True) n := by
 have h := Reads.struct (P := Tryz.prog) (t := 47) (c := 2) (n := n) Tryz.underlying47 (by kernel_rfl) (fun _ => by simp [q0f,q07,T.Sel.qc,yo])
  (yc (c := 1) rfl (by kernel_rfl) (gy (Reads.int (P := Tryz.prog) (t := 3) Tryz.underlying3 (by kernel_rfl) n)) (yc (c := 1) rfl (by kernel_rfl) (gy (Reads.int (P := Tryz.prog) (t := 3) Tryz.underlying3 (by kernel_rfl) n)) (q4y n _)))
 exact (h.map (fun x => T.Sel.mk x.1 x.2.1) (fun _ _ => ⟨trivial,by simp [q0f,q07,T.Sel.qc,yo]⟩)).mono (Nat.le_succ n)
theorem z8w (n : Nat) : Reads Tryz.prog 25 T.Op.enc (fun _ => True) n := by
 have h := Reads.struct (P := Tryz.prog) (t := 25) (c := 7) (n := n) Tryz.underlying25 (by kernel_rfl) (fun _ => by simp [q0f,q07,T.xm.qc,T.Op.qc,T.Sel.qc,q51,yo,slE,xx])
  (yc (c := 1) rfl (by kernel_rfl) (gy (Reads.int (P := Tryz.prog) (t := 3) Tryz.underlying3 (by kernel_rfl) n)) (yc (c := 1) rfl (by kernel_rfl) (gy (Reads.str (P := Tryz.prog) (t := 9) Tryz.underlying9 (by kernel_rfl) n)) (yc (c := 1) rfl (by kernel_rfl) (gy (Reads.str (P := Tryz.prog) (t := 9) Tryz.underlying9 (by kernel_rfl) n)) (yc (c := 1) rfl (by kernel_rfl) (gy (Reads.int (P := Tryz.prog) (t := 3) Tryz.underlying3 (by kernel_rfl) n)) (yc (c := 1) rfl (by kernel_rfl) (gy (Reads.bool (P := Tryz.prog) (t := 4) Tryz.underlying4 (by kernel_rfl) n)) (yc (c := 1) rfl (by kernel_rfl) (q8g (P := Tryz.prog) (t := 22) (el := 109) (sz := 3) Tryz.underlying22 (by kernel_rfl) (by kernel_rfl) (by omega) (zs3 n)) (yc (c := 1) rfl (by kernel_rfl) (q8g (P := Tryz.prog) (t := 23) (el := 47) (sz := 2) Tryz.underlying23 (by kernel_rfl) (by kernel_rfl) (by omega) (qu5 n)) (q4y n _))))))))
 exact (h.map (fun x => T.Op.mk x.1 x.2.1 x.2.2.1 x.2.2.2.1 x.2.2.2.2.1 x.2.2.2.2.2.1 x.2.2.2.2.2.2.1) (fun _ _ => ⟨trivial,by simp [q0f,q07,T.xm.qc,T.Op.qc,T.Sel.qc,q51,yo,slE,xx]⟩)).mono (Nat.le_succ n)
theorem qc0 : q0b Tryz.prog 9 (fun x : Bytes => PV.str x) (fun _ => True) := q0b.one Tryz.underlying9 rfl (fun n => (gy (Reads.str (P := Tryz.prog) (t := 9) Tryz.underlying9 (by kernel_rfl) n)))
theorem qim : q0b Tryz.prog 25 (fun x => .agg (T.Op.enc x)) (fun _ => True) := q0b.struct Tryz.underlying25 z8w
end Go.Proofs.YtllckneefjgafaaGreatDoor
