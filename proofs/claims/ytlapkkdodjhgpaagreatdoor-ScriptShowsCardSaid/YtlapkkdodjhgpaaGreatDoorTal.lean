/-
  What the laws' arguments read as.
-/
import Derived.Test.YtlapkkdodjhgpaaGreatDoorTag
import Derived.Test.YtlapkkdodjhgpaaGreatDoorTaf
set_option linter.unusedSimpArgs false
set_option linter.unusedVariables false
set_option maxRecDepth 100000
namespace Go.Proofs.YtlapkkdodjhgpaaGreatDoor
open Go Go.Gm
theorem zak (n : Nat) : Reads Tryz.prog 39 T.Span.enc T.Span.ok n := by
 have h := Reads.struct (P := Tryz.prog) (t := 39) (c := 2) (n := n) Tryz.underlying39 (by kernel_rfl) (fun _ => by simp [q1f,q0w,T.Span.qc,kz])
  (uh (c := 1) rfl (by kernel_rfl) (q3k (P := Tryz.prog) (t := 3) Tryz.underlying3 (by kernel_rfl) n) (uh (c := 1) rfl (by kernel_rfl) (q3k (P := Tryz.prog) (t := 3) Tryz.underlying3 (by kernel_rfl) n) (q7b n _)))
 exact (h.map (fun x => T.Span.mk x.1 x.2.1) (fun _ hx => ⟨hx,by simp [q1f,q0w,T.Span.qc,kz]⟩)).mono (Nat.le_succ n)
theorem zqd (n : Nat) : Reads Tryz.prog 41 T.qj.enc T.qj.ok n := by
 have h := Reads.struct (P := Tryz.prog) (t := 41) (c := 3) (n := n) Tryz.underlying41 (by kernel_rfl) (fun _ => by simp [q1f,q0w,T.qj.qc,T.Span.qc,zl])
  (uh (c := 2) rfl (by kernel_rfl) (zak n) (uh (c := 1) rfl (by kernel_rfl) (Reads.str (P := Tryz.prog) (t := 9) Tryz.underlying9 (by kernel_rfl) n) (q7b n _)))
 exact (h.map (fun x => T.qj.mk x.1 x.2.1) (fun _ hx => ⟨hx,by simp [q1f,q0w,T.qj.qc,T.Span.qc,zl]⟩)).mono (Nat.le_succ n)
theorem qv2 (n : Nat) : Reads Tryz.prog 77 T.Sel.enc T.Sel.ok n := by
 have h := Reads.struct (P := Tryz.prog) (t := 77) (c := 2) (n := n) Tryz.underlying77 (by kernel_rfl) (fun _ => by simp [q1f,q0w,T.Sel.qc,kz])
  (uh (c := 1) rfl (by kernel_rfl) (q3k (P := Tryz.prog) (t := 3) Tryz.underlying3 (by kernel_rfl) n) (uh (c := 1) rfl (by kernel_rfl) (q3k (P := Tryz.prog) (t := 3) Tryz.underlying3 (by kernel_rfl) n) (q7b n _)))
 exact (h.map (fun x => T.Sel.mk x.1 x.2.1) (fun _ hx => ⟨hx,by simp [q1f,q0w,T.Sel.qc,kz]⟩)).mono (Nat.le_succ n)
theorem qmm (n : Nat) : Reads Tryz.prog 36 T.Op.enc T.Op.ok n := by
 have h := Reads.struct (P := Tryz.prog) (t := 36) (c := 7) (n := n) Tryz.underlying36 (by kernel_rfl) (fun _ => by simp [q1f,q0w,T.qj.qc,T.Op.qc,T.Sel.qc,q65,kz,slE,zl])
  (uh (c := 1) rfl (by kernel_rfl) (q3k (P := Tryz.prog) (t := 3) Tryz.underlying3 (by kernel_rfl) n) (uh (c := 1) rfl (by kernel_rfl) (Reads.str (P := Tryz.prog) (t := 9) Tryz.underlying9 (by kernel_rfl) n) (uh (c := 1) rfl (by kernel_rfl) (Reads.str (P := Tryz.prog) (t := 9) Tryz.underlying9 (by kernel_rfl) n) (uh (c := 1) rfl (by kernel_rfl) (q3k (P := Tryz.prog) (t := 3) Tryz.underlying3 (by kernel_rfl) n) (uh (c := 1) rfl (by kernel_rfl) (qjm (Reads.bool (P := Tryz.prog) (t := 4) Tryz.underlying4 (by kernel_rfl) n)) (uh (c := 1) rfl (by kernel_rfl) (q69 (P := Tryz.prog) (t := 33) (el := 41) (sz := 3) Tryz.underlying33 (by kernel_rfl) (by kernel_rfl) (by omega) (zqd n)) (uh (c := 1) rfl (by kernel_rfl) (q69 (P := Tryz.prog) (t := 34) (el := 77) (sz := 2) Tryz.underlying34 (by kernel_rfl) (by kernel_rfl) (by omega) (qv2 n)) (q7b n _))))))))
 exact (h.map (fun x => T.Op.mk x.1 x.2.1 x.2.2.1 x.2.2.2.1 x.2.2.2.2.1 x.2.2.2.2.2.1 x.2.2.2.2.2.2.1) (fun _ hx => ⟨hx,by simp [q1f,q0w,T.qj.qc,T.Op.qc,T.Sel.qc,q65,kz,slE,zl]⟩)).mono (Nat.le_succ n)
theorem qp8 : q0x Tryz.prog 22 (fun x : (Sl Int) => PV.sl x.nil (szc 1 x.l) (List.map (kE IntKind.u32) x.l)) (zn inU) := q0x.one Tryz.underlying22 rfl (fun n => (q69 (P := Tryz.prog) (t := 22) (el := 47) (sz := 1) Tryz.underlying22 (by kernel_rfl) (by kernel_rfl) (by omega) (z9y (P := Tryz.prog) (t := 47) Tryz.underlying47 (by kernel_rfl) n)))
theorem z0h : q0x Tryz.prog 23 (fun x : (Sl T.Op) => PV.sl x.nil (szc 7 x.l) (List.map T.Op.enc x.l)) (zn T.Op.ok) := q0x.one Tryz.underlying23 rfl (fun n => (q69 (P := Tryz.prog) (t := 23) (el := 36) (sz := 7) Tryz.underlying23 (by kernel_rfl) (by kernel_rfl) (by omega) (qmm n)))
end Go.Proofs.YtlapkkdodjhgpaaGreatDoor
