/-
  What the laws' arguments read as.
-/
import Derived.Test.YtaglodpkpggdiaaGreatDoorAag
import Derived.Test.YtaglodpkpggdiaaGreatDoorAaf
set_option linter.unusedSimpArgs false
set_option linter.unusedVariables false
set_option maxRecDepth 100000
namespace Go.Proofs.YtaglodpkpggdiaaGreatDoor
open Go Go.Gm
theorem zu7 (n : Nat) : Reads Tryz.prog 51 T.Span.enc T.Span.ok n := by
 have h := Reads.struct (P := Tryz.prog) (t := 51) (c := 2) (n := n) Tryz.underlying51 (by kernel_rfl) (fun _ => by simp [q2m,q1t,T.Span.qd,yx])
  (ng (c := 1) rfl (by kernel_rfl) (q67 (P := Tryz.prog) (t := 3) Tryz.underlying3 (by kernel_rfl) n) (ng (c := 1) rfl (by kernel_rfl) (q67 (P := Tryz.prog) (t := 3) Tryz.underlying3 (by kernel_rfl) n) (q8o n _)))
 exact (h.map (fun x => T.Span.mk x.1 x.2.1) (fun _ hx => ⟨hx,by simp [q2m,q1t,T.Span.qd,yx]⟩)).mono (Nat.le_succ n)
theorem zr1 (n : Nat) : Reads Tryz.prog 53 T.qb.enc T.qb.ok n := by
 have h := Reads.struct (P := Tryz.prog) (t := 53) (c := 3) (n := n) Tryz.underlying53 (by kernel_rfl) (fun _ => by simp [q2m,q1t,T.qb.qd,T.Span.qd,zu])
  (ng (c := 2) rfl (by kernel_rfl) (zu7 n) (ng (c := 1) rfl (by kernel_rfl) (Reads.str (P := Tryz.prog) (t := 9) Tryz.underlying9 (by kernel_rfl) n) (q8o n _)))
 exact (h.map (fun x => T.qb.mk x.1 x.2.1) (fun _ hx => ⟨hx,by simp [q2m,q1t,T.qb.qd,T.Span.qd,zu]⟩)).mono (Nat.le_succ n)
theorem zcu (n : Nat) : Reads Tryz.prog 56 T.Sel.enc T.Sel.ok n := by
 have h := Reads.struct (P := Tryz.prog) (t := 56) (c := 2) (n := n) Tryz.underlying56 (by kernel_rfl) (fun _ => by simp [q2m,q1t,T.Sel.qd,yx])
  (ng (c := 1) rfl (by kernel_rfl) (q67 (P := Tryz.prog) (t := 3) Tryz.underlying3 (by kernel_rfl) n) (ng (c := 1) rfl (by kernel_rfl) (q67 (P := Tryz.prog) (t := 3) Tryz.underlying3 (by kernel_rfl) n) (q8o n _)))
 exact (h.map (fun x => T.Sel.mk x.1 x.2.1) (fun _ hx => ⟨hx,by simp [q2m,q1t,T.Sel.qd,yx]⟩)).mono (Nat.le_succ n)
theorem zc0 (n : Nat) : Reads Tryz.prog 45 T.Op.enc T.Op.ok n := by
 have h := Reads.struct (P := Tryz.prog) (t := 45) (c := 7) (n := n) Tryz.underlying45 (by kernel_rfl) (fun _ => by simp [q2m,q1t,T.qb.qd,T.Op.qd,T.Sel.qd,q9a,yx,slE,zu])
  (ng (c := 1) rfl (by kernel_rfl) (q67 (P := Tryz.prog) (t := 3) Tryz.underlying3 (by kernel_rfl) n) (ng (c := 1) rfl (by kernel_rfl) (Reads.str (P := Tryz.prog) (t := 9) Tryz.underlying9 (by kernel_rfl) n) (ng (c := 1) rfl (by kernel_rfl) (Reads.str (P := Tryz.prog) (t := 9) Tryz.underlying9 (by kernel_rfl) n) (ng (c := 1) rfl (by kernel_rfl) (q67 (P := Tryz.prog) (t := 3) Tryz.underlying3 (by kernel_rfl) n) (ng (c := 1) rfl (by kernel_rfl) (zfc (Reads.bool (P := Tryz.prog) (t := 4) Tryz.underlying4 (by kernel_rfl) n)) (ng (c := 1) rfl (by kernel_rfl) (q7l (P := Tryz.prog) (t := 42) (el := 53) (sz := 3) Tryz.underlying42 (by kernel_rfl) (by kernel_rfl) (by omega) (zr1 n)) (ng (c := 1) rfl (by kernel_rfl) (q7l (P := Tryz.prog) (t := 43) (el := 56) (sz := 2) Tryz.underlying43 (by kernel_rfl) (by kernel_rfl) (by omega) (zcu n)) (q8o n _))))))))
 exact (h.map (fun x => T.Op.mk x.1 x.2.1 x.2.2.1 x.2.2.2.1 x.2.2.2.2.1 x.2.2.2.2.2.1 x.2.2.2.2.2.2.1) (fun _ hx => ⟨hx,by simp [q2m,q1t,T.qb.qd,T.Op.qd,T.Sel.qd,q9a,yx,slE,zu]⟩)).mono (Nat.le_succ n)
theorem ztr : q05 Tryz.prog 22 (fun x : (Sl Int) => PV.sl x.nil (szc 1 x.l) (List.map (kE IntKind.u32) x.l)) (zo inU) := q05.one Tryz.underlying22 rfl (fun n => (q7l (P := Tryz.prog) (t := 22) (el := 37) (sz := 1) Tryz.underlying22 (by kernel_rfl) (by kernel_rfl) (by omega) (qq2 (P := Tryz.prog) (t := 37) Tryz.underlying37 (by kernel_rfl) n)))
theorem zha : q05 Tryz.prog 23 (fun x : (Sl T.Op) => PV.sl x.nil (szc 7 x.l) (List.map T.Op.enc x.l)) (zo T.Op.ok) := q05.one Tryz.underlying23 rfl (fun n => (q7l (P := Tryz.prog) (t := 23) (el := 45) (sz := 7) Tryz.underlying23 (by kernel_rfl) (by kernel_rfl) (by omega) (zc0 n)))
theorem zvm : q05 Tryz.prog 24 (fun x : (Sl UInt8) => PV.sl x.nil (szc 1 x.l) (List.map qp x.l)) (zo xx) := q05.one Tryz.underlying24 rfl (fun n => (q7l (P := Tryz.prog) (t := 24) (el := 5) (sz := 1) Tryz.underlying24 (by kernel_rfl) (by kernel_rfl) (by omega) (zgk (P := Tryz.prog) (t := 5) Tryz.underlying5 (by kernel_rfl) n)))
end Go.Proofs.YtaglodpkpggdiaaGreatDoor
