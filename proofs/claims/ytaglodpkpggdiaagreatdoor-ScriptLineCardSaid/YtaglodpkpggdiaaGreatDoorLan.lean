/-
  What the laws' arguments read as.
-/
import Derived.Test.YtaglodpkpggdiaaGreatDoorLag
import Derived.Test.YtaglodpkpggdiaaGreatDoorLaf
set_option linter.unusedSimpArgs false
set_option linter.unusedVariables false
set_option maxRecDepth 100000
namespace Go.Proofs.YtaglodpkpggdiaaGreatDoor
open Go Go.Gm
theorem zyw (n : Nat) : Reads Tryz.prog 51 T.Span.enc T.Span.ok n := by
 have h := Reads.struct (P := Tryz.prog) (t := 51) (c := 2) (n := n) Tryz.underlying51 (by kernel_rfl) (fun _ => by simp [q28,q2c,T.Span.qd,yn])
  (nz (c := 1) rfl (by kernel_rfl) (q4s (P := Tryz.prog) (t := 3) Tryz.underlying3 (by kernel_rfl) n) (nz (c := 1) rfl (by kernel_rfl) (q4s (P := Tryz.prog) (t := 3) Tryz.underlying3 (by kernel_rfl) n) (q7w n _)))
 exact (h.map (fun x => T.Span.mk x.1 x.2.1) (fun _ hx => ⟨hx,by simp [q28,q2c,T.Span.qd,yn]⟩)).mono (Nat.le_succ n)
theorem zp7 (n : Nat) : Reads Tryz.prog 53 T.qb.enc T.qb.ok n := by
 have h := Reads.struct (P := Tryz.prog) (t := 53) (c := 3) (n := n) Tryz.underlying53 (by kernel_rfl) (fun _ => by simp [q28,q2c,T.qb.qd,T.Span.qd,zn])
  (nz (c := 2) rfl (by kernel_rfl) (zyw n) (nz (c := 1) rfl (by kernel_rfl) (Reads.str (P := Tryz.prog) (t := 9) Tryz.underlying9 (by kernel_rfl) n) (q7w n _)))
 exact (h.map (fun x => T.qb.mk x.1 x.2.1) (fun _ hx => ⟨hx,by simp [q28,q2c,T.qb.qd,T.Span.qd,zn]⟩)).mono (Nat.le_succ n)
theorem z6z (n : Nat) : Reads Tryz.prog 56 T.Sel.enc T.Sel.ok n := by
 have h := Reads.struct (P := Tryz.prog) (t := 56) (c := 2) (n := n) Tryz.underlying56 (by kernel_rfl) (fun _ => by simp [q28,q2c,T.Sel.qd,yn])
  (nz (c := 1) rfl (by kernel_rfl) (q4s (P := Tryz.prog) (t := 3) Tryz.underlying3 (by kernel_rfl) n) (nz (c := 1) rfl (by kernel_rfl) (q4s (P := Tryz.prog) (t := 3) Tryz.underlying3 (by kernel_rfl) n) (q7w n _)))
 exact (h.map (fun x => T.Sel.mk x.1 x.2.1) (fun _ hx => ⟨hx,by simp [q28,q2c,T.Sel.qd,yn]⟩)).mono (Nat.le_succ n)
theorem qmg (n : Nat) : Reads Tryz.prog 45 T.Op.enc T.Op.ok n := by
 have h := Reads.struct (P := Tryz.prog) (t := 45) (c := 7) (n := n) Tryz.underlying45 (by kernel_rfl) (fun _ => by simp [q28,q2c,T.qb.qd,T.Op.qd,T.Sel.qd,q8x,yn,slE,zn])
  (nz (c := 1) rfl (by kernel_rfl) (q4s (P := Tryz.prog) (t := 3) Tryz.underlying3 (by kernel_rfl) n) (nz (c := 1) rfl (by kernel_rfl) (Reads.str (P := Tryz.prog) (t := 9) Tryz.underlying9 (by kernel_rfl) n) (nz (c := 1) rfl (by kernel_rfl) (Reads.str (P := Tryz.prog) (t := 9) Tryz.underlying9 (by kernel_rfl) n) (nz (c := 1) rfl (by kernel_rfl) (q4s (P := Tryz.prog) (t := 3) Tryz.underlying3 (by kernel_rfl) n) (nz (c := 1) rfl (by kernel_rfl) (z1h (Reads.bool (P := Tryz.prog) (t := 4) Tryz.underlying4 (by kernel_rfl) n)) (nz (c := 1) rfl (by kernel_rfl) (qb2 (P := Tryz.prog) (t := 42) (el := 53) (sz := 3) Tryz.underlying42 (by kernel_rfl) (by kernel_rfl) (by omega) (zp7 n)) (nz (c := 1) rfl (by kernel_rfl) (qb2 (P := Tryz.prog) (t := 43) (el := 56) (sz := 2) Tryz.underlying43 (by kernel_rfl) (by kernel_rfl) (by omega) (z6z n)) (q7w n _))))))))
 exact (h.map (fun x => T.Op.mk x.1 x.2.1 x.2.2.1 x.2.2.2.1 x.2.2.2.2.1 x.2.2.2.2.2.1 x.2.2.2.2.2.2.1) (fun _ hx => ⟨hx,by simp [q28,q2c,T.qb.qd,T.Op.qd,T.Sel.qd,q8x,yn,slE,zn]⟩)).mono (Nat.le_succ n)
theorem x3c : q2k Tryz.prog 23 (fun x : (Sl T.Op) => PV.sl x.nil (szc 7 x.l) (List.map T.Op.enc x.l)) (zw T.Op.ok) := q2k.one Tryz.underlying23 rfl (fun n => (qb2 (P := Tryz.prog) (t := 23) (el := 45) (sz := 7) Tryz.underlying23 (by kernel_rfl) (by kernel_rfl) (by omega) (qmg n)))
theorem zym : q2k Tryz.prog 3 (fun x : Int => PV.int IntKind.i64 x) inI := q2k.one Tryz.underlying3 rfl (fun n => (q4s (P := Tryz.prog) (t := 3) Tryz.underlying3 (by kernel_rfl) n))
end Go.Proofs.YtaglodpkpggdiaaGreatDoor
