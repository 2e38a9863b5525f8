/-
  What the laws' arguments read as.
-/
import Derived.Test.YtkbgphcebakcnaaGreatFaf
import Derived.Test.YtkbgphcebakcnaaGreatFag
set_option linter.unusedSimpArgs false
set_option linter.unusedVariables false
set_option maxRecDepth 100000
namespace Go.Proofs.YtkbgphcebakcnaaGreat
open Go Go.Gm
theorem z3o (n : Nat) : Reads Tryz.prog 71 T.Sel.enc (fun _ => True) n := by
 have h := Reads.struct (P := Tryz.prog) (t := 71) (c := 2) (n := n) Tryz.underlying71 (by kernel_rfl) (fun _ => by simp [q1q,q1s,T.Sel.qh,qw])
  (q2j (c := 1) rfl (by kernel_rfl) (q33 (Reads.int (P := Tryz.prog) (t := 3) Tryz.underlying3 (by kernel_rfl) n)) (q2j (c := 1) rfl (by kernel_rfl) (q33 (Reads.int (P := Tryz.prog) (t := 3) Tryz.underlying3 (by kernel_rfl) n)) (q8r n _)))
 exact (h.map (fun x => T.Sel.mk x.1 x.2.1) (fun _ _ => ⟨trivial,by simp [q1q,q1s,T.Sel.qh,qw]⟩)).mono (Nat.le_succ n)
theorem z1h (n : Nat) : Reads Tryz.prog 33 T.Span.enc (fun _ => True) n := by
 have h := Reads.struct (P := Tryz.prog) (t := 33) (c := 2) (n := n) Tryz.underlying33 (by kernel_rfl) (fun _ => by simp [q1q,q1s,T.Span.qh,qw])
  (q2j (c := 1) rfl (by kernel_rfl) (q33 (Reads.int (P := Tryz.prog) (t := 3) Tryz.underlying3 (by kernel_rfl) n)) (q2j (c := 1) rfl (by kernel_rfl) (q33 (Reads.int (P := Tryz.prog) (t := 3) Tryz.underlying3 (by kernel_rfl) n)) (q8r n _)))
 exact (h.map (fun x => T.Span.mk x.1 x.2.1) (fun _ _ => ⟨trivial,by simp [q1q,q1s,T.Span.qh,qw]⟩)).mono (Nat.le_succ n)
theorem qmr (n : Nat) : Reads Tryz.prog 35 T.q9.enc (fun _ => True) n := by
 have h := Reads.struct (P := Tryz.prog) (t := 35) (c := 3) (n := n) Tryz.underlying35 (by kernel_rfl) (fun _ => by simp [q1q,q1s,T.q9.qh,T.Span.qh,q0s])
  (q2j (c := 2) rfl (by kernel_rfl) (z1h n) (q2j (c := 1) rfl (by kernel_rfl) (q33 (Reads.str (P := Tryz.prog) (t := 9) Tryz.underlying9 (by kernel_rfl) n)) (q8r n _)))
 exact (h.map (fun x => T.q9.mk x.1 x.2.1) (fun _ _ => ⟨trivial,by simp [q1q,q1s,T.q9.qh,T.Span.qh,q0s]⟩)).mono (Nat.le_succ n)
theorem qod : yf Tryz.prog 9 (fun x : Bytes => PV.str x) (fun _ => True) := yf.one Tryz.underlying9 rfl (fun n => (q33 (Reads.str (P := Tryz.prog) (t := 9) Tryz.underlying9 (by kernel_rfl) n)))
theorem qyg : yf Tryz.prog 24 (fun x : (Sl T.Sel) => PV.sl x.nil (szc 2 x.l) (List.map T.Sel.enc x.l)) (fun _ => True) := yf.one Tryz.underlying24 rfl (fun n => (qa7 (P := Tryz.prog) (t := 24) (el := 71) (sz := 2) Tryz.underlying24 (by kernel_rfl) (by kernel_rfl) (by omega) (z3o n)))
theorem qtd : yf Tryz.prog 42 (fun x : (Sl T.q9) => PV.sl x.nil (szc 3 x.l) (List.map T.q9.enc x.l)) (fun _ => True) := yf.one Tryz.underlying42 rfl (fun n => (qa7 (P := Tryz.prog) (t := 42) (el := 35) (sz := 3) Tryz.underlying42 (by kernel_rfl) (by kernel_rfl) (by omega) (qmr n)))
end Go.Proofs.YtkbgphcebakcnaaGreat
