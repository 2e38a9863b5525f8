/-
  What the laws' arguments read as.
-/
import Derived.Test.YtdhgdeelagmbpaaGreatVaf
import Derived.Test.YtdhgdeelagmbpaaGreatVag
set_option linter.unusedSimpArgs false
set_option linter.unusedVariables false
set_option maxRecDepth 100000
namespace Go.Proofs.YtdhgdeelagmbpaaGreat
open Go Go.Gm
theorem qkz (n : Nat) : Reads Tryz.prog 23 T.Span.enc (fun _ => True) n := by
 have h := Reads.struct (P := Tryz.prog) (t := 23) (c := 2) (n := n) Tryz.underlying23 (by kernel_rfl) (fun _ => by simp [gy,bu,T.Span.qx,qf])
  (xm (c := 1) rfl (by kernel_rfl) (ji (Reads.int (P := Tryz.prog) (t := 3) Tryz.underlying3 (by kernel_rfl) n)) (xm (c := 1) rfl (by kernel_rfl) (ji (Reads.int (P := Tryz.prog) (t := 3) Tryz.underlying3 (by kernel_rfl) n)) (q75 n _)))
 exact (h.map (fun x => T.Span.mk x.1 x.2.1) (fun _ _ => ⟨trivial,by simp [gy,bu,T.Span.qx,qf]⟩)).mono (Nat.le_succ n)
theorem zkz (n : Nat) : Reads Tryz.prog 185 T.Row.enc (fun _ => True) n := by
 have h := Reads.struct (P := Tryz.prog) (t := 185) (c := 2) (n := n) Tryz.underlying185 (by kernel_rfl) (fun _ => by simp [gy,bu,T.Row.qx,qg])
  (xm (c := 1) rfl (by kernel_rfl) (ji (Reads.str (P := Tryz.prog) (t := 9) Tryz.underlying9 (by kernel_rfl) n)) (xm (c := 1) rfl (by kernel_rfl) (ji (Reads.str (P := Tryz.prog) (t := 9) Tryz.underlying9 (by kernel_rfl) n)) (q75 n _)))
 exact (h.map (fun x => T.Row.mk x.1 x.2.1) (fun _ _ => ⟨trivial,by simp [gy,bu,T.Row.qx,qg]⟩)).mono (Nat.le_succ n)
theorem qn6 : ∀ n : Nat,Reads Tryz.prog 35 T.Rx.enc (fun _ => True) n
 | 0 => qr2 Tryz.underlying35
 | n + 1 => by
  have ih := qn6 n
  have h := Reads.struct (P := Tryz.prog) (t := 35) (c := 8) (n := n) Tryz.underlying35 (by kernel_rfl) (fun _ => by simp [gy,bu,T.Row.qx,T.Rx.qx,q5g,qf,slE,qg])
   (xm (c := 1) rfl (by kernel_rfl) (ji (Reads.int (P := Tryz.prog) (t := 3) Tryz.underlying3 (by kernel_rfl) n)) (xm (c := 1) rfl (by kernel_rfl) (ji (Reads.str (P := Tryz.prog) (t := 9) Tryz.underlying9 (by kernel_rfl) n)) (xm (c := 1) rfl (by kernel_rfl) (ji (Reads.bool (P := Tryz.prog) (t := 4) Tryz.underlying4 (by kernel_rfl) n)) (xm (c := 1) rfl (by kernel_rfl) (q9x (P := Tryz.prog) (t := 32) (el := 185) (sz := 2) Tryz.underlying32 (by kernel_rfl) (by kernel_rfl) (by omega) (zkz n)) (xm (c := 1) rfl (by kernel_rfl) (ji (Reads.int (P := Tryz.prog) (t := 3) Tryz.underlying3 (by kernel_rfl) n)) (xm (c := 1) rfl (by kernel_rfl) (ji (Reads.int (P := Tryz.prog) (t := 3) Tryz.underlying3 (by kernel_rfl) n)) (xm (c := 1) rfl (by kernel_rfl) (ji (Reads.bool (P := Tryz.prog) (t := 4) Tryz.underlying4 (by kernel_rfl) n)) (xm (c := 1) rfl (by kernel_rfl) (q9x (P := Tryz.prog) (t := 33) (el := 35) (sz := 8) Tryz.underlying33 (by kernel_rfl) (by kernel_rfl) (by omega) ih) (q75 n _)))))))))
  exact h.map (fun x => T.Rx.mk x.1 x.2.1 x.2.2.1 x.2.2.2.1 x.2.2.2.2.1 x.2.2.2.2.2.1 x.2.2.2.2.2.2.1 x.2.2.2.2.2.2.2.1) (fun _ _ => ⟨trivial,by simp [gy,bu,T.Row.qx,T.Rx.qx,q5g,qf,slE,qg]⟩)
theorem qq6 (n : Nat) : Reads Tryz.prog 160 T.Fmt.enc (fun _ => True) n := by
 have h := Reads.struct (P := Tryz.prog) (t := 160) (c := 5) (n := n) Tryz.underlying160 (by kernel_rfl) (fun _ => by simp [gy,bu,T.Fmt.qx,qf,qg])
  (xm (c := 1) rfl (by kernel_rfl) (ji (Reads.int (P := Tryz.prog) (t := 3) Tryz.underlying3 (by kernel_rfl) n)) (xm (c := 1) rfl (by kernel_rfl) (ji (Reads.int (P := Tryz.prog) (t := 3) Tryz.underlying3 (by kernel_rfl) n)) (xm (c := 1) rfl (by kernel_rfl) (ji (Reads.int (P := Tryz.prog) (t := 3) Tryz.underlying3 (by kernel_rfl) n)) (xm (c := 1) rfl (by kernel_rfl) (ji (Reads.str (P := Tryz.prog) (t := 9) Tryz.underlying9 (by kernel_rfl) n)) (xm (c := 1) rfl (by kernel_rfl) (ji (Reads.str (P := Tryz.prog) (t := 9) Tryz.underlying9 (by kernel_rfl) n)) (q75 n _))))))
 exact (h.map (fun x => T.Fmt.mk x.1 x.2.1 x.2.2.1 x.2.2.2.1 x.2.2.2.2.1) (fun _ _ => ⟨trivial,by simp [gy,bu,T.Fmt.qx,qf,qg]⟩)).mono (Nat.le_succ n)
theorem ze0 (n : Nat) : Reads Tryz.prog 38 T.Form.enc (fun _ => True) n := by
 have h := Reads.struct (P := Tryz.prog) (t := 38) (c := 11) (n := n) Tryz.underlying38 (by kernel_rfl) (fun _ => by simp [gy,bu,T.Fmt.qx,T.Form.qx,T.Rx.qx,q5g,slE])
  (xm (c := 8) rfl (by kernel_rfl) (qn6 n) (xm (c := 1) rfl (by kernel_rfl) (q9x (P := Tryz.prog) (t := 36) (el := 160) (sz := 5) Tryz.underlying36 (by kernel_rfl) (by kernel_rfl) (by omega) (qq6 n)) (xm (c := 1) rfl (by kernel_rfl) (ji (Reads.bool (P := Tryz.prog) (t := 4) Tryz.underlying4 (by kernel_rfl) n)) (xm (c := 1) rfl (by kernel_rfl) (ji (Reads.bool (P := Tryz.prog) (t := 4) Tryz.underlying4 (by kernel_rfl) n)) (q75 n _)))))
 exact (h.map (fun x => T.Form.mk x.1 x.2.1 x.2.2.1 x.2.2.2.1) (fun _ _ => ⟨trivial,by simp [gy,bu,T.Fmt.qx,T.Form.qx,T.Rx.qx,q5g,slE]⟩)).mono (Nat.le_succ n)
theorem zng (n : Nat) : Reads Tryz.prog 41 T.Stop.enc (fun _ => True) n := by
 have h := Reads.struct (P := Tryz.prog) (t := 41) (c := 18) (n := n) Tryz.underlying41 (by kernel_rfl) (fun _ => by simp [gy,bu,T.Form.qx,T.Span.qx,T.Stop.qx,q5g,qf,slE,qg])
  (xm (c := 2) rfl (by kernel_rfl) (qkz n) (xm (c := 1) rfl (by kernel_rfl) (ji (Reads.int (P := Tryz.prog) (t := 3) Tryz.underlying3 (by kernel_rfl) n)) (xm (c := 1) rfl (by kernel_rfl) (ji (Reads.int (P := Tryz.prog) (t := 3) Tryz.underlying3 (by kernel_rfl) n)) (xm (c := 1) rfl (by kernel_rfl) (ji (Reads.bool (P := Tryz.prog) (t := 4) Tryz.underlying4 (by kernel_rfl) n)) (xm (c := 1) rfl (by kernel_rfl) (ji (Reads.bool (P := Tryz.prog) (t := 4) Tryz.underlying4 (by kernel_rfl) n)) (xm (c := 11) rfl (by kernel_rfl) (ze0 n) (xm (c := 1) rfl (by kernel_rfl) (q9x (P := Tryz.prog) (t := 39) (el := 9) (sz := 1) Tryz.underlying39 (by kernel_rfl) (by kernel_rfl) (by omega) (ji (Reads.str (P := Tryz.prog) (t := 9) Tryz.underlying9 (by kernel_rfl) n))) (q75 n _))))))))
 exact (h.map (fun x => T.Stop.mk x.1 x.2.1 x.2.2.1 x.2.2.2.1 x.2.2.2.2.1 x.2.2.2.2.2.1 x.2.2.2.2.2.2.1) (fun _ _ => ⟨trivial,by simp [gy,bu,T.Form.qx,T.Span.qx,T.Stop.qx,q5g,qf,slE,qg]⟩)).mono (Nat.le_succ n)
theorem qy1 (n : Nat) : Reads Tryz.prog 26 T.zf.enc (fun _ => True) n := by
 have h := Reads.struct (P := Tryz.prog) (t := 26) (c := 3) (n := n) Tryz.underlying26 (by kernel_rfl) (fun _ => by simp [gy,bu,T.zf.qx,T.Span.qx,T.Stop.qx,slE])
  (xm (c := 2) rfl (by kernel_rfl) (qkz n) (xm (c := 1) rfl (by kernel_rfl) (q9x (P := Tryz.prog) (t := 24) (el := 41) (sz := 18) Tryz.underlying24 (by kernel_rfl) (by kernel_rfl) (by omega) (zng n)) (q75 n _)))
 exact (h.map (fun x => T.zf.mk x.1 x.2.1) (fun _ _ => ⟨trivial,by simp [gy,bu,T.zf.qx,T.Span.qx,T.Stop.qx,slE]⟩)).mono (Nat.le_succ n)
theorem zoo : q1e Tryz.prog 26 (fun x => .agg (T.zf.enc x)) (fun _ => True) := q1e.struct Tryz.underlying26 qy1
theorem z2f : q1e Tryz.prog 3 (fun x : Int => PV.int IntKind.i64 x) (fun _ => True) := q1e.one Tryz.underlying3 rfl (fun n => (ji (Reads.int (P := Tryz.prog) (t := 3) Tryz.underlying3 (by kernel_rfl) n)))
theorem zay : q1e Tryz.prog 9 (fun x : Bytes => PV.str x) (fun _ => True) := q1e.one Tryz.underlying9 rfl (fun n => (ji (Reads.str (P := Tryz.prog) (t := 9) Tryz.underlying9 (by kernel_rfl) n)))
end Go.Proofs.YtdhgdeelagmbpaaGreat
