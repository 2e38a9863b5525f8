/-
  What the laws' arguments read as.
-/
import Derived.Test.YtdhgdeelagmbpaaSp
import Derived.Test.YtdhgdeelagmbpaaTy
set_option linter.unusedSimpArgs false
set_option linter.unusedVariables false
set_option maxRecDepth 100000
namespace Go.Proofs.Ytdhgdeelagmbpaa
open Go Go.Gm
theorem rd_Span (n : Nat) : Reads Try.prog 23 T.Span.enc (fun _ => True) n := by
  have h := Reads.struct (P := Try.prog) (t := 23) (c := 2) (n := n) Try.underlying23 (by kernel_rfl) (fun _ => by simp [pairE, nilE, T.Span.enc_eq, intE])
    (fCons (c := 1) rfl (by kernel_rfl) (rdAny (Reads.int (P := Try.prog) (t := 3) Try.underlying3 (by kernel_rfl) n)) (fCons (c := 1) rfl (by kernel_rfl) (rdAny (Reads.int (P := Try.prog) (t := 3) Try.underlying3 (by kernel_rfl) n)) (fNil n _)))
  exact (h.map (fun x => T.Span.mk x.1 x.2.1) (fun _ _ => ⟨trivial, by simp [pairE, nilE, T.Span.enc_eq, intE]⟩)).mono (Nat.le_succ n)

theorem rd_Row (n : Nat) : Reads Try.prog 115 T.Row.enc (fun _ => True) n := by
  have h := Reads.struct (P := Try.prog) (t := 115) (c := 2) (n := n) Try.underlying115 (by kernel_rfl) (fun _ => by simp [pairE, nilE, T.Row.enc_eq, strE])
    (fCons (c := 1) rfl (by kernel_rfl) (rdAny (Reads.str (P := Try.prog) (t := 9) Try.underlying9 (by kernel_rfl) n)) (fCons (c := 1) rfl (by kernel_rfl) (rdAny (Reads.str (P := Try.prog) (t := 9) Try.underlying9 (by kernel_rfl) n)) (fNil n _)))
  exact (h.map (fun x => T.Row.mk x.1 x.2.1) (fun _ _ => ⟨trivial, by simp [pairE, nilE, T.Row.enc_eq, strE]⟩)).mono (Nat.le_succ n)

theorem rd_Rx : ∀ n : Nat, Reads Try.prog 34 T.Rx.enc (fun _ => True) n
  | 0 => rdNone Try.underlying34
  | n + 1 => by
    have ih := rd_Rx n
    have h := Reads.struct (P := Try.prog) (t := 34) (c := 8) (n := n) Try.underlying34 (by kernel_rfl) (fun _ => by simp [pairE, nilE, T.Row.enc_eq, T.Rx.enc_eq, boolE, intE, slE, strE])
      (fCons (c := 1) rfl (by kernel_rfl) (rdAny (Reads.int (P := Try.prog) (t := 3) Try.underlying3 (by kernel_rfl) n)) (fCons (c := 1) rfl (by kernel_rfl) (rdAny (Reads.str (P := Try.prog) (t := 9) Try.underlying9 (by kernel_rfl) n)) (fCons (c := 1) rfl (by kernel_rfl) (rdAny (Reads.bool (P := Try.prog) (t := 4) Try.underlying4 (by kernel_rfl) n)) (fCons (c := 1) rfl (by kernel_rfl) (rdSl (P := Try.prog) (t := 31) (el := 115) (sz := 2) Try.underlying31 (by kernel_rfl) (by kernel_rfl) (by omega) (rd_Row n)) (fCons (c := 1) rfl (by kernel_rfl) (rdAny (Reads.int (P := Try.prog) (t := 3) Try.underlying3 (by kernel_rfl) n)) (fCons (c := 1) rfl (by kernel_rfl) (rdAny (Reads.int (P := Try.prog) (t := 3) Try.underlying3 (by kernel_rfl) n)) (fCons (c := 1) rfl (by kernel_rfl) (rdAny (Reads.bool (P := Try.prog) (t := 4) Try.underlying4 (by kernel_rfl) n)) (fCons (c := 1) rfl (by kernel_rfl) (rdSl (P := Try.prog) (t := 32) (el := 34) (sz := 8) Try.underlying32 (by kernel_rfl) (by kernel_rfl) (by omega) ih) (fNil n _)))))))))
    exact h.map (fun x => T.Rx.mk x.1 x.2.1 x.2.2.1 x.2.2.2.1 x.2.2.2.2.1 x.2.2.2.2.2.1 x.2.2.2.2.2.2.1 x.2.2.2.2.2.2.2.1) (fun _ _ => ⟨trivial, by simp [pairE, nilE, T.Row.enc_eq, T.Rx.enc_eq, boolE, intE, slE, strE]⟩)

theorem rd_Fmt (n : Nat) : Reads Try.prog 117 T.Fmt.enc (fun _ => True) n := by
  have h := Reads.struct (P := Try.prog) (t := 117) (c := 5) (n := n) Try.underlying117 (by kernel_rfl) (fun _ => by simp [pairE, nilE, T.Fmt.enc_eq, intE, strE])
    (fCons (c := 1) rfl (by kernel_rfl) (rdAny (Reads.int (P := Try.prog) (t := 3) Try.underlying3 (by kernel_rfl) n)) (fCons (c := 1) rfl (by kernel_rfl) (rdAny (Reads.int (P := Try.prog) (t := 3) Try.underlying3 (by kernel_rfl) n)) (fCons (c := 1) rfl (by kernel_rfl) (rdAny (Reads.int (P := Try.prog) (t := 3) Try.underlying3 (by kernel_rfl) n)) (fCons (c := 1) rfl (by kernel_rfl) (rdAny (Reads.str (P := Try.prog) (t := 9) Try.underlying9 (by kernel_rfl) n)) (fCons (c := 1) rfl (by kernel_rfl) (rdAny (Reads.str (P := Try.prog) (t := 9) Try.underlying9 (by kernel_rfl) n)) (fNil n _))))))
  exact (h.map (fun x => T.Fmt.mk x.1 x.2.1 x.2.2.1 x.2.2.2.1 x.2.2.2.2.1) (fun _ _ => ⟨trivial, by simp [pairE, nilE, T.Fmt.enc_eq, intE, strE]⟩)).mono (Nat.le_succ n)

theorem rd_Form (n : Nat) : Reads Try.prog 37 T.Form.enc (fun _ => True) n := by
  have h := Reads.struct (P := Try.prog) (t := 37) (c := 11) (n := n) Try.underlying37 (by kernel_rfl) (fun _ => by simp [pairE, nilE, T.Fmt.enc_eq, T.Form.enc_eq, T.Rx.enc_eq, boolE, slE])
    (fCons (c := 8) rfl (by kernel_rfl) (rd_Rx n) (fCons (c := 1) rfl (by kernel_rfl) (rdSl (P := Try.prog) (t := 35) (el := 117) (sz := 5) Try.underlying35 (by kernel_rfl) (by kernel_rfl) (by omega) (rd_Fmt n)) (fCons (c := 1) rfl (by kernel_rfl) (rdAny (Reads.bool (P := Try.prog) (t := 4) Try.underlying4 (by kernel_rfl) n)) (fCons (c := 1) rfl (by kernel_rfl) (rdAny (Reads.bool (P := Try.prog) (t := 4) Try.underlying4 (by kernel_rfl) n)) (fNil n _)))))
  exact (h.map (fun x => T.Form.mk x.1 x.2.1 x.2.2.1 x.2.2.2.1) (fun _ _ => ⟨trivial, by simp [pairE, nilE, T.Fmt.enc_eq, T.Form.enc_eq, T.Rx.enc_eq, boolE, slE]⟩)).mono (Nat.le_succ n)

theorem rd_Stop (n : Nat) : Reads Try.prog 40 T.Stop.enc (fun _ => True) n := by
  have h := Reads.struct (P := Try.prog) (t := 40) (c := 18) (n := n) Try.underlying40 (by kernel_rfl) (fun _ => by simp [pairE, nilE, T.Form.enc_eq, T.Span.enc_eq, T.Stop.enc_eq, boolE, intE, slE, strE])
    (fCons (c := 2) rfl (by kernel_rfl) (rd_Span n) (fCons (c := 1) rfl (by kernel_rfl) (rdAny (Reads.int (P := Try.prog) (t := 3) Try.underlying3 (by kernel_rfl) n)) (fCons (c := 1) rfl (by kernel_rfl) (rdAny (Reads.int (P := Try.prog) (t := 3) Try.underlying3 (by kernel_rfl) n)) (fCons (c := 1) rfl (by kernel_rfl) (rdAny (Reads.bool (P := Try.prog) (t := 4) Try.underlying4 (by kernel_rfl) n)) (fCons (c := 1) rfl (by kernel_rfl) (rdAny (Reads.bool (P := Try.prog) (t := 4) Try.underlying4 (by kernel_rfl) n)) (fCons (c := 11) rfl (by kernel_rfl) (rd_Form n) (fCons (c := 1) rfl (by kernel_rfl) (rdSl (P := Try.prog) (t := 38) (el := 9) (sz := 1) Try.underlying38 (by kernel_rfl) (by kernel_rfl) (by omega) (rdAny (Reads.str (P := Try.prog) (t := 9) Try.underlying9 (by kernel_rfl) n))) (fNil n _))))))))
  exact (h.map (fun x => T.Stop.mk x.1 x.2.1 x.2.2.1 x.2.2.2.1 x.2.2.2.2.1 x.2.2.2.2.2.1 x.2.2.2.2.2.2.1) (fun _ _ => ⟨trivial, by simp [pairE, nilE, T.Form.enc_eq, T.Span.enc_eq, T.Stop.enc_eq, boolE, intE, slE, strE]⟩)).mono (Nat.le_succ n)

theorem rd_Inst (n : Nat) : Reads Try.prog 26 T.Inst.enc (fun _ => True) n := by
  have h := Reads.struct (P := Try.prog) (t := 26) (c := 3) (n := n) Try.underlying26 (by kernel_rfl) (fun _ => by simp [pairE, nilE, T.Inst.enc_eq, T.Span.enc_eq, T.Stop.enc_eq, slE])
    (fCons (c := 2) rfl (by kernel_rfl) (rd_Span n) (fCons (c := 1) rfl (by kernel_rfl) (rdSl (P := Try.prog) (t := 24) (el := 40) (sz := 18) Try.underlying24 (by kernel_rfl) (by kernel_rfl) (by omega) (rd_Stop n)) (fNil n _)))
  exact (h.map (fun x => T.Inst.mk x.1 x.2.1) (fun _ _ => ⟨trivial, by simp [pairE, nilE, T.Inst.enc_eq, T.Span.enc_eq, T.Stop.enc_eq, slE]⟩)).mono (Nat.le_succ n)

theorem rk_Span (n : Nat) : Reads Try.prog 23 T.Span.enc T.Span.ok n := by
  have h := Reads.struct (P := Try.prog) (t := 23) (c := 2) (n := n) Try.underlying23 (by kernel_rfl) (fun _ => by simp [pairE, nilE, T.Span.enc_eq, intE])
    (gCons (c := 1) rfl (by kernel_rfl) (rkInt (P := Try.prog) (t := 3) Try.underlying3 (by kernel_rfl) n) (gCons (c := 1) rfl (by kernel_rfl) (rkInt (P := Try.prog) (t := 3) Try.underlying3 (by kernel_rfl) n) (fNil n _)))
  exact (h.map (fun x => T.Span.mk x.1 x.2.1) (fun _ hx => ⟨hx, by simp [pairE, nilE, T.Span.enc_eq, intE]⟩)).mono (Nat.le_succ n)

theorem rk_Row (n : Nat) : Reads Try.prog 115 T.Row.enc T.Row.ok n := by
  have h := Reads.struct (P := Try.prog) (t := 115) (c := 2) (n := n) Try.underlying115 (by kernel_rfl) (fun _ => by simp [pairE, nilE, T.Row.enc_eq, strE])
    (gCons (c := 1) rfl (by kernel_rfl) (Reads.str (P := Try.prog) (t := 9) Try.underlying9 (by kernel_rfl) n) (gCons (c := 1) rfl (by kernel_rfl) (Reads.str (P := Try.prog) (t := 9) Try.underlying9 (by kernel_rfl) n) (fNil n _)))
  exact (h.map (fun x => T.Row.mk x.1 x.2.1) (fun _ hx => ⟨hx, by simp [pairE, nilE, T.Row.enc_eq, strE]⟩)).mono (Nat.le_succ n)

theorem rk_Fmt (n : Nat) : Reads Try.prog 117 T.Fmt.enc T.Fmt.ok n := by
  have h := Reads.struct (P := Try.prog) (t := 117) (c := 5) (n := n) Try.underlying117 (by kernel_rfl) (fun _ => by simp [pairE, nilE, T.Fmt.enc_eq, intE, strE])
    (gCons (c := 1) rfl (by kernel_rfl) (rkInt (P := Try.prog) (t := 3) Try.underlying3 (by kernel_rfl) n) (gCons (c := 1) rfl (by kernel_rfl) (rkInt (P := Try.prog) (t := 3) Try.underlying3 (by kernel_rfl) n) (gCons (c := 1) rfl (by kernel_rfl) (rkInt (P := Try.prog) (t := 3) Try.underlying3 (by kernel_rfl) n) (gCons (c := 1) rfl (by kernel_rfl) (Reads.str (P := Try.prog) (t := 9) Try.underlying9 (by kernel_rfl) n) (gCons (c := 1) rfl (by kernel_rfl) (Reads.str (P := Try.prog) (t := 9) Try.underlying9 (by kernel_rfl) n) (fNil n _))))))
  exact (h.map (fun x => T.Fmt.mk x.1 x.2.1 x.2.2.1 x.2.2.2.1 x.2.2.2.2.1) (fun _ hx => ⟨hx, by simp [pairE, nilE, T.Fmt.enc_eq, intE, strE]⟩)).mono (Nat.le_succ n)

theorem rk_Form (n : Nat) : Reads Try.prog 37 T.Form.enc T.Form.ok n := by
  have h := Reads.struct (P := Try.prog) (t := 37) (c := 11) (n := n) Try.underlying37 (by kernel_rfl) (fun _ => by simp [pairE, nilE, T.Fmt.enc_eq, T.Form.enc_eq, T.Rx.enc_eq, boolE, slE])
    (gCons (c := 8) rfl (by kernel_rfl) (rd_Rx n) (gCons (c := 1) rfl (by kernel_rfl) (rkSl (P := Try.prog) (t := 35) (el := 117) (sz := 5) Try.underlying35 (by kernel_rfl) (by kernel_rfl) (by omega) (rk_Fmt n)) (gCons (c := 1) rfl (by kernel_rfl) (rdAny (Reads.bool (P := Try.prog) (t := 4) Try.underlying4 (by kernel_rfl) n)) (gCons (c := 1) rfl (by kernel_rfl) (rdAny (Reads.bool (P := Try.prog) (t := 4) Try.underlying4 (by kernel_rfl) n)) (fNil n _)))))
  exact (h.map (fun x => T.Form.mk x.1 x.2.1 x.2.2.1 x.2.2.2.1) (fun _ hx => ⟨hx, by simp [pairE, nilE, T.Fmt.enc_eq, T.Form.enc_eq, T.Rx.enc_eq, boolE, slE]⟩)).mono (Nat.le_succ n)

theorem rk_Stop (n : Nat) : Reads Try.prog 40 T.Stop.enc T.Stop.ok n := by
  have h := Reads.struct (P := Try.prog) (t := 40) (c := 18) (n := n) Try.underlying40 (by kernel_rfl) (fun _ => by simp [pairE, nilE, T.Form.enc_eq, T.Span.enc_eq, T.Stop.enc_eq, boolE, intE, slE, strE])
    (gCons (c := 2) rfl (by kernel_rfl) (rk_Span n) (gCons (c := 1) rfl (by kernel_rfl) (rkInt (P := Try.prog) (t := 3) Try.underlying3 (by kernel_rfl) n) (gCons (c := 1) rfl (by kernel_rfl) (rkInt (P := Try.prog) (t := 3) Try.underlying3 (by kernel_rfl) n) (gCons (c := 1) rfl (by kernel_rfl) (rdAny (Reads.bool (P := Try.prog) (t := 4) Try.underlying4 (by kernel_rfl) n)) (gCons (c := 1) rfl (by kernel_rfl) (rdAny (Reads.bool (P := Try.prog) (t := 4) Try.underlying4 (by kernel_rfl) n)) (gCons (c := 11) rfl (by kernel_rfl) (rk_Form n) (gCons (c := 1) rfl (by kernel_rfl) (rkSl (P := Try.prog) (t := 38) (el := 9) (sz := 1) Try.underlying38 (by kernel_rfl) (by kernel_rfl) (by omega) (Reads.str (P := Try.prog) (t := 9) Try.underlying9 (by kernel_rfl) n)) (fNil n _))))))))
  exact (h.map (fun x => T.Stop.mk x.1 x.2.1 x.2.2.1 x.2.2.2.1 x.2.2.2.2.1 x.2.2.2.2.2.1 x.2.2.2.2.2.2.1) (fun _ hx => ⟨hx, by simp [pairE, nilE, T.Form.enc_eq, T.Span.enc_eq, T.Stop.enc_eq, boolE, intE, slE, strE]⟩)).mono (Nat.le_succ n)

theorem rk_Inst (n : Nat) : Reads Try.prog 26 T.Inst.enc T.Inst.ok n := by
  have h := Reads.struct (P := Try.prog) (t := 26) (c := 3) (n := n) Try.underlying26 (by kernel_rfl) (fun _ => by simp [pairE, nilE, T.Inst.enc_eq, T.Span.enc_eq, T.Stop.enc_eq, slE])
    (gCons (c := 2) rfl (by kernel_rfl) (rk_Span n) (gCons (c := 1) rfl (by kernel_rfl) (rkSl (P := Try.prog) (t := 24) (el := 40) (sz := 18) Try.underlying24 (by kernel_rfl) (by kernel_rfl) (by omega) (rk_Stop n)) (fNil n _)))
  exact (h.map (fun x => T.Inst.mk x.1 x.2.1) (fun _ hx => ⟨hx, by simp [pairE, nilE, T.Inst.enc_eq, T.Span.enc_eq, T.Stop.enc_eq, slE]⟩)).mono (Nat.le_succ n)

theorem rdv26 : ReadsV Try.prog 26 (fun x => .agg (T.Inst.enc x)) (fun _ => True) := ReadsV.struct Try.underlying26 rd_Inst

theorem rkv26 : ReadsV Try.prog 26 (fun x => .agg (T.Inst.enc x)) T.Inst.ok := ReadsV.struct Try.underlying26 rk_Inst

theorem rdv3 : ReadsV Try.prog 3 (fun x : Int => PV.int IntKind.i64 x) (fun _ => True) := ReadsV.one Try.underlying3 rfl (fun n => (rdAny (Reads.int (P := Try.prog) (t := 3) Try.underlying3 (by kernel_rfl) n)))

theorem rkv3 : ReadsV Try.prog 3 (fun x : Int => PV.int IntKind.i64 x) inI := ReadsV.one Try.underlying3 rfl (fun n => (rkInt (P := Try.prog) (t := 3) Try.underlying3 (by kernel_rfl) n))

theorem rdv43 : ReadsV Try.prog 43 (fun x : (Sl T.Inst) => PV.sl x.nil (szc 3 x.l) (List.map T.Inst.enc x.l)) (fun _ => True) := ReadsV.one Try.underlying43 rfl (fun n => (rdSl (P := Try.prog) (t := 43) (el := 26) (sz := 3) Try.underlying43 (by kernel_rfl) (by kernel_rfl) (by omega) (rd_Inst n)))

theorem rkv43 : ReadsV Try.prog 43 (fun x : (Sl T.Inst) => PV.sl x.nil (szc 3 x.l) (List.map T.Inst.enc x.l)) (slOk T.Inst.ok) := ReadsV.one Try.underlying43 rfl (fun n => (rkSl (P := Try.prog) (t := 43) (el := 26) (sz := 3) Try.underlying43 (by kernel_rfl) (by kernel_rfl) (by omega) (rk_Inst n)))

theorem rdv44 : ReadsV Try.prog 44 (fun x : (Sl Bool) => PV.sl x.nil (szc 1 x.l) (List.map boolE x.l)) (fun _ => True) := ReadsV.one Try.underlying44 rfl (fun n => (rdSl (P := Try.prog) (t := 44) (el := 4) (sz := 1) Try.underlying44 (by kernel_rfl) (by kernel_rfl) (by omega) (rdAny (Reads.bool (P := Try.prog) (t := 4) Try.underlying4 (by kernel_rfl) n))))

theorem rkv44 : ReadsV Try.prog 44 (fun x : (Sl Bool) => PV.sl x.nil (szc 1 x.l) (List.map boolE x.l)) (slOk trueOf) := ReadsV.one Try.underlying44 rfl (fun n => (rkSl (P := Try.prog) (t := 44) (el := 4) (sz := 1) Try.underlying44 (by kernel_rfl) (by kernel_rfl) (by omega) (rdAny (Reads.bool (P := Try.prog) (t := 4) Try.underlying4 (by kernel_rfl) n))))
end Go.Proofs.Ytdhgdeelagmbpaa
