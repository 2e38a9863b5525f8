/-
  What the laws' arguments read as.
-/
import Derived.Test.YtmlmgbnhaenabaaSp
import Derived.Test.YtmlmgbnhaenabaaTy
set_option linter.unusedSimpArgs false
set_option linter.unusedVariables false
set_option maxRecDepth 100000
namespace Go.Proofs.Ytmlmgbnhaenabaa
open Go Go.Gm
theorem rd_Row (n : Nat) : Reads Try.prog 74 T.Row.enc (fun _ => True) n := by
  have h := Reads.struct (P := Try.prog) (t := 74) (c := 2) (n := n) Try.underlying74 (by kernel_rfl) (fun _ => by simp [pairE, nilE, T.Row.enc_eq, strE])
    (fCons (c := 1) rfl (by kernel_rfl) (rdAny (Reads.str (P := Try.prog) (t := 9) Try.underlying9 (by kernel_rfl) n)) (fCons (c := 1) rfl (by kernel_rfl) (rdAny (Reads.str (P := Try.prog) (t := 9) Try.underlying9 (by kernel_rfl) n)) (fNil n _)))
  exact (h.map (fun x => T.Row.mk x.1 x.2.1) (fun _ _ => ⟨trivial, by simp [pairE, nilE, T.Row.enc_eq, strE]⟩)).mono (Nat.le_succ n)

theorem rd_Rx : ∀ n : Nat, Reads Try.prog 29 T.Rx.enc (fun _ => True) n
  | 0 => rdNone Try.underlying29
  | n + 1 => by
    have ih := rd_Rx n
    have h := Reads.struct (P := Try.prog) (t := 29) (c := 8) (n := n) Try.underlying29 (by kernel_rfl) (fun _ => by simp [pairE, nilE, T.Row.enc_eq, T.Rx.enc_eq, boolE, intE, slE, strE])
      (fCons (c := 1) rfl (by kernel_rfl) (rdAny (Reads.int (P := Try.prog) (t := 3) Try.underlying3 (by kernel_rfl) n)) (fCons (c := 1) rfl (by kernel_rfl) (rdAny (Reads.str (P := Try.prog) (t := 9) Try.underlying9 (by kernel_rfl) n)) (fCons (c := 1) rfl (by kernel_rfl) (rdAny (Reads.bool (P := Try.prog) (t := 4) Try.underlying4 (by kernel_rfl) n)) (fCons (c := 1) rfl (by kernel_rfl) (rdSl (P := Try.prog) (t := 26) (el := 74) (sz := 2) Try.underlying26 (by kernel_rfl) (by kernel_rfl) (by omega) (rd_Row n)) (fCons (c := 1) rfl (by kernel_rfl) (rdAny (Reads.int (P := Try.prog) (t := 3) Try.underlying3 (by kernel_rfl) n)) (fCons (c := 1) rfl (by kernel_rfl) (rdAny (Reads.int (P := Try.prog) (t := 3) Try.underlying3 (by kernel_rfl) n)) (fCons (c := 1) rfl (by kernel_rfl) (rdAny (Reads.bool (P := Try.prog) (t := 4) Try.underlying4 (by kernel_rfl) n)) (fCons (c := 1) rfl (by kernel_rfl) (rdSl (P := Try.prog) (t := 27) (el := 29) (sz := 8) Try.underlying27 (by kernel_rfl) (by kernel_rfl) (by omega) ih) (fNil n _)))))))))
    exact h.map (fun x => T.Rx.mk x.1 x.2.1 x.2.2.1 x.2.2.2.1 x.2.2.2.2.1 x.2.2.2.2.2.1 x.2.2.2.2.2.2.1 x.2.2.2.2.2.2.2.1) (fun _ _ => ⟨trivial, by simp [pairE, nilE, T.Row.enc_eq, T.Rx.enc_eq, boolE, intE, slE, strE]⟩)

theorem rd_Fmt (n : Nat) : Reads Try.prog 67 T.Fmt.enc (fun _ => True) n := by
  have h := Reads.struct (P := Try.prog) (t := 67) (c := 5) (n := n) Try.underlying67 (by kernel_rfl) (fun _ => by simp [pairE, nilE, T.Fmt.enc_eq, intE, strE])
    (fCons (c := 1) rfl (by kernel_rfl) (rdAny (Reads.int (P := Try.prog) (t := 3) Try.underlying3 (by kernel_rfl) n)) (fCons (c := 1) rfl (by kernel_rfl) (rdAny (Reads.int (P := Try.prog) (t := 3) Try.underlying3 (by kernel_rfl) n)) (fCons (c := 1) rfl (by kernel_rfl) (rdAny (Reads.int (P := Try.prog) (t := 3) Try.underlying3 (by kernel_rfl) n)) (fCons (c := 1) rfl (by kernel_rfl) (rdAny (Reads.str (P := Try.prog) (t := 9) Try.underlying9 (by kernel_rfl) n)) (fCons (c := 1) rfl (by kernel_rfl) (rdAny (Reads.str (P := Try.prog) (t := 9) Try.underlying9 (by kernel_rfl) n)) (fNil n _))))))
  exact (h.map (fun x => T.Fmt.mk x.1 x.2.1 x.2.2.1 x.2.2.2.1 x.2.2.2.2.1) (fun _ _ => ⟨trivial, by simp [pairE, nilE, T.Fmt.enc_eq, intE, strE]⟩)).mono (Nat.le_succ n)

theorem rd_Form (n : Nat) : Reads Try.prog 32 T.Form.enc (fun _ => True) n := by
  have h := Reads.struct (P := Try.prog) (t := 32) (c := 11) (n := n) Try.underlying32 (by kernel_rfl) (fun _ => by simp [pairE, nilE, T.Fmt.enc_eq, T.Form.enc_eq, T.Rx.enc_eq, boolE, slE])
    (fCons (c := 8) rfl (by kernel_rfl) (rd_Rx n) (fCons (c := 1) rfl (by kernel_rfl) (rdSl (P := Try.prog) (t := 30) (el := 67) (sz := 5) Try.underlying30 (by kernel_rfl) (by kernel_rfl) (by omega) (rd_Fmt n)) (fCons (c := 1) rfl (by kernel_rfl) (rdAny (Reads.bool (P := Try.prog) (t := 4) Try.underlying4 (by kernel_rfl) n)) (fCons (c := 1) rfl (by kernel_rfl) (rdAny (Reads.bool (P := Try.prog) (t := 4) Try.underlying4 (by kernel_rfl) n)) (fNil n _)))))
  exact (h.map (fun x => T.Form.mk x.1 x.2.1 x.2.2.1 x.2.2.2.1) (fun _ _ => ⟨trivial, by simp [pairE, nilE, T.Fmt.enc_eq, T.Form.enc_eq, T.Rx.enc_eq, boolE, slE]⟩)).mono (Nat.le_succ n)

theorem rd_Snip : ∀ n : Nat, Reads Try.prog 35 T.Snip.enc (fun _ => True) n
  | 0 => rdNone Try.underlying35
  | n + 1 => by
    have ih := rd_Snip n
    have h := Reads.struct (P := Try.prog) (t := 35) (c := 18) (n := n) Try.underlying35 (by kernel_rfl) (fun _ => by simp [pairE, nilE, T.Form.enc_eq, T.Snip.enc_eq, boolE, intE, slE, strE])
      (fCons (c := 1) rfl (by kernel_rfl) (rdAny (Reads.int (P := Try.prog) (t := 3) Try.underlying3 (by kernel_rfl) n)) (fCons (c := 1) rfl (by kernel_rfl) (rdAny (Reads.str (P := Try.prog) (t := 9) Try.underlying9 (by kernel_rfl) n)) (fCons (c := 1) rfl (by kernel_rfl) (rdAny (Reads.int (P := Try.prog) (t := 3) Try.underlying3 (by kernel_rfl) n)) (fCons (c := 1) rfl (by kernel_rfl) (rdAny (Reads.bool (P := Try.prog) (t := 4) Try.underlying4 (by kernel_rfl) n)) (fCons (c := 1) rfl (by kernel_rfl) (rdAny (Reads.bool (P := Try.prog) (t := 4) Try.underlying4 (by kernel_rfl) n)) (fCons (c := 11) rfl (by kernel_rfl) (rd_Form n) (fCons (c := 1) rfl (by kernel_rfl) (rdSl (P := Try.prog) (t := 33) (el := 9) (sz := 1) Try.underlying33 (by kernel_rfl) (by kernel_rfl) (by omega) (rdAny (Reads.str (P := Try.prog) (t := 9) Try.underlying9 (by kernel_rfl) n))) (fCons (c := 1) rfl (by kernel_rfl) (rdSl (P := Try.prog) (t := 22) (el := 35) (sz := 18) Try.underlying22 (by kernel_rfl) (by kernel_rfl) (by omega) ih) (fNil n _)))))))))
    exact h.map (fun x => T.Snip.mk x.1 x.2.1 x.2.2.1 x.2.2.2.1 x.2.2.2.2.1 x.2.2.2.2.2.1 x.2.2.2.2.2.2.1 x.2.2.2.2.2.2.2.1) (fun _ _ => ⟨trivial, by simp [pairE, nilE, T.Form.enc_eq, T.Snip.enc_eq, boolE, intE, slE, strE]⟩)

theorem rk_Row (n : Nat) : Reads Try.prog 74 T.Row.enc T.Row.ok n := by
  have h := Reads.struct (P := Try.prog) (t := 74) (c := 2) (n := n) Try.underlying74 (by kernel_rfl) (fun _ => by simp [pairE, nilE, T.Row.enc_eq, strE])
    (gCons (c := 1) rfl (by kernel_rfl) (Reads.str (P := Try.prog) (t := 9) Try.underlying9 (by kernel_rfl) n) (gCons (c := 1) rfl (by kernel_rfl) (Reads.str (P := Try.prog) (t := 9) Try.underlying9 (by kernel_rfl) n) (fNil n _)))
  exact (h.map (fun x => T.Row.mk x.1 x.2.1) (fun _ hx => ⟨hx, by simp [pairE, nilE, T.Row.enc_eq, strE]⟩)).mono (Nat.le_succ n)

theorem rk_Rx : ∀ n : Nat, Reads Try.prog 29 T.Rx.enc T.Rx.ok n
  | 0 => rdNone Try.underlying29
  | n + 1 => by
    have ih := rk_Rx n
    have h := Reads.struct (P := Try.prog) (t := 29) (c := 8) (n := n) Try.underlying29 (by kernel_rfl) (fun _ => by simp [pairE, nilE, T.Row.enc_eq, T.Rx.enc_eq, boolE, intE, slE, strE])
      (gCons (c := 1) rfl (by kernel_rfl) (rkInt (P := Try.prog) (t := 3) Try.underlying3 (by kernel_rfl) n) (gCons (c := 1) rfl (by kernel_rfl) (Reads.str (P := Try.prog) (t := 9) Try.underlying9 (by kernel_rfl) n) (gCons (c := 1) rfl (by kernel_rfl) (rdAny (Reads.bool (P := Try.prog) (t := 4) Try.underlying4 (by kernel_rfl) n)) (gCons (c := 1) rfl (by kernel_rfl) (rkSl (P := Try.prog) (t := 26) (el := 74) (sz := 2) Try.underlying26 (by kernel_rfl) (by kernel_rfl) (by omega) (rk_Row n)) (gCons (c := 1) rfl (by kernel_rfl) (rkInt (P := Try.prog) (t := 3) Try.underlying3 (by kernel_rfl) n) (gCons (c := 1) rfl (by kernel_rfl) (rkInt (P := Try.prog) (t := 3) Try.underlying3 (by kernel_rfl) n) (gCons (c := 1) rfl (by kernel_rfl) (rdAny (Reads.bool (P := Try.prog) (t := 4) Try.underlying4 (by kernel_rfl) n)) (gCons (c := 1) rfl (by kernel_rfl) (rkSl (P := Try.prog) (t := 27) (el := 29) (sz := 8) Try.underlying27 (by kernel_rfl) (by kernel_rfl) (by omega) ih) (fNil n _)))))))))
    exact h.map (fun x => T.Rx.mk x.1 x.2.1 x.2.2.1 x.2.2.2.1 x.2.2.2.2.1 x.2.2.2.2.2.1 x.2.2.2.2.2.2.1 x.2.2.2.2.2.2.2.1) (fun _ hx => ⟨(T.Rx.ok_eq _).2 hx, by simp [pairE, nilE, T.Row.enc_eq, T.Rx.enc_eq, boolE, intE, slE, strE]⟩)

theorem rk_Fmt (n : Nat) : Reads Try.prog 67 T.Fmt.enc T.Fmt.ok n := by
  have h := Reads.struct (P := Try.prog) (t := 67) (c := 5) (n := n) Try.underlying67 (by kernel_rfl) (fun _ => by simp [pairE, nilE, T.Fmt.enc_eq, intE, strE])
    (gCons (c := 1) rfl (by kernel_rfl) (rkInt (P := Try.prog) (t := 3) Try.underlying3 (by kernel_rfl) n) (gCons (c := 1) rfl (by kernel_rfl) (rkInt (P := Try.prog) (t := 3) Try.underlying3 (by kernel_rfl) n) (gCons (c := 1) rfl (by kernel_rfl) (rkInt (P := Try.prog) (t := 3) Try.underlying3 (by kernel_rfl) n) (gCons (c := 1) rfl (by kernel_rfl) (Reads.str (P := Try.prog) (t := 9) Try.underlying9 (by kernel_rfl) n) (gCons (c := 1) rfl (by kernel_rfl) (Reads.str (P := Try.prog) (t := 9) Try.underlying9 (by kernel_rfl) n) (fNil n _))))))
  exact (h.map (fun x => T.Fmt.mk x.1 x.2.1 x.2.2.1 x.2.2.2.1 x.2.2.2.2.1) (fun _ hx => ⟨hx, by simp [pairE, nilE, T.Fmt.enc_eq, intE, strE]⟩)).mono (Nat.le_succ n)

theorem rk_Form (n : Nat) : Reads Try.prog 32 T.Form.enc T.Form.ok n := by
  have h := Reads.struct (P := Try.prog) (t := 32) (c := 11) (n := n) Try.underlying32 (by kernel_rfl) (fun _ => by simp [pairE, nilE, T.Fmt.enc_eq, T.Form.enc_eq, T.Rx.enc_eq, boolE, slE])
    (gCons (c := 8) rfl (by kernel_rfl) (rk_Rx n) (gCons (c := 1) rfl (by kernel_rfl) (rkSl (P := Try.prog) (t := 30) (el := 67) (sz := 5) Try.underlying30 (by kernel_rfl) (by kernel_rfl) (by omega) (rk_Fmt n)) (gCons (c := 1) rfl (by kernel_rfl) (rdAny (Reads.bool (P := Try.prog) (t := 4) Try.underlying4 (by kernel_rfl) n)) (gCons (c := 1) rfl (by kernel_rfl) (rdAny (Reads.bool (P := Try.prog) (t := 4) Try.underlying4 (by kernel_rfl) n)) (fNil n _)))))
  exact (h.map (fun x => T.Form.mk x.1 x.2.1 x.2.2.1 x.2.2.2.1) (fun _ hx => ⟨hx, by simp [pairE, nilE, T.Fmt.enc_eq, T.Form.enc_eq, T.Rx.enc_eq, boolE, slE]⟩)).mono (Nat.le_succ n)

theorem rk_Snip : ∀ n : Nat, Reads Try.prog 35 T.Snip.enc T.Snip.ok n
  | 0 => rdNone Try.underlying35
  | n + 1 => by
    have ih := rk_Snip n
    have h := Reads.struct (P := Try.prog) (t := 35) (c := 18) (n := n) Try.underlying35 (by kernel_rfl) (fun _ => by simp [pairE, nilE, T.Form.enc_eq, T.Snip.enc_eq, boolE, intE, slE, strE])
      (gCons (c := 1) rfl (by kernel_rfl) (rkInt (P := Try.prog) (t := 3) Try.underlying3 (by kernel_rfl) n) (gCons (c := 1) rfl (by kernel_rfl) (Reads.str (P := Try.prog) (t := 9) Try.underlying9 (by kernel_rfl) n) (gCons (c := 1) rfl (by kernel_rfl) (rkInt (P := Try.prog) (t := 3) Try.underlying3 (by kernel_rfl) n) (gCons (c := 1) rfl (by kernel_rfl) (rdAny (Reads.bool (P := Try.prog) (t := 4) Try.underlying4 (by kernel_rfl) n)) (gCons (c := 1) rfl (by kernel_rfl) (rdAny (Reads.bool (P := Try.prog) (t := 4) Try.underlying4 (by kernel_rfl) n)) (gCons (c := 11) rfl (by kernel_rfl) (rk_Form n) (gCons (c := 1) rfl (by kernel_rfl) (rkSl (P := Try.prog) (t := 33) (el := 9) (sz := 1) Try.underlying33 (by kernel_rfl) (by kernel_rfl) (by omega) (Reads.str (P := Try.prog) (t := 9) Try.underlying9 (by kernel_rfl) n)) (gCons (c := 1) rfl (by kernel_rfl) (rkSl (P := Try.prog) (t := 22) (el := 35) (sz := 18) Try.underlying22 (by kernel_rfl) (by kernel_rfl) (by omega) ih) (fNil n _)))))))))
    exact h.map (fun x => T.Snip.mk x.1 x.2.1 x.2.2.1 x.2.2.2.1 x.2.2.2.2.1 x.2.2.2.2.2.1 x.2.2.2.2.2.2.1 x.2.2.2.2.2.2.2.1) (fun _ hx => ⟨(T.Snip.ok_eq _).2 hx, by simp [pairE, nilE, T.Form.enc_eq, T.Snip.enc_eq, boolE, intE, slE, strE]⟩)

theorem rdv22 : ReadsV Try.prog 22 (fun x : (Sl T.Snip) => PV.sl x.nil (szc 18 x.l) (List.map T.Snip.enc x.l)) (fun _ => True) := ReadsV.one Try.underlying22 rfl (fun n => (rdSl (P := Try.prog) (t := 22) (el := 35) (sz := 18) Try.underlying22 (by kernel_rfl) (by kernel_rfl) (by omega) (rd_Snip n)))

theorem rkv22 : ReadsV Try.prog 22 (fun x : (Sl T.Snip) => PV.sl x.nil (szc 18 x.l) (List.map T.Snip.enc x.l)) (slOk T.Snip.ok) := ReadsV.one Try.underlying22 rfl (fun n => (rkSl (P := Try.prog) (t := 22) (el := 35) (sz := 18) Try.underlying22 (by kernel_rfl) (by kernel_rfl) (by omega) (rk_Snip n)))
end Go.Proofs.Ytmlmgbnhaenabaa
