/-
  What trees read as (printed by mkR.py).
-/
import Derived.Test.YtmlmgbnhaenabaaGp
import Derived.Test.YtmlmgbnhaenabaaLd
set_option linter.unusedSimpArgs false
set_option linter.unusedVariables false
namespace Go.Proofs.Ytmlmgbnhaenabaa
open Go Go.Gm

theorem rdAny {α : Type} {P : Program} {t : TypeId} {e : α → List PV} {ok : α → Prop} {n : Nat} (h : Reads P t e ok n) : Reads P t e (fun _ => True) n := h.map (fun x => x) (fun _ _ => ⟨trivial, rfl⟩)
theorem rdNone {α : Type} {P : Program} {t : TypeId} {fs : Array Field} {e : α → List PV} {ok : α → Prop} (ht : P.underlying t = some (.struct fs)) : Reads P t e ok 0 := by
  intro H enc w base spare held fuel cs x hn hx
  obtain ⟨_, m, rfl, _⟩ := DataW.trod_struct ht hx
  omega
def pairE {α β : Type} (e1 : α → List PV) (e2 : β → List PV) (x : α × β) : List PV := e1 x.1 ++ e2 x.2
def trueOf {α : Type} (_ : α) : Prop := True
def nilE (_ : Unit) : List PV := []
theorem fCons {α β : Type} {P : Program} {f : Field} {fs : List Field} {e1 : α → List PV} {ok1 : α → Prop} {e2 : β → List PV} {n off c : Nat} (ho : f.offset = off) (hc : P.cellsOf f.type = c)
    (h1 : Reads P f.type e1 ok1 n) (h2 : ReadsFs P fs e2 trueOf n (off + c)) : ReadsFs P (f :: fs) (pairE e1 e2) trueOf n off := by
  intro H enc w base spare held fuel cs a b d
  obtain ⟨x, m, _, h⟩ := ReadsFs.cons ho hc h1 h2 H enc w base spare held fuel cs a b d
  exact ⟨x, m, trivial, h⟩
theorem fNil {P : Program} (n off : Nat) : ReadsFs P [] nilE trueOf n off := by
  intro H enc w base spare held fuel cs a b d
  obtain ⟨x, m, _, h⟩ := ReadsFs.nil (P := P) n off H enc w base spare held fuel cs a b d
  exact ⟨x, m, trivial, h⟩

theorem rdRow (n : Nat) : Reads Try.prog 74 rowE (fun _ => True) n := by
  have h := Reads.struct (P := Try.prog) (t := 74) (c := 2) (n := n) Try.underlying74 (by kernel_rfl) (fun _ => rfl)
    (fCons (c := 1) rfl (by kernel_rfl) (Reads.str (P := Try.prog) (t := 9) Try.underlying9 (by kernel_rfl) n) (fCons (c := 1) rfl (by kernel_rfl) (Reads.str (P := Try.prog) (t := 9) Try.underlying9 (by kernel_rfl) n) (fNil n _)))
  exact (h.map (fun x => (x.1, x.2.1)) (fun _ _ => ⟨trivial, rfl⟩)).mono (Nat.le_succ n)

theorem rdFmt (n : Nat) : Reads Try.prog 67 Fmt.enc (fun _ => True) n := by
  have h := Reads.struct (P := Try.prog) (t := 67) (c := 5) (n := n) Try.underlying67 (by kernel_rfl) (fun _ => rfl)
    (fCons (c := 1) rfl (by kernel_rfl) (Reads.int (P := Try.prog) (t := 3) Try.underlying3 (by kernel_rfl) n) (fCons (c := 1) rfl (by kernel_rfl) (Reads.int (P := Try.prog) (t := 3) Try.underlying3 (by kernel_rfl) n) (fCons (c := 1) rfl (by kernel_rfl) (Reads.int (P := Try.prog) (t := 3) Try.underlying3 (by kernel_rfl) n) (fCons (c := 1) rfl (by kernel_rfl) (Reads.str (P := Try.prog) (t := 9) Try.underlying9 (by kernel_rfl) n) (fCons (c := 1) rfl (by kernel_rfl) (Reads.str (P := Try.prog) (t := 9) Try.underlying9 (by kernel_rfl) n) (fNil n _))))))
  exact (h.map (fun x => (⟨x.1, x.2.1, x.2.2.1, x.2.2.2.1, x.2.2.2.2.1⟩ : Fmt)) (fun _ _ => ⟨trivial, rfl⟩)).mono (Nat.le_succ n)

theorem rdStr (n : Nat) : Reads Try.prog 9 strE (fun _ => True) n := by
  have h := Reads.str (P := Try.prog) (t := 9) Try.underlying9 (by kernel_rfl) n
  exact rdAny h

theorem rdRx : ∀ n : Nat, Reads Try.prog 29 Rx.enc (fun _ => True) n
  | 0 => rdNone Try.underlying29
  | n + 1 => by
    have ih := rdRx n
    have h := Reads.struct (P := Try.prog) (t := 29) (c := 8) (n := n) Try.underlying29 (by kernel_rfl) (fun _ => rfl)
      (fCons (c := 1) rfl (by kernel_rfl) (Reads.int (P := Try.prog) (t := 3) Try.underlying3 (by kernel_rfl) n) (fCons (c := 1) rfl (by kernel_rfl) (Reads.str (P := Try.prog) (t := 9) Try.underlying9 (by kernel_rfl) n) (fCons (c := 1) rfl (by kernel_rfl) (Reads.bool (P := Try.prog) (t := 4) Try.underlying4 (by kernel_rfl) n) (fCons (c := 1) rfl (by kernel_rfl) ((rdAny (Reads.slice (P := Try.prog) (t := 26) (el := 74) (sz := 2) Try.underlying26 (by kernel_rfl) (by kernel_rfl) (by omega) (rdRow n))).mono (Nat.le_succ n)) (fCons (c := 1) rfl (by kernel_rfl) (Reads.int (P := Try.prog) (t := 3) Try.underlying3 (by kernel_rfl) n) (fCons (c := 1) rfl (by kernel_rfl) (Reads.int (P := Try.prog) (t := 3) Try.underlying3 (by kernel_rfl) n) (fCons (c := 1) rfl (by kernel_rfl) (Reads.bool (P := Try.prog) (t := 4) Try.underlying4 (by kernel_rfl) n) (fCons (c := 1) rfl (by kernel_rfl) ((rdAny (Reads.slice (P := Try.prog) (t := 27) (el := 29) (sz := 8) Try.underlying27 (by kernel_rfl) (by kernel_rfl) (by omega) (ih))).mono (Nat.le_succ n)) (fNil n _)))))))))
    exact h.map (fun x => Rx.mk x.1 x.2.1 x.2.2.1 x.2.2.2.1.1 x.2.2.2.1.2 x.2.2.2.2.1 x.2.2.2.2.2.1 x.2.2.2.2.2.2.1 x.2.2.2.2.2.2.2.1.1 x.2.2.2.2.2.2.2.1.2) (fun _ _ => ⟨trivial, by simp [Rx.enc_eq, pairE, nilE, Rx.kind, Rx.char, Rx.not, Rx.rn, Rx.rows, Rx.min, Rx.max, Rx.lazy, Rx.kn, Rx.kids]⟩)

theorem rdForm (n : Nat) : Reads Try.prog 32 Gm.Form.enc (fun _ => True) n := by
  have h := Reads.struct (P := Try.prog) (t := 32) (c := 11) (n := n) Try.underlying32 (by kernel_rfl) (fun _ => by simp [Rx.enc_eq, pairE, nilE])
    (fCons (c := 8) rfl (by kernel_rfl) (rdRx n) (fCons (c := 1) rfl (by kernel_rfl) ((rdAny (Reads.slice (P := Try.prog) (t := 30) (el := 67) (sz := 5) Try.underlying30 (by kernel_rfl) (by kernel_rfl) (by omega) (rdFmt n))).mono (Nat.le_succ n)) (fCons (c := 1) rfl (by kernel_rfl) (Reads.bool (P := Try.prog) (t := 4) Try.underlying4 (by kernel_rfl) n) (fCons (c := 1) rfl (by kernel_rfl) (Reads.bool (P := Try.prog) (t := 4) Try.underlying4 (by kernel_rfl) n) (fNil n _)))))
  exact (h.map (fun x => (⟨x.1, x.2.1.1, x.2.1.2, x.2.2.1, x.2.2.2.1⟩ : Gm.Form)) (fun _ _ => ⟨trivial, by simp [Gm.Form.enc, pairE, nilE]⟩)).mono (Nat.le_succ n)

theorem rdSnip : ∀ n : Nat, Reads Try.prog 35 Snip.enc (fun _ => True) n
  | 0 => rdNone Try.underlying35
  | n + 1 => by
    have ih := rdSnip n
    have h := Reads.struct (P := Try.prog) (t := 35) (c := 18) (n := n) Try.underlying35 (by kernel_rfl) (fun _ => by simp [Gm.Form.enc_eq, pairE, nilE])
      (fCons (c := 1) rfl (by kernel_rfl) (Reads.int (P := Try.prog) (t := 3) Try.underlying3 (by kernel_rfl) n) (fCons (c := 1) rfl (by kernel_rfl) (Reads.str (P := Try.prog) (t := 9) Try.underlying9 (by kernel_rfl) n) (fCons (c := 1) rfl (by kernel_rfl) (Reads.int (P := Try.prog) (t := 3) Try.underlying3 (by kernel_rfl) n) (fCons (c := 1) rfl (by kernel_rfl) (Reads.bool (P := Try.prog) (t := 4) Try.underlying4 (by kernel_rfl) n) (fCons (c := 1) rfl (by kernel_rfl) (Reads.bool (P := Try.prog) (t := 4) Try.underlying4 (by kernel_rfl) n) (fCons (c := 11) rfl (by kernel_rfl) (rdForm n) (fCons (c := 1) rfl (by kernel_rfl) ((rdAny (Reads.slice (P := Try.prog) (t := 33) (el := 9) (sz := 1) Try.underlying33 (by kernel_rfl) (by kernel_rfl) (by omega) (rdStr n))).mono (Nat.le_succ n)) (fCons (c := 1) rfl (by kernel_rfl) ((rdAny (Reads.slice (P := Try.prog) (t := 22) (el := 35) (sz := 18) Try.underlying22 (by kernel_rfl) (by kernel_rfl) (by omega) (ih))).mono (Nat.le_succ n)) (fNil n _)))))))))
    exact h.map (fun x => Snip.mk x.1 x.2.1 x.2.2.1 x.2.2.2.1 x.2.2.2.2.1 x.2.2.2.2.2.1 x.2.2.2.2.2.2.1.1 x.2.2.2.2.2.2.1.2 x.2.2.2.2.2.2.2.1.1 x.2.2.2.2.2.2.2.1.2) (fun _ _ => ⟨trivial, by simp [Snip.enc_eq, pairE, nilE, Gm.Form.enc_eq, Snip.kind, Snip.text, Snip.n, Snip.has, Snip.turned, Snip.form, Snip.on, Snip.opts, Snip.kn, Snip.kids]⟩)

theorem rdSnips (n : Nat) : Reads Try.prog 22 (fun x : Bool × List Snip => [slP x.1 18 (x.2.map Snip.enc)]) (fun _ => True) n :=
  ((rdAny (Reads.slice (P := Try.prog) (t := 22) (el := 35) (sz := 18) Try.underlying22 (by kernel_rfl) (by kernel_rfl) (by omega) (rdSnip n))).mono (Nat.le_succ n))

theorem rdvSnips : ReadsV Try.prog 22 (fun x : Bool × List Snip => slP x.1 18 (x.2.map Snip.enc)) (fun _ => True) :=
  ReadsV.one Try.underlying22 rfl rdSnips

end Go.Proofs.Ytmlmgbnhaenabaa

