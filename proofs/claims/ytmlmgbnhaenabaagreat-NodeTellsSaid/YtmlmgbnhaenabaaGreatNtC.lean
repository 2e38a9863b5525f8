/-
  Expressions, transforms: the program's Same is the document's.
-/
import Derived.Test.YtmlmgbnhaenabaaGreatNtB
set_option linter.unusedSimpArgs false
set_option linter.unusedVariables false
namespace Go.Proofs.YtmlmgbnhaenabaaGreat
open Go Go.Gm

def lr (c : Bool) : Bool ⊕ Unit := if c then .inr () else .inl false
theorem rowsL0 (a b : T.Rx) (hl : a.rows.l.length ≤ 9223372036854775807) (he : a.rows.l.length = b.rows.l.length) : ∀ (r : List T.Row) (k : Nat), a.rows.l.drop k = r →
    ∃ c, slices_Equal_LRow_L0 (a.rows, b.rows, (a.rows.l.length : Int), (k : Int)) = some (lr c) ∧ ref13_Same_L0 ((k : Int), a, b) = some (lr c) := by
  intro r
  induction r with
  | nil =>
    intro k hk
    rw [slices_Equal_LRow_L0.eq_1, ref13_Same_L0.eq_1, if_neg (by simpa using dropN hk), if_neg (by simpa using dropN hk)]
    exact ⟨true, rfl, rfl⟩
  | cons x r ih =>
    intro k hk
    obtain ⟨a1, a2, a3, _⟩ := dropC hk
    have hb : k < b.rows.l.length := by omega
    obtain ⟨c, c1, c2⟩ := ih (k + 1) a3
    rw [slices_Equal_LRow_L0.eq_1, ref13_Same_L0.eq_1]
    simp only [a1, decide_true, if_true, a2, Option.bind_eq_bind, Option.bind_some, wrS hl a1, geti_some hb, c1, c2]
    cases (x.frm == b.rows.l[k].frm && (x.to == b.rows.l[k].to))
    · exact ⟨false, rfl, rfl⟩
    · exact ⟨c, rfl, rfl⟩
theorem fmtsL0 (a b : T.Form) (hl : a.fmts.l.length ≤ 9223372036854775807) (he : a.fmts.l.length = b.fmts.l.length) : ∀ (r : List T.Fmt) (k : Nat), a.fmts.l.drop k = r →
    ∃ c, slices_Equal_LFmt_L0 (a.fmts, b.fmts, (a.fmts.l.length : Int), (k : Int)) = some (lr c) ∧ ref20_SameForm_L0 ((k : Int), a, b) = some (lr c) := by
  intro r
  induction r with
  | nil =>
    intro k hk
    rw [slices_Equal_LFmt_L0.eq_1, ref20_SameForm_L0.eq_1, if_neg (by simpa using dropN hk), if_neg (by simpa using dropN hk)]
    exact ⟨true, rfl, rfl⟩
  | cons x r ih =>
    intro k hk
    obtain ⟨a1, a2, a3, _⟩ := dropC hk
    have hb : k < b.fmts.l.length := by omega
    obtain ⟨c, c1, c2⟩ := ih (k + 1) a3
    rw [slices_Equal_LFmt_L0.eq_1, ref20_SameForm_L0.eq_1]
    simp only [a1, decide_true, if_true, a2, Option.bind_eq_bind, Option.bind_some, wrS hl a1, geti_some hb, c1, c2]
    cases (x.kind == b.fmts.l[k].kind && (x.n == b.fmts.l[k].n && (x.cas == b.fmts.l[k].cas && (x.thn == b.fmts.l[k].thn && (x.els == b.fmts.l[k].els)))))
    · exact ⟨false, rfl, rfl⟩
    · exact ⟨c, rfl, rfl⟩
theorem kidsL0 (a b : T.Rx) (hl : a.kids.l.length ≤ 9223372036854775807) (he : a.kids.l.length = b.kids.l.length)
    (ih0 : ∀ x ∈ a.kids.l, ∀ y, ∃ c, rxtree_Same (x, y) = some c ∧ ref13_Same (x, y) = some c) : ∀ (r : List T.Rx) (k : Nat), a.kids.l.drop k = r →
    ∃ c, slices_EqualFunc_LRx_rxtree_Same_L0 (b.kids, a.kids, (a.kids.l.length : Int), (k : Int)) = some (lr c) ∧ ref13_Same_L2 ((k : Int), a, b) = some (lr c) := by
  intro r
  induction r with
  | nil =>
    intro k hk
    rw [slices_EqualFunc_LRx_rxtree_Same_L0.eq_1, ref13_Same_L2.eq_1, if_neg (by simpa using dropN hk), if_neg (by simpa using dropN hk)]
    exact ⟨true, rfl, rfl⟩
  | cons x r ih =>
    intro k hk
    obtain ⟨a1, a2, a3, a4⟩ := dropC hk
    have hb : k < b.kids.l.length := by omega
    obtain ⟨c, c1, c2⟩ := ih (k + 1) a3
    obtain ⟨d, d1, d2⟩ := ih0 x a4 b.kids.l[k]
    rw [slices_EqualFunc_LRx_rxtree_Same_L0.eq_1, ref13_Same_L2.eq_1]
    simp only [a1, decide_true, if_true, a2, Option.bind_eq_bind, Option.bind_some, wrS hl a1, geti_some hb, c1, c2, d1, d2]
    cases d
    · exact ⟨false, rfl, rfl⟩
    · exact ⟨c, rfl, rfl⟩
theorem rxSame : ∀ a : T.Rx, rxW a ≤ 1099511627776 → ∀ b : T.Rx, ∃ c, rxtree_Same (a, b) = some c ∧ ref13_Same (a, b) = some c := by
  apply rx_ind (P := fun a => rxW a ≤ 1099511627776 → ∀ b : T.Rx, ∃ c, rxtree_Same (a, b) = some c ∧ ref13_Same (a, b) = some c)
  intro a ih0 hw b
  have hk := rxW_kids a
  have hr := rxW_rows a
  -- rows
  have h1 : ∃ c, slices_Equal_LRow a.rows b.rows = some c ∧ (a.rows.l.length = b.rows.l.length → ref13_Same_L0 ((0 : Int), a, b) = some (lr c)) ∧ (a.rows.l.length ≠ b.rows.l.length → c = false) := by
    unfold slices_Equal_LRow
    by_cases he : a.rows.l.length = b.rows.l.length
    · obtain ⟨c, c1, c2⟩ := rowsL0 a b (by omega) he a.rows.l 0 rfl
      rw [show ((0 : Nat) : Int) = 0 from rfl] at c1 c2
      refine ⟨c, ?_, fun _ => c2, fun h => absurd he h⟩
      rw [if_neg (by simp [he]), c1]
      cases c <;> rfl
    · exact ⟨false, by simp; omega, fun h => absurd h he, fun _ => rfl⟩
  have h2 : ∃ c, slices_EqualFunc_LRx_rxtree_Same (a.kids, b.kids) = some c ∧ (a.kids.l.length = b.kids.l.length → ref13_Same_L2 ((0 : Int), a, b) = some (lr c)) ∧ (a.kids.l.length ≠ b.kids.l.length → c = false) := by
    rw [slices_EqualFunc_LRx_rxtree_Same.eq_1]
    by_cases he : a.kids.l.length = b.kids.l.length
    · obtain ⟨c, c1, c2⟩ := kidsL0 a b (by omega) he (fun x hx y => ih0 x hx (by have := rxW_kid hx; omega) y) a.kids.l 0 rfl
      rw [show ((0 : Nat) : Int) = 0 from rfl] at c1 c2
      refine ⟨c, ?_, fun _ => c2, fun h => absurd he h⟩
      rw [if_neg (by simp [he]), c1]
      cases c <;> rfl
    · exact ⟨false, by simp; omega, fun h => absurd h he, fun _ => rfl⟩
  obtain ⟨cr, r1, r2, r3⟩ := h1
  obtain ⟨ck, k1, k2, k3⟩ := h2
  refine ⟨((a.kind == b.kind) && ((a.char == b.char) && (a.not == b.not))) && (cr && ((a.min == b.min) && ((a.max == b.max) && (a.lazy == b.lazy)))) && ck, ?_, ?_⟩
  · rw [rxtree_Same.eq_1]
    simp only [r1, k1, Option.bind_eq_bind, Option.bind_some]
    cases ((a.kind == b.kind) && ((a.char == b.char) && (a.not == b.not)))
    · rfl
    · cases (cr && ((a.min == b.min) && ((a.max == b.max) && (a.lazy == b.lazy)))) <;> simp
  · rw [ref13_Same.eq_1]
    by_cases e1 : a.rows.l.length = b.rows.l.length
    · by_cases e2 : a.kids.l.length = b.kids.l.length
      · have f1 : ((a.rows.l.length : Int) == (b.rows.l.length : Int)) = true := by simp [e1]
        have f2 : ((a.kids.l.length : Int) == (b.kids.l.length : Int)) = true := by simp [e2]
        simp only [bne, f1, f2, r2 e1, k2 e2, Option.bind_eq_bind, Option.bind_some]
        generalize (a.kind == b.kind) = u1
        generalize (a.char == b.char) = u2
        generalize (a.not == b.not) = u3
        generalize (a.min == b.min) = u4
        generalize (a.max == b.max) = u5
        generalize (a.lazy == b.lazy) = u6
        clear r1 k1 r2 k2 r3 k3
        revert u1 u2 u3 u4 u5 u6 cr ck
        decide
      · have f2 : ((a.kids.l.length : Int) != (b.kids.l.length : Int)) = true := by simp; omega
        simp [f2, k3 e2]
    · have f1 : ((a.rows.l.length : Int) != (b.rows.l.length : Int)) = true := by simp; omega
      simp [f1, r3 e1]
theorem formSame (f g : T.Form) (hw : formW f ≤ 1099511627776) : ∃ c, xform_Same f g = some c ∧ ref20_SameForm f g = some c := by
  obtain ⟨cx, x1, x2⟩ := rxSame f.rx (by unfold formW at hw; omega) g.rx
  have hl := formW_fmts f
  have h1 : ∃ c, slices_Equal_LFmt f.fmts g.fmts = some c ∧ (f.fmts.l.length = g.fmts.l.length → ref20_SameForm_L0 ((0 : Int), f, g) = some (lr c)) ∧ (f.fmts.l.length ≠ g.fmts.l.length → c = false) := by
    unfold slices_Equal_LFmt
    by_cases he : f.fmts.l.length = g.fmts.l.length
    · obtain ⟨c, c1, c2⟩ := fmtsL0 f g (by omega) he f.fmts.l 0 rfl
      rw [show ((0 : Nat) : Int) = 0 from rfl] at c1 c2
      refine ⟨c, ?_, fun _ => c2, fun h => absurd he h⟩
      rw [if_neg (by simp [he]), c1]
      cases c <;> rfl
    · exact ⟨false, by simp; omega, fun h => absurd h he, fun _ => rfl⟩
  obtain ⟨cf, r1, r2, r3⟩ := h1
  refine ⟨cx && (cf && (f.fold == g.fold) && (f.all == g.all)), ?_, ?_⟩
  · unfold xform_Same
    simp only [x1, r1, Option.bind_eq_bind, Option.bind_some]
    cases cx
    · rfl
    · cases cf && (f.fold == g.fold) <;> simp
  · unfold ref20_SameForm
    simp only [x2, Option.bind_eq_bind, Option.bind_some]
    by_cases e1 : f.fmts.l.length = g.fmts.l.length
    · have f1 : ((f.fmts.l.length : Int) != (g.fmts.l.length : Int)) = false := by simp [e1]
      simp only [f1, r2 e1, Option.bind_some]
      generalize (f.fold == g.fold) = u1
      generalize (f.all == g.all) = u2
      clear r1 r2 r3 x1 x2
      revert u1 u2 cx cf
      decide
    · have f1 : ((f.fmts.l.length : Int) != (g.fmts.l.length : Int)) = true := by simp; omega
      simp [f1, r3 e1]
end Go.Proofs.YtmlmgbnhaenabaaGreat
