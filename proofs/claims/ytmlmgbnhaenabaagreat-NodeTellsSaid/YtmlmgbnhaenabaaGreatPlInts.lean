/-
  Two lists of numbers that are one.
-/
import Derived.Test.YtmlmgbnhaenabaaGreatSh
set_option linter.unusedSimpArgs false
set_option linter.unusedVariables false
namespace Go.Proofs.YtmlmgbnhaenabaaGreat
open Go Go.Gm

theorem ints_L0 (a b : Sl Int) (h : a.l = b.l) (hl : a.l.length < 2 ^ 60) : ∀ (d k : Nat), k + d = a.l.length → law0_Ints_L0 (a, b, (k : Int)) = some (.inr ()) := by
  intro d
  induction d with
  | zero =>
    intro k hk
    rw [law0_Ints_L0.eq_1, if_neg (by simp; omega)]
  | succ d ih =>
    intro k hk
    have hkl : k < a.l.length := by omega
    have hx := geti_some hkl
    have hy : geti b.l (k : Int) = some a.l[k] := by rw [← h]; exact hx
    have hw : IntKind.i64.wrap ((k : Int) + 1) = ((k + 1 : Nat) : Int) := wrap_succ (by omega)
    rw [law0_Ints_L0.eq_1, if_pos (by simpa using hkl)]
    simp only [hx, hy, Option.bind_eq_bind, Option.bind_some, hw]
    rw [if_neg (by simp), ih (k + 1) (by omega)]
theorem ints_same (a b : Sl Int) (h : a.l = b.l) (hl : a.l.length < 2 ^ 60) : law0_Ints a b = some true := by
  have := ints_L0 a b h hl a.l.length 0 (by omega)
  simp only [Int.natCast_zero] at this
  unfold law0_Ints
  rw [if_neg (by rw [h]; simp), this]
  rfl
end Go.Proofs.YtmlmgbnhaenabaaGreat
