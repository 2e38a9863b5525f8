/-
  Lists from a place on.
-/
import Derived.Test.YtaglodpkpggdiaaGreatDoorMaf
set_option linter.unusedSimpArgs false
set_option linter.unusedVariables false
namespace Go.Proofs.YtaglodpkpggdiaaGreatDoor
open Go Go.Gm
theorem drop_cons {α : Type} {s : List α} {k : Nat} {b : α} {r : List α} (h : s.drop k = b :: r) : zb s (k : Int) = some b ∧ s[k]? = some b ∧ k < s.length ∧ s.drop (k + 1) = r := by
 have hk : k < s.length := by
  rcases Nat.lt_or_ge k s.length with h1 | h1
  ·exact h1
  ·rw [List.drop_eq_nil_of_le h1] at h; cases h
 rw [List.drop_eq_getElem_cons hk] at h
 cases h
 exact ⟨by unfold zb; simp [hk],by simp [hk],hk,rfl⟩
theorem drop_nil {α : Type} {s : List α} {k : Nat} (h : s.drop k = []) (hk : k ≤ s.length) : k = s.length ∧ s[k]? = none := by
 have := congrArg List.length h
 simp at this
 have hh : k = s.length := by omega
 subst hh
 simp
end Go.Proofs.YtaglodpkpggdiaaGreatDoor
