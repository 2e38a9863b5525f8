/-
  Scripts: operations that are fitted; sizes.
-/
import Derived.Test.YtaglodpkpggdiaaGreatDoorMbe
set_option linter.unusedSimpArgs false
set_option linter.unusedVariables false
namespace Go.Proofs.YtaglodpkpggdiaaGreatDoor
open Go Go.Gm
theorem qgi (x n : Int) (hn : 0 < n) (hn2 : n ≤ 1000) : ∃ r : Int,q4h x n = some r ∧ 0 ≤ r ∧ r < n := by
 have hw : IntKind.u64.wrap n = n := by
  simp [IntKind.wrap,IntKind.signed,IntKind.bits]
  omega
 have h0 : 0 ≤ IntKind.u64.wrap x := by
  simp [IntKind.wrap,IntKind.signed,IntKind.bits]
  omega
 have h1 : (IntKind.u64.wrap x).tmod n = (IntKind.u64.wrap x) % n := Int.tmod_eq_emod_of_nonneg h0
 have h2 := Int.emod_nonneg (IntKind.u64.wrap x) (show n ≠ 0 by omega)
 have h3 := Int.emod_lt_of_pos (IntKind.u64.wrap x) hn
 refine ⟨(IntKind.u64.wrap x) % n, ?_,h2,h3⟩
 unfold q4h
 rw [hw,if_pos (by omega),h1,q9l (by omega) (by omega)]
theorem qdn {l : List T.Op} (h : ∀ o ∈ l,Can o) : q0g l = true := by
 unfold q0g
 rw [List.all_eq_true]
 exact fun o ho => (h o ho).1
end Go.Proofs.YtaglodpkpggdiaaGreatDoor
