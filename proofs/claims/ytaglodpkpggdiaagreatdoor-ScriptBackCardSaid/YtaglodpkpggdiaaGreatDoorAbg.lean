/-
  Scripts: operations that are told well.
-/
import Derived.Test.YtaglodpkpggdiaaGreatDoorAbf
set_option linter.unusedSimpArgs false
set_option linter.unusedVariables false
namespace Go.Proofs.YtaglodpkpggdiaaGreatDoor
open Go Go.Gm
theorem qf6 {n : Sl Int} {l : List T.Op} (hn : n.l.length ≤ 1000) (h1 : ∀ x ∈ n.l,inU x) (h2 : ∀ o ∈ l,Can o) (h3 : ∀ o ∈ l,q5k o) (h4 : l.length ≤ 1000) (h5 : (jc n.l l).length ≤ 65536) : q4t n ⟨l.isEmpty,l⟩ = some (⟨false,jc n.l l⟩,0) := by
 have h6 : (opB l).length ≤ 65536 := by
  rw [q7r] at h5
  omega
 rw [qoi n ⟨l.isEmpty,l⟩ hn h1 h3 (by simp only; omega) (by simp only; omega)]
 unfold qbv
 simp only
 rw [if_neg (by rw [z5a h2]; simp),if_neg (by omega),if_neg (by omega)]
theorem qnt {ns : List Int} {l : List T.Op} (hn : ns.length ≤ 10) (h1 : ∀ x ∈ ns,inU x) (hl : l.length ≤ 8) (h2 : ∀ o ∈ l,Can o ∧ Few o) : (jc ns l).length ≤ 30000 := by
 have a1 := qeu h1
 have a2 := zwa h2
 rw [q7r]
 omega
end Go.Proofs.YtaglodpkpggdiaaGreatDoor
