/-
  Scripts: operations that are told well.
-/
import Derived.Test.YtaglodpkpggdiaaGreatDoorLbf
set_option linter.unusedSimpArgs false
set_option linter.unusedVariables false
namespace Go.Proofs.YtaglodpkpggdiaaGreatDoor
open Go Go.Gm
theorem z8h {n : Sl Int} {l : List T.Op} (hn : n.l.length ≤ 1000) (h1 : ∀ x ∈ n.l,inU x) (h2 : ∀ o ∈ l,Can o) (h3 : ∀ o ∈ l,q74 o) (h4 : l.length ≤ 1000) (h5 : (jm n.l l).length ≤ 65536) : q53 n ⟨l.isEmpty,l⟩ = some (⟨false,jm n.l l⟩,0) := by
 have h6 : (opB l).length ≤ 65536 := by
  rw [q8s] at h5
  omega
 rw [zdh n ⟨l.isEmpty,l⟩ hn h1 h3 (by simp only; omega) (by simp only; omega)]
 unfold qaz
 simp only
 rw [if_neg (by rw [qmx h2]; simp),if_neg (by omega),if_neg (by omega)]
theorem zl4 {ns : List Int} {l : List T.Op} (hn : ns.length ≤ 10) (h1 : ∀ x ∈ ns,inU x) (hl : l.length ≤ 8) (h2 : ∀ o ∈ l,Can o ∧ Few o) : (jm ns l).length ≤ 30000 := by
 have a1 := qge h1
 have a2 := zuy h2
 rw [q8s]
 omega
end Go.Proofs.YtaglodpkpggdiaaGreatDoor
