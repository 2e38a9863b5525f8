/-
  The law ScriptShows, on plain data.
-/
import Derived.Test.YtlapkkdodjhgpaaGreatDoorTat
set_option linter.unusedSimpArgs false
set_option linter.unusedVariables false
namespace Go.Proofs.YtlapkkdodjhgpaaGreatDoor
open Go Go.Gm
theorem zii (n : Sl Int) (os : Sl T.Op) (hn : zn inU n) (ho : zn T.Op.ok os) : q7e n os = some true := by
 unfold q7e
 split
 ·rfl
 rename_i h10
 obtain ⟨b,b1,b2⟩ := z7f 8 150 (by omega) (by omega) (by omega) os
 rw [b1]
 simp only [Option.bind_eq_bind,Option.bind_some]
 cases b with
 | true => rfl
 | false =>
  obtain ⟨b3,b4⟩ := b2 rfl
  have hf : ∀ o ∈ os.l,q05 o := fun o h => (b4 o h).fine (ho.2 o h)
  have hl := zwc hf
  have hn10 : n.l.length ≤ 1000 := by simp at h10; omega
  rw [z6b n os hn10 hn.2 hf (by omega) (by omega),qsm n os hn10 hn.2 hf (by omega) (by omega)]
  simp only [Option.bind_some,beq_self_eq_true,Bool.and_self,if_true,Bool.false_eq_true,if_false]
  rfl
end Go.Proofs.YtlapkkdodjhgpaaGreatDoor
