/-
  The statement NodeSame: for any two trees the law returns true. No condition.
-/
import Derived.Test.YtmlmgbnhaenabaaNdSame
import Derived.Test.YtmlmgbnhaenabaaNdR
import Derived.ProofKit
set_option linter.unusedSimpArgs false
set_option linter.unusedVariables false
namespace Go.Proofs.Ytmlmgbnhaenabaa
open Go Go.Gm Go.ChangeShapes Go.WideShapes

theorem S_ok : SpecialOK Try.prog S := fun f g h => by cases h
theorem follows : Try.prog.follows .mixedOrders = true := by kernel_rfl
theorem ownKnobs : ownKnob Try.prog.godebug = none := by kernel_rfl
theorem laidOutP : laidOutB Try.prog = true := by kernel_rfl

namespace lawSame
theorem reads : ReadsArgs Try.prog Try.f3.params.toList (fun x : (Bool × List Snip) × (Bool × List Snip) × Unit => [slP x.1.1 18 (x.1.2.map Snip.enc), slP x.2.1.1 18 (x.2.1.2.map Snip.enc)]) (fun _ => True) := by
  have h := ReadsArgs.cons rdvSnips (ReadsArgs.cons rdvSnips (ReadsArgs.nil (P := Try.prog)))
  have e : Try.f3.params.toList = [22, 22] := by rw [Try.params3]
  rw [e]
  exact h.weaken

set_option maxRecDepth 100000 in
theorem lifted (os : Os) (started : os.Started) (H : Type) (enc : TypeId × Value → H) :
    ReturnsInHanded {} Try.checked os 3 .any (Rows.nodeSameSpec.pre6 enc Try.prog Try.f3 Rows.nodeSameRow.domain false) (Rows.nodeSameSpec.post enc Try.prog Try.f3 false true false false) := by
  refine returnsInHanded_of_change (C := Try.checked) ownKnobs started (by kernel_rfl) Try.func3
    (ChangeSpec.witness6 (enc := enc) (C := Try.checked) false ⟨#[], #[.slice none 0 0, .slice none 0 0], []⟩ 8 (by kernel_rfl) (by kernel_rfl) (by kernel_rfl) (by kernel_rfl)) ?_
  intro W base args ds gs before hval hW _ _
  refine law_contract (G := G) (S := S) follows gp_types gp_fns S_ok laidOutP (tb := 4) rfl Try.underlying4 rfl (by decide +kernel) ?_ reads ?_ hval hW
  · intro H ds hd
    match ds, hd with
    | [d1, d2], _ => rfl
  · intro b _
    exact ⟨[], same_eq b.1.1 b.2.1.1 b.1.2 b.2.1.2⟩

theorem proved : Rows.NodeSameSaid :=
  OpenClaim.holds_of_wide 3 Try.f3 rfl rfl rfl rfl rfl rfl rfl ⟨rfl, rfl, rfl, rfl, rfl⟩ rfl rfl rfl rfl rfl (by kernel_rfl) Try.func3 (by kernel_rfl)
    (of_decide_eq_true (by kernel_rfl)) (by unfold Func.isWrapper; first | (rw [if_pos (by decide +kernel)]; kernel_rfl) | (rw [if_neg (by decide +kernel)]; exact ⟨rfl, rfl⟩))
    (fun os started H enc _ => lifted os started H enc)
end lawSame
end Go.Proofs.Ytmlmgbnhaenabaa
