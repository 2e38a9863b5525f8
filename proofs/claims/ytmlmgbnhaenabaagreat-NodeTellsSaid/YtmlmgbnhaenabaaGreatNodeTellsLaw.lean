/-
  The statement NodeTells: whatever is handed in, the law returns true. No condition.
-/
import Derived.Test.YtmlmgbnhaenabaaGreatOk
import Derived.Test.YtmlmgbnhaenabaaGreatRd
import Derived.Test.YtmlmgbnhaenabaaGreatNtH
import Derived.ProofKit
set_option linter.unusedSimpArgs false
set_option linter.unusedVariables false
set_option maxRecDepth 100000
namespace Go.Proofs.YtmlmgbnhaenabaaGreat
open Go Go.Gm Go.ChangeShapes Go.WideShapes
namespace lawNodeTells
theorem follows : Tryz.prog.follows .mixedOrders = true := by kernel_rfl
theorem ownKnobs : ownKnob Tryz.prog.godebug = none := by kernel_rfl
theorem laidOutP : laidOutB Tryz.prog = true := by kernel_rfl

theorem reads : ReadsArgs Tryz.prog Tryz.f3.params.toList (fun x : (Sl T.Snip) × Unit => [PV.sl x.1.nil (szc 18 x.1.l) (List.map T.Snip.enc x.1.l)]) (fun x => (slOk T.Snip.ok) x.1 ∧ True) := by
  have h := ReadsArgs.cons rkv22 (ReadsArgs.nil (P := Tryz.prog))
  have e : Tryz.f3.params.toList = [22] := by rw [Tryz.params3]
  rw [e]
  exact h

theorem lifted (os : Os) (started : os.Started) (H : Type) (enc : TypeId × Value → H) :
    ReturnsInHanded {} Tryz.checked os 3 .any (Rows.nodeTellsSpec.pre6 enc Tryz.prog Tryz.f3 Rows.nodeTellsRow.domain false) (Rows.nodeTellsSpec.post enc Tryz.prog Tryz.f3 false true false false) := by
  refine returnsInHanded_of_change (C := Tryz.checked) ownKnobs started (by kernel_rfl) Tryz.func3
    (ChangeSpec.witness6 (enc := enc) (C := Tryz.checked) false ⟨#[], #[.slice none 0 0], []⟩ 8 (by kernel_rfl) (by kernel_rfl) (by kernel_rfl) (by kernel_rfl)) ?_
  intro W base args ds gs before hval hW _ _
  refine law_contract (G := G) (S := S) follows gp_types gp_fns S_ok laidOutP (tb := 4) rfl Tryz.underlying4 rfl (by decide +kernel) ?_ reads ?_ hval hW
  · intro H ds hd
    match ds, hd with
    | [d0], _ => rfl
  · intro b hb
    exact ⟨[], law20_NodeTells_ok (law_NodeTells b.1 hb.1)⟩

theorem proved : Rows.NodeTellsSaid :=
  OpenClaim.holds_of_wide 3 Tryz.f3 rfl rfl rfl rfl rfl rfl rfl ⟨rfl, rfl, rfl, rfl, rfl⟩ rfl rfl rfl rfl rfl (by kernel_rfl) Tryz.func3 (by kernel_rfl)
    (of_decide_eq_true (by kernel_rfl)) (by unfold Func.isWrapper; first | (rw [if_pos (by decide +kernel)]; kernel_rfl) | (rw [if_neg (by decide +kernel)]; exact ⟨rfl, rfl⟩))
    (fun os started H enc _ => lifted os started H enc)
end lawNodeTells
end Go.Proofs.YtmlmgbnhaenabaaGreat
