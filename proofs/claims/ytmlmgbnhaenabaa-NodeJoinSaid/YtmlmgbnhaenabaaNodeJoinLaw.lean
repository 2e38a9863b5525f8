/-
  The statement NodeJoin: whatever is handed in, the law returns true. No condition.
-/
import Derived.Test.YtmlmgbnhaenabaaOk
import Derived.Test.YtmlmgbnhaenabaaRd
import Derived.Test.YtmlmgbnhaenabaaNjB
import Derived.ProofKit
set_option linter.unusedSimpArgs false
set_option linter.unusedVariables false
set_option maxRecDepth 100000
namespace Go.Proofs.Ytmlmgbnhaenabaa
open Go Go.Gm Go.ChangeShapes Go.WideShapes
namespace lawNodeJoin
theorem follows : Try.prog.follows .mixedOrders = true := by kernel_rfl
theorem ownKnobs : ownKnob Try.prog.godebug = none := by kernel_rfl
theorem laidOutP : laidOutB Try.prog = true := by kernel_rfl

theorem reads : ReadsArgs Try.prog Try.f4.params.toList (fun x : (Sl T.Snip) × Unit => [PV.sl x.1.nil (szc 18 x.1.l) (List.map T.Snip.enc x.1.l)]) (fun x => (slOk T.Snip.ok) x.1 ∧ True) := by
  have h := ReadsArgs.cons rkv22 (ReadsArgs.nil (P := Try.prog))
  have e : Try.f4.params.toList = [22] := by rw [Try.params4]
  rw [e]
  exact h

theorem lifted (os : Os) (started : os.Started) (H : Type) (enc : TypeId × Value → H) :
    ReturnsInHanded {} Try.checked os 4 .any (Rows.nodeJoinSpec.pre6 enc Try.prog Try.f4 Rows.nodeJoinRow.domain false) (Rows.nodeJoinSpec.post enc Try.prog Try.f4 false true false false) := by
  refine returnsInHanded_of_change (C := Try.checked) ownKnobs started (by kernel_rfl) Try.func4
    (ChangeSpec.witness6 (enc := enc) (C := Try.checked) false ⟨#[], #[.slice none 0 0], []⟩ 8 (by kernel_rfl) (by kernel_rfl) (by kernel_rfl) (by kernel_rfl)) ?_
  intro W base args ds gs before hval hW _ _
  refine law_contract (G := G) (S := S) follows gp_types gp_fns S_ok laidOutP (tb := 4) rfl Try.underlying4 rfl (by decide +kernel) ?_ reads ?_ hval hW
  · intro H ds hd
    match ds, hd with
    | [d0], _ => rfl
  · intro b hb
    exact ⟨[], law20_NodeJoin_ok (law_NodeJoin b.1 hb.1)⟩

theorem proved : Rows.NodeJoinSaid :=
  OpenClaim.holds_of_wide 4 Try.f4 rfl rfl rfl rfl rfl rfl rfl ⟨rfl, rfl, rfl, rfl, rfl⟩ rfl rfl rfl rfl rfl (by kernel_rfl) Try.func4 (by kernel_rfl)
    (of_decide_eq_true (by kernel_rfl)) (by unfold Func.isWrapper; first | (rw [if_pos (by decide +kernel)]; kernel_rfl) | (rw [if_neg (by decide +kernel)]; exact ⟨rfl, rfl⟩))
    (fun os started H enc _ => lifted os started H enc)
end lawNodeJoin
end Go.Proofs.Ytmlmgbnhaenabaa
