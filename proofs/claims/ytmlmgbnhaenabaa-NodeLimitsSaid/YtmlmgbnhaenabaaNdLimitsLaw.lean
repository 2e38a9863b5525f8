/-
  The statement NodeLimits: for any two numbers the law returns true. No condition.
-/
import Derived.Test.YtmlmgbnhaenabaaNdLimits
import Derived.ProofKit
set_option linter.unusedSimpArgs false
set_option linter.unusedVariables false
namespace Go.Proofs.Ytmlmgbnhaenabaa
open Go Go.Gm Go.ChangeShapes Go.WideShapes

theorem S_ok : SpecialOK Try.prog S := fun f g h => by cases h
theorem follows : Try.prog.follows .mixedOrders = true := by kernel_rfl
theorem ownKnobs : ownKnob Try.prog.godebug = none := by kernel_rfl
theorem laidOutP : laidOutB Try.prog = true := by kernel_rfl

namespace lawLimits
theorem reads : ReadsArgs Try.prog Try.f6.params.toList (fun x : Int × Int × Unit => [.int .i64 x.1, .int .i64 x.2.1]) (fun _ => True) := by
  have h := ReadsArgs.cons (ReadsV.one (P := Try.prog) (t := 3) (e := fun x : Int => PV.int .i64 x) Try.underlying3 rfl (fun n => Reads.int Try.underlying3 (by kernel_rfl) n))
    (ReadsArgs.cons (ReadsV.one (P := Try.prog) (t := 3) (e := fun x : Int => PV.int .i64 x) Try.underlying3 rfl (fun n => Reads.int Try.underlying3 (by kernel_rfl) n))
    (ReadsArgs.nil (P := Try.prog)))
  have e : Try.f6.params.toList = [3, 3] := by rw [Try.params6]
  rw [e]
  exact h.weaken

set_option maxRecDepth 100000 in
theorem lifted (os : Os) (started : os.Started) (H : Type) (enc : TypeId × Value → H) :
    ReturnsInHanded {} Try.checked os 6 .any (Rows.nodeLimitsSpec.pre6 enc Try.prog Try.f6 Rows.nodeLimitsRow.domain false) (Rows.nodeLimitsSpec.post enc Try.prog Try.f6 false true false false) := by
  refine returnsInHanded_of_change (C := Try.checked) ownKnobs started (by kernel_rfl) Try.func6
    (ChangeSpec.witness6 (enc := enc) (C := Try.checked) false ⟨#[], #[.int .i64 0, .int .i64 0], []⟩ 8 (by kernel_rfl) (by kernel_rfl) (by kernel_rfl) (by kernel_rfl)) ?_
  intro W base args ds gs before hval hW _ _
  refine law_contract (G := G) (S := S) follows gp_types gp_fns S_ok laidOutP (tb := 4) rfl Try.underlying4 rfl (by decide +kernel) ?_ reads ?_ hval hW
  · intro H ds hd
    match ds, hd with
    | [d1, d2], _ => rfl
  · intro b _
    exact ⟨[], limits_eq b.1 b.2.1⟩

theorem proved : Rows.NodeLimitsSaid :=
  OpenClaim.holds_of_wide 6 Try.f6 rfl rfl rfl rfl rfl rfl rfl ⟨rfl, rfl, rfl, rfl, rfl⟩ rfl rfl rfl rfl rfl (by kernel_rfl) Try.func6 (by kernel_rfl)
    (of_decide_eq_true (by kernel_rfl)) (by unfold Func.isWrapper; first | (rw [if_pos (by decide +kernel)]; kernel_rfl) | (rw [if_neg (by decide +kernel)]; exact ⟨rfl, rfl⟩))
    (fun os started H enc _ => lifted os started H enc)
end lawLimits
end Go.Proofs.Ytmlmgbnhaenabaa
