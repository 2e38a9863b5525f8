/-
  The statement NodeNames: for every text, every byte and every number the law returns true. No condition.
-/
import Derived.Test.YtmlmgbnhaenabaaNdNames
import Derived.ProofKit
set_option linter.unusedSimpArgs false
set_option linter.unusedVariables false
namespace Go.Proofs.Ytmlmgbnhaenabaa
open Go Go.Gm Go.ChangeShapes Go.WideShapes

theorem S_ok : SpecialOK Try.prog S := fun f g h => by cases h
theorem follows : Try.prog.follows .mixedOrders = true := by kernel_rfl
theorem ownKnobs : ownKnob Try.prog.godebug = none := by kernel_rfl
theorem laidOutP : laidOutB Try.prog = true := by kernel_rfl

namespace lawNames
theorem reads : ReadsArgs Try.prog Try.f5.params.toList (fun x : Bytes × Int × Int × Unit => [.str x.1, .int .u8 x.2.1, .int .i64 x.2.2.1]) (fun _ => True) := by
  have h := ReadsArgs.cons (ReadsV.one (P := Try.prog) (t := 9) (e := fun x : Bytes => PV.str x) Try.underlying9 rfl (fun n => Reads.str Try.underlying9 (by kernel_rfl) n))
    (ReadsArgs.cons (ReadsV.one (P := Try.prog) (t := 5) (e := fun x : Int => PV.int .u8 x) Try.underlying5 rfl (fun n => Reads.int Try.underlying5 (by kernel_rfl) n))
    (ReadsArgs.cons (ReadsV.one (P := Try.prog) (t := 3) (e := fun x : Int => PV.int .i64 x) Try.underlying3 rfl (fun n => Reads.int Try.underlying3 (by kernel_rfl) n))
    (ReadsArgs.nil (P := Try.prog))))
  have e : Try.f5.params.toList = [9, 5, 3] := by rw [Try.params5]
  rw [e]
  exact h.weaken

set_option maxRecDepth 100000 in
theorem lifted (os : Os) (started : os.Started) (H : Type) (enc : TypeId × Value → H) :
    ReturnsInHanded {} Try.checked os 5 .any (Rows.nodeNamesSpec.pre6 enc Try.prog Try.f5 Rows.nodeNamesRow.domain false) (Rows.nodeNamesSpec.post enc Try.prog Try.f5 false true false false) := by
  refine returnsInHanded_of_change (C := Try.checked) ownKnobs started (by kernel_rfl) Try.func5
    (ChangeSpec.witness6 (enc := enc) (C := Try.checked) false ⟨#[], #[.string ⟨#[]⟩, .int .u8 0, .int .i64 0], []⟩ 8 (by kernel_rfl) (by kernel_rfl) (by kernel_rfl) (by kernel_rfl)) ?_
  intro W base args ds gs before hval hW _ _
  refine law_contract (G := G) (S := S) follows gp_types gp_fns S_ok laidOutP (tb := 4) rfl Try.underlying4 rfl (by decide +kernel) ?_ reads ?_ hval hW
  · intro H ds hd
    match ds, hd with
    | [d1, d2, d3], _ => rfl
  · intro b _
    exact ⟨[], names_eq b.1 b.2.1 b.2.2.1⟩

theorem proved : Rows.NodeNamesSaid :=
  OpenClaim.holds_of_wide 5 Try.f5 rfl rfl rfl rfl rfl rfl rfl ⟨rfl, rfl, rfl, rfl, rfl⟩ rfl rfl rfl rfl rfl (by kernel_rfl) Try.func5 (by kernel_rfl)
    (of_decide_eq_true (by kernel_rfl)) (by unfold Func.isWrapper; first | (rw [if_pos (by decide +kernel)]; kernel_rfl) | (rw [if_neg (by decide +kernel)]; exact ⟨rfl, rfl⟩))
    (fun os started H enc _ => lifted os started H enc)
end lawNames
end Go.Proofs.Ytmlmgbnhaenabaa
