/-
  The statement StopsOrder: whatever is handed in, the law returns true. No condition.
-/
import Derived.Test.YtdhgdeelagmbpaaGreatQan
import Derived.Test.YtdhgdeelagmbpaaGreatQao
import Derived.Test.YtdhgdeelagmbpaaGreatQat
import Derived.ProofKit
set_option linter.unusedSimpArgs false
set_option linter.unusedVariables false
set_option maxRecDepth 100000
namespace Go.Proofs.YtdhgdeelagmbpaaGreat
open Go Go.Gm Go.ChangeShapes Go.WideShapes
namespace lawStopsOrder
theorem follows : Tryz.prog.follows .mixedOrders = true := by kernel_rfl
theorem ownKnobs : ownKnob Tryz.prog.godebug = none := by kernel_rfl
theorem laidOutP : laidOutB Tryz.prog = true := by kernel_rfl
theorem reads : q0t Tryz.prog Tryz.f4.params.toList (fun x : Bytes × Unit => [PV.str x.1]) (fun _ => True) := by
 have h := q0t.cons qtc (q0t.nil (P := Tryz.prog))
 have e : Tryz.f4.params.toList = [9] := by rw [Tryz.params4]
 rw [e]
 exact h.weaken
theorem lifted (os : Os) (started : os.Started) (H : Type) (enc : TypeId × Value → H) :
  ReturnsInHanded {} Tryz.checked os 4 .any (Rows.stopsOrderSpec.pre6 enc Tryz.prog Tryz.f4 Rows.stopsOrderRow.domain false) (Rows.stopsOrderSpec.post enc Tryz.prog Tryz.f4 false true false false) := by
 refine returnsInHanded_of_change (C := Tryz.checked) ownKnobs started (by kernel_rfl) Tryz.func4
  (ChangeSpec.witness6 (enc := enc) (C := Tryz.checked) false ⟨#[], #[.string ⟨#[]⟩],[]⟩ 8 (by kernel_rfl) (by kernel_rfl) (by kernel_rfl) (by kernel_rfl)) ?_
 intro W base args ds gs before hval hW _ _
 refine z8h (G := G) (S := S) follows zp9 z9z z9p laidOutP (tb := 4) rfl Tryz.underlying4 rfl (by decide +kernel) ?_ reads ?_ hval hW
 ·intro H ds hd
  match ds,hd with
  | [d0],_ => rfl
 ·intro b hb
  exact ⟨[],zgc (qwg b.1)⟩
theorem proved : Rows.StopsOrderSaid :=
 OpenClaim.holds_of_wide 4 Tryz.f4 rfl rfl rfl rfl rfl rfl rfl ⟨rfl,rfl,rfl,rfl,rfl⟩ rfl rfl rfl rfl rfl (by kernel_rfl) Tryz.func4 (by kernel_rfl)
  (of_decide_eq_true (by kernel_rfl)) (by unfold Func.isWrapper; first | (rw [if_pos (by decide +kernel)]; kernel_rfl) | (rw [if_neg (by decide +kernel)]; exact ⟨rfl,rfl⟩))
  (fun os started H enc _ => lifted os started H enc)
end lawStopsOrder
end Go.Proofs.YtdhgdeelagmbpaaGreat
