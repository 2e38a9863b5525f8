/-
  The statement FollowEcho: whatever is handed in, the law returns true. No condition.
-/
import Derived.Test.YtkbgphcebakcnaaGreatEap
import Derived.Test.YtkbgphcebakcnaaGreatEaq
import Derived.Test.YtkbgphcebakcnaaGreatEbc
import Derived.ProofKit
set_option linter.unusedSimpArgs false
set_option linter.unusedVariables false
set_option maxRecDepth 100000
namespace Go.Proofs.YtkbgphcebakcnaaGreat
open Go Go.Gm Go.ChangeShapes Go.WideShapes
namespace lawFollowEcho
theorem follows : Tryz.prog.follows .mixedOrders = true := by kernel_rfl
theorem ownKnobs : ownKnob Tryz.prog.godebug = none := by kernel_rfl
theorem laidOutP : laidOutB Tryz.prog = true := by kernel_rfl
theorem reads : jq Tryz.prog Tryz.f3.params.toList (fun x : Bytes × Bytes × Int × Int × Bytes × Bool × Unit => [PV.str x.1,PV.str x.2.1,PV.int IntKind.i64 x.2.2.1,PV.int IntKind.i64 x.2.2.2.1,PV.str x.2.2.2.2.1,PV.bool x.2.2.2.2.2.1]) (fun _ => True) := by
 have h := jq.cons qay (jq.cons qay (jq.cons qgc (jq.cons qgc (jq.cons qay (jq.cons zm7 (jq.nil (P := Tryz.prog)))))))
 have e : Tryz.f3.params.toList = [9,9,3,3,9,4] := by rw [Tryz.params3]
 rw [e]
 exact h.weaken
theorem lifted (os : Os) (started : os.Started) (H : Type) (enc : TypeId × Value → H) :
  ReturnsInHanded {} Tryz.checked os 3 .any (Rows.followEchoSpec.pre6 enc Tryz.prog Tryz.f3 Rows.followEchoRow.domain false) (Rows.followEchoSpec.post enc Tryz.prog Tryz.f3 false true false false) := by
 refine returnsInHanded_of_change (C := Tryz.checked) ownKnobs started (by kernel_rfl) Tryz.func3
  (ChangeSpec.witness6 (enc := enc) (C := Tryz.checked) false ⟨#[], #[.string ⟨#[]⟩,.string ⟨#[]⟩,.int .i64 0,.int .i64 0,.string ⟨#[]⟩,.bool false],[]⟩ 8 (by kernel_rfl) (by kernel_rfl) (by kernel_rfl) (by kernel_rfl)) ?_
 intro W base args ds gs before hval hW _ _
 refine z6b (G := G) (S := S) follows zn6 qok qn3 laidOutP (tb := 4) rfl Tryz.underlying4 rfl (by decide +kernel) ?_ reads ?_ hval hW ⟨trivial,fun _ h => h.elim⟩
 ·intro H ds hd
  match ds,hd with
  | [d0,d1,d2,d3,d4,d5],_ => rfl
 ·intro b hb
  exact ⟨[],qq8 (zow b.1 b.2.1 b.2.2.1 b.2.2.2.1 b.2.2.2.2.1 b.2.2.2.2.2.1)⟩
theorem proved : Rows.FollowEchoSaid :=
 OpenClaim.holds_of_wide 3 Tryz.f3 rfl rfl rfl rfl rfl rfl rfl ⟨rfl,rfl,rfl,rfl,rfl⟩ rfl rfl rfl rfl rfl (by kernel_rfl) Tryz.func3 (by kernel_rfl)
  (of_decide_eq_true (by kernel_rfl)) (by unfold Func.isWrapper; first | (rw [if_pos (by decide +kernel)]; kernel_rfl) | (rw [if_neg (by decide +kernel)]; exact ⟨rfl,rfl⟩))
  (fun os started H enc _ => lifted os started H enc)
end lawFollowEcho
end Go.Proofs.YtkbgphcebakcnaaGreat
