/-
  The statement FollowRefuses: whatever is handed in, the law returns true. No condition.
-/
import Derived.Test.YtkbgphcebakcnaaGreatFal
import Derived.Test.YtkbgphcebakcnaaGreatFam
import Derived.Test.YtkbgphcebakcnaaGreatFaq
import Derived.ProofKit
set_option linter.unusedSimpArgs false
set_option linter.unusedVariables false
set_option maxRecDepth 100000
namespace Go.Proofs.YtkbgphcebakcnaaGreat
open Go Go.Gm Go.ChangeShapes Go.WideShapes
namespace lawFollowRefuses
theorem follows : Tryz.prog.follows .mixedOrders = true := by kernel_rfl
theorem ownKnobs : ownKnob Tryz.prog.godebug = none := by kernel_rfl
theorem laidOutP : laidOutB Tryz.prog = true := by kernel_rfl
theorem reads : jf Tryz.prog Tryz.f4.params.toList (fun x : Bytes × (Sl T.Sel) × (Sl T.q9) × Unit => [PV.str x.1,PV.sl x.2.1.nil (szc 2 x.2.1.l) (List.map T.Sel.enc x.2.1.l),PV.sl x.2.2.1.nil (szc 3 x.2.2.1.l) (List.map T.q9.enc x.2.2.1.l)]) (fun _ => True) := by
 have h := jf.cons qod (jf.cons qyg (jf.cons qtd (jf.nil (P := Tryz.prog))))
 have e : Tryz.f4.params.toList = [9,24,42] := by rw [Tryz.params4]
 rw [e]
 exact h.weaken
theorem lifted (os : Os) (started : os.Started) (H : Type) (enc : TypeId × Value → H) :
  ReturnsInHanded {} Tryz.checked os 4 .any (Rows.followRefusesSpec.pre6 enc Tryz.prog Tryz.f4 Rows.followRefusesRow.domain false) (Rows.followRefusesSpec.post enc Tryz.prog Tryz.f4 false true false false) := by
 refine returnsInHanded_of_change (C := Tryz.checked) ownKnobs started (by kernel_rfl) Tryz.func4
  (ChangeSpec.witness6 (enc := enc) (C := Tryz.checked) false ⟨#[], #[.string ⟨#[]⟩,.slice none 0 0,.slice none 0 0],[]⟩ 8 (by kernel_rfl) (by kernel_rfl) (by kernel_rfl) (by kernel_rfl)) ?_
 intro W base args ds gs before hval hW _ _
 refine qzq (G := G) (S := S) follows qrj qhh qum laidOutP (tb := 4) rfl Tryz.underlying4 rfl (by decide +kernel) ?_ reads ?_ hval hW
 ·intro H ds hd
  match ds,hd with
  | [d0,d1,d2],_ => rfl
 ·intro b hb
  exact ⟨[],qhd (z08 b.1 b.2.1 b.2.2.1)⟩
theorem proved : Rows.FollowRefusesSaid :=
 OpenClaim.holds_of_wide 4 Tryz.f4 rfl rfl rfl rfl rfl rfl rfl ⟨rfl,rfl,rfl,rfl,rfl⟩ rfl rfl rfl rfl rfl (by kernel_rfl) Tryz.func4 (by kernel_rfl)
  (of_decide_eq_true (by kernel_rfl)) (by unfold Func.isWrapper; first | (rw [if_pos (by decide +kernel)]; kernel_rfl) | (rw [if_neg (by decide +kernel)]; exact ⟨rfl,rfl⟩))
  (fun os started H enc _ => lifted os started H enc)
end lawFollowRefuses
end Go.Proofs.YtkbgphcebakcnaaGreat
