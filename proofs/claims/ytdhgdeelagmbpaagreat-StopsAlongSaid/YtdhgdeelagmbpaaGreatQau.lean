/-
  The statement StopsAlong: whatever is handed in, the law returns true. No condition.
-/
import Derived.Test.YtdhgdeelagmbpaaGreatQan
import Derived.Test.YtdhgdeelagmbpaaGreatQao
import Derived.Test.YtdhgdeelagmbpaaGreatQat
import Derived.ProofKit
set_option linter.unusedSimpArgs false
set_option linter.unusedVariables false
set_option maxRecDepth 100000
namespace Go.Proofs.YtdhgdeelagmbpaaGreat
open Go Go.Gm Go.ChangeShapes Go.WideShapes
namespace lawStopsAlong
theorem follows : Tryz.prog.follows .mixedOrders = true := by kernel_rfl
theorem ownKnobs : ownKnob Tryz.prog.godebug = none := by kernel_rfl
theorem laidOutP : laidOutB Tryz.prog = true := by kernel_rfl
theorem reads : q03 Tryz.prog Tryz.f6.params.toList (fun x : Bytes × Int × (Sl Bool) × Unit => [PV.str x.1,PV.int IntKind.i64 x.2.1,PV.sl x.2.2.1.nil (szc 1 x.2.2.1.l) (List.map q0h x.2.2.1.l)]) (fun _ => True) := by
 have h := q03.cons zu8 (q03.cons zne (q03.cons zn6 (q03.nil (P := Tryz.prog))))
 have e : Tryz.f6.params.toList = [9,3,49] := by rw [Tryz.params6]
 rw [e]
 exact h.weaken
theorem lifted (os : Os) (started : os.Started) (H : Type) (enc : TypeId × Value → H) :
  ReturnsInHanded {} Tryz.checked os 6 .any (Rows.stopsAlongSpec.pre6 enc Tryz.prog Tryz.f6 Rows.stopsAlongRow.domain false) (Rows.stopsAlongSpec.post enc Tryz.prog Tryz.f6 false true false false) := by
 refine returnsInHanded_of_change (C := Tryz.checked) ownKnobs started (by kernel_rfl) Tryz.func6
  (ChangeSpec.witness6 (enc := enc) (C := Tryz.checked) false ⟨#[], #[.string ⟨#[]⟩,.int .i64 0,.slice none 0 0],[]⟩ 8 (by kernel_rfl) (by kernel_rfl) (by kernel_rfl) (by kernel_rfl)) ?_
 intro W base args ds gs before hval hW _ _
 refine qt5 (G := G) (S := S) follows z1i qv1 zn4 laidOutP (tb := 4) rfl Tryz.underlying4 rfl (by decide +kernel) ?_ reads ?_ hval hW
 ·intro H ds hd
  match ds,hd with
  | [d0,d1,d2],_ => rfl
 ·intro b hb
  exact ⟨[],qzd (z2i b.1 b.2.1 b.2.2.1)⟩
theorem proved : Rows.StopsAlongSaid :=
 OpenClaim.holds_of_wide 6 Tryz.f6 rfl rfl rfl rfl rfl rfl rfl ⟨rfl,rfl,rfl,rfl,rfl⟩ rfl rfl rfl rfl rfl (by kernel_rfl) Tryz.func6 (by kernel_rfl)
  (of_decide_eq_true (by kernel_rfl)) (by unfold Func.isWrapper; first | (rw [if_pos (by decide +kernel)]; kernel_rfl) | (rw [if_neg (by decide +kernel)]; exact ⟨rfl,rfl⟩))
  (fun os started H enc _ => lifted os started H enc)
end lawStopsAlong
end Go.Proofs.YtdhgdeelagmbpaaGreat
