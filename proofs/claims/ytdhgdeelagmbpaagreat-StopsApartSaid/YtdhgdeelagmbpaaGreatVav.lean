/-
  The statement StopsApart: whatever is handed in, the law returns true. No condition.
-/
import Derived.Test.YtdhgdeelagmbpaaGreatVao
import Derived.Test.YtdhgdeelagmbpaaGreatVap
import Derived.Test.YtdhgdeelagmbpaaGreatVau
import Derived.ProofKit
set_option linter.unusedSimpArgs false
set_option linter.unusedVariables false
set_option maxRecDepth 100000
namespace Go.Proofs.YtdhgdeelagmbpaaGreat
open Go Go.Gm Go.ChangeShapes Go.WideShapes
namespace lawStopsApart
theorem follows : Tryz.prog.follows .mixedOrders = true := by kernel_rfl
theorem ownKnobs : ownKnob Tryz.prog.godebug = none := by kernel_rfl
theorem laidOutP : laidOutB Tryz.prog = true := by kernel_rfl
theorem reads : mi Tryz.prog Tryz.f5.params.toList (fun x : T.zf × Int × Bytes × Unit => [PV.agg (T.zf.enc x.1),PV.int IntKind.i64 x.2.1,PV.str x.2.2.1]) (fun _ => True) := by
 have h := mi.cons zoo (mi.cons z2f (mi.cons zay (mi.nil (P := Tryz.prog))))
 have e : Tryz.f5.params.toList = [26,3,9] := by rw [Tryz.params5]
 rw [e]
 exact h.weaken
theorem lifted (os : Os) (started : os.Started) (H : Type) (enc : TypeId × Value → H) :
  ReturnsInHanded {} Tryz.checked os 5 .any (Rows.stopsApartSpec.pre6 enc Tryz.prog Tryz.f5 Rows.stopsApartRow.domain false) (Rows.stopsApartSpec.post enc Tryz.prog Tryz.f5 false true false false) := by
 refine returnsInHanded_of_change (C := Tryz.checked) ownKnobs started (by kernel_rfl) Tryz.func5
  (ChangeSpec.witness6 (enc := enc) (C := Tryz.checked) false ⟨#[], #[Value.agg #[.int .i64 0,.int .i64 0,.slice none 0 0],.int .i64 0,.string ⟨#[]⟩],[]⟩ 8 (by kernel_rfl) (by kernel_rfl) (by kernel_rfl) (by kernel_rfl)) ?_
 intro W base args ds gs before hval hW _ _
 refine zfm (G := G) (S := S) follows zlw zd6 qxs laidOutP (tb := 4) rfl Tryz.underlying4 rfl (by decide +kernel) ?_ reads ?_ hval hW
 ·intro H ds hd
  match ds,hd with
  | [d0,d1,d2],_ => rfl
 ·intro b hb
  exact ⟨[],qtn (zbo b.1 b.2.1 b.2.2.1)⟩
theorem proved : Rows.StopsApartSaid :=
 OpenClaim.holds_of_wide 5 Tryz.f5 rfl rfl rfl rfl rfl rfl rfl ⟨rfl,rfl,rfl,rfl,rfl⟩ rfl rfl rfl rfl rfl (by kernel_rfl) Tryz.func5 (by kernel_rfl)
  (of_decide_eq_true (by kernel_rfl)) (by unfold Func.isWrapper; first | (rw [if_pos (by decide +kernel)]; kernel_rfl) | (rw [if_neg (by decide +kernel)]; exact ⟨rfl,rfl⟩))
  (fun os started H enc _ => lifted os started H enc)
end lawStopsApart
end Go.Proofs.YtdhgdeelagmbpaaGreat
