/-
  The statement FollowHolds: whatever is handed in, the law returns true. No condition.
-/
import Derived.Test.YtnojdepmnnebnaaGreatQaj
import Derived.Test.YtnojdepmnnebnaaGreatQak
import Derived.Test.YtnojdepmnnebnaaGreatQaq
import Derived.ProofKit
set_option linter.unusedSimpArgs false
set_option linter.unusedVariables false
set_option maxRecDepth 100000
namespace Go.Proofs.YtnojdepmnnebnaaGreat
open Go Go.Gm Go.ChangeShapes Go.WideShapes
namespace lawFollowHolds
theorem follows:Tryz.prog.follows .mixedOrders=true:=k?
theorem ownKnobs:ownKnob Tryz.prog.godebug=none:=k?
theorem laidOutP:laidOutB Tryz.prog=true:=k?
theorem reads:we Tryz.prog Tryz.f3.params.toList (fun x:(Sl bO)×Int×Int×Int×ql×Unit=>[PV.sl x.1.nil (zV 7 x.1.l) (List.map bO.enc x.1.l),PV.int IntKind.i64 x.2.1,PV.int IntKind.i64 x.2.2.1,PV.int IntKind.i64 x.2.2.2.1,PV.agg (ql.enc x.2.2.2.2.1)]) (fun _=>True):=by
 have h:=we.cons rdv22 (we.cons rdv3 (we.cons rdv3 (we.cons rdv3 (we.cons rdv26 (we.nil (P:=Tryz.prog))))));have e:Tryz.f3.params.toList=[22,3,3,3,26]:=by rw[Tryz.params3]
 rw[e];exact h.weaken
theorem lifted(os:Os)(Gl:os.Started)(H:Type)(enc:TypeId×Value->H):
  ReturnsInHanded {} Tryz.checked os 3 .any (Rows.followHoldsSpec.pre6 enc Tryz.prog Tryz.f3 Rows.followHoldsRow.domain false) (Rows.followHoldsSpec.post enc Tryz.prog Tryz.f3 false true false false):=by
 refine returnsInHanded_of_change (C:=Tryz.checked) ownKnobs Gl k? Tryz.func3
  (ChangeSpec.witness6 (enc:=enc) (C:=Tryz.checked) false ⟨#[], #[.slice none 0 0,.int .i64 0,.int .i64 0,.int .i64 0,Value.agg #[.int .i64 0,.int .i64 0,.string ⟨#[]⟩]],[]⟩ 8 k? k? k? k?) ?_
 intro W base args ds gs before K1 hW _ _;refine Hv (G:=G) (S:=S) follows L8 gp_fns S_ok laidOutP (tb:=4) rfl Tryz.underlying4 rfl (by decide+kernel) ?_ reads ?_ K1 hW ⟨trivial,fun _ h=>h.elim⟩;intro H ds hd;(match ds,hd with|[d0,d1,d2,d3,d4],_=>rfl);intro b hb;exact⟨[],(lR _ _ _ _ _).1 _ (dp b.1 b.2.1 b.2.2.1 b.2.2.2.1 b.2.2.2.2.1)⟩
theorem cell1:(Rows.followHoldsRow.inPlace==Tryz.prog.inPlace 3)=true:=k?
theorem cell2:(Rows.followHoldsRow.unfollowed==Tryz.prog.unfollowed 3)=true:=k?
theorem cell3:(Rows.followHoldsRow.recurses==Tryz.prog.recurses 3)=true:=k?
theorem cell4:(Rows.followHoldsRow.named==Tryz.prog.varsNamed 3)=true:=k?
theorem closed:joinedFacts Tryz.prog 3 Tryz.f3 Rows.followHoldsSpec Rows.followHoldsRow=true:=FT cell1 cell2 cell3 cell4 k?
theorem proved:Rows.FollowHoldsSaid:=
 OpenClaim.holds_of_wide 3 Tryz.f3 rfl rfl rfl rfl rfl rfl rfl ⟨rfl,rfl,rfl,rfl,rfl⟩ rfl rfl rfl rfl rfl k? Tryz.func3 closed
  (of_decide_eq_true (by kernel_rfl)) (by unfold Func.isWrapper;first|(rw [if_pos (by decide+kernel)];kernel_rfl)|(rw [if_neg (by decide+kernel)];exact⟨rfl,rfl⟩))
  (fun os Gl H enc _=>lifted os Gl H enc)
end lawFollowHolds
end Go.Proofs.YtnojdepmnnebnaaGreat
