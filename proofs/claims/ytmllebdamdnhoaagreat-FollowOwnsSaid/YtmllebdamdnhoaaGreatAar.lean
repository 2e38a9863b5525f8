/-
  The statement FollowOwns: whatever is handed in, the law returns true. No condition.
-/
import Derived.Test.YtmllebdamdnhoaaGreatAak
import Derived.Test.YtmllebdamdnhoaaGreatAal
import Derived.Test.YtmllebdamdnhoaaGreatAaq
import Derived.ProofKit
set_option linter.unusedSimpArgs false
set_option linter.unusedVariables false
set_option maxRecDepth 100000
namespace Go.Proofs.YtmllebdamdnhoaaGreat
open Go Go.Gm Go.ChangeShapes Go.WideShapes
namespace lawFollowOwns
theorem follows:Tryz.prog.follows .mixedOrders=true:=by kernel_rfl
theorem ownKnobs:ownKnob Tryz.prog.godebug=none:=by kernel_rfl
theorem laidOutP:laidOutB Tryz.prog=true:=by kernel_rfl
theorem reads:wS Tryz.prog Tryz.f3.params.toList (fun x:(Sl gy)×ql×(Sl qo)×Unit=>[PV.sl x.1.nil (zC 7 x.1.l) (List.map gy.enc x.1.l),PV.agg (ql.enc x.2.1),PV.sl x.2.2.1.nil (zC 3 x.2.2.1.l) (List.map qo.enc x.2.2.1.l)]) (fun _=>True):=by
 have h:=wS.cons rdv22 (wS.cons rdv24 (wS.cons rdv25 (wS.nil (P:=Tryz.prog))));have e:Tryz.f3.params.toList=[22,24,25]:=by rw[Tryz.params3]
 rw[e];exact h.weaken
theorem lifted(os:Os)(Uk:os.Started)(H:Type)(enc:TypeId×Value->H):
  ReturnsInHanded {} Tryz.checked os 3 .any (Rows.followOwnsSpec.pre6 enc Tryz.prog Tryz.f3 Rows.followOwnsRow.domain false) (Rows.followOwnsSpec.post enc Tryz.prog Tryz.f3 false true false false):=by
 refine returnsInHanded_of_change (C:=Tryz.checked) ownKnobs Uk (by kernel_rfl) Tryz.func3
  (ChangeSpec.witness6 (enc:=enc) (C:=Tryz.checked) false ⟨#[], #[.slice none 0 0,Value.agg #[.int .i64 0,.int .i64 0],.slice none 0 0],[]⟩ 8 (by kernel_rfl) (by kernel_rfl) (by kernel_rfl) (by kernel_rfl)) ?_
 intro W base args ds gs before Xn hW _ _;refine Yz (G:=G) (S:=S) follows AN gp_fns S_ok laidOutP (tb:=4) rfl Tryz.underlying4 rfl (by decide+kernel) ?_ reads ?_ Xn hW ⟨trivial,fun _ h=>h.elim⟩
 ·intro H ds hd
  match ds,hd with
  |[d0,d1,d2],_=>rfl
 intro b hb;exact⟨[],(oJ _ _ _).1 _ (cH b.1 b.2.1 b.2.2.1)⟩
theorem cell1:(Rows.followOwnsRow.inPlace==Tryz.prog.inPlace 3)=true:=by kernel_rfl
theorem cell2:(Rows.followOwnsRow.unfollowed==Tryz.prog.unfollowed 3)=true:=by kernel_rfl
theorem cell3:(Rows.followOwnsRow.recurses==Tryz.prog.recurses 3)=true:=by kernel_rfl
theorem cell4:(Rows.followOwnsRow.named==Tryz.prog.varsNamed 3)=true:=by kernel_rfl
theorem closed:joinedFacts Tryz.prog 3 Tryz.f3 Rows.followOwnsSpec Rows.followOwnsRow=true:=C8 cell1 cell2 cell3 cell4 (by kernel_rfl)
theorem proved:Rows.FollowOwnsSaid:=
 OpenClaim.holds_of_wide 3 Tryz.f3 rfl rfl rfl rfl rfl rfl rfl ⟨rfl,rfl,rfl,rfl,rfl⟩ rfl rfl rfl rfl rfl (by kernel_rfl) Tryz.func3 closed
  (of_decide_eq_true (by kernel_rfl)) (by unfold Func.isWrapper;first|(rw [if_pos (by decide+kernel)];kernel_rfl)|(rw [if_neg (by decide+kernel)];exact⟨rfl,rfl⟩))
  (fun os Uk H enc _=>lifted os Uk H enc)
end lawFollowOwns
end Go.Proofs.YtmllebdamdnhoaaGreat
