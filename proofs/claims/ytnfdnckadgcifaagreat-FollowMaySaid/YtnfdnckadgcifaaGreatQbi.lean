/-
  The statement FollowMay: whatever is handed in, the law returns true. No condition.
-/
import Derived.Test.YtnfdnckadgcifaaGreatQba
import Derived.Test.YtnfdnckadgcifaaGreatQbb
import Derived.Test.YtnfdnckadgcifaaGreatQbh
import Derived.ProofKit
set_option linter.unusedSimpArgs false
set_option linter.unusedVariables false
set_option maxRecDepth 100000
namespace Go.Proofs.YtnfdnckadgcifaaGreat
open Go Go.Gm Go.ChangeShapes Go.WideShapes
namespace lawFollowMay
theorem follows:Tryz.prog.follows .mixedOrders=true:=k?
theorem ownKnobs:ownKnob Tryz.prog.godebug=none:=k?
theorem laidOutP:laidOutB Tryz.prog=true:=k?
theorem reads:uW Tryz.prog Tryz.f3.params.toList (fun x:qq×(Sl yD)×Int×Int×Unit=>[PV.agg (qq.enc x.1),PV.sl x.2.1.nil (xd 7 x.2.1.l) (List.map yD.enc x.2.1.l),PV.int IntKind.i64 x.2.2.1,PV.int IntKind.i64 x.2.2.2.1]) (fun x=>qq.ok x.1/\(vG yD.ok) x.2.1/\cp x.2.2.1/\cp x.2.2.2.1/\True):=by
 have h:=uW.cons rkv25 (uW.cons rkv26 (uW.cons rkv3 (uW.cons rkv3 (uW.nil (P:=Tryz.prog)))));have e:Tryz.f3.params.toList=[25,26,3,3]:=by rw[Tryz.params3]
 rw[e];exact h
theorem lifted(os:Os)(Gc:os.Started)(H:Type)(enc:TypeId×Value->H):
  ReturnsInHanded {} Tryz.checked os 3 .any (Rows.followMaySpec.pre6 enc Tryz.prog Tryz.f3 Rows.followMayRow.domain false) (Rows.followMaySpec.post enc Tryz.prog Tryz.f3 false true false false):=by
 refine returnsInHanded_of_change (C:=Tryz.checked) ownKnobs Gc k? Tryz.func3
  (ChangeSpec.witness6 (enc:=enc) (C:=Tryz.checked) false ⟨#[], #[Value.agg #[.string ⟨#[]⟩,.slice none 0 0,.slice none 0 0],.slice none 0 0,.int .i64 0,.int .i64 0],[]⟩ 8 k? k? k? k?) ?_
 intro W base args ds gs before K1 hW _ _;refine Hl (G:=G) (S:=S) follows Ox gp_fns S_ok laidOutP (tb:=4) rfl Tryz.underlying4 rfl (by decide+kernel) ?_ reads ?_ K1 hW ⟨trivial,fun _ h=>h.elim⟩;intro H ds hd;(match ds,hd with|[d0,d1,d2,d3],_=>rfl);intro b hb;exact⟨[],(Z4 _ _ _ _).1 _ (er b.1 b.2.1 b.2.2.1 b.2.2.2.1 hb.1 hb.2.1 hb.2.2.1 hb.2.2.2.1)⟩
theorem cell1:(Rows.followMayRow.inPlace==Tryz.prog.inPlace 3)=true:=k?
theorem cell2:(Rows.followMayRow.unfollowed==Tryz.prog.unfollowed 3)=true:=k?
theorem cell3:(Rows.followMayRow.recurses==Tryz.prog.recurses 3)=true:=k?
theorem cell4:(Rows.followMayRow.named==Tryz.prog.varsNamed 3)=true:=k?
theorem closed:joinedFacts Tryz.prog 3 Tryz.f3 Rows.followMaySpec Rows.followMayRow=true:=Ft cell1 cell2 cell3 cell4 k?
theorem proved:Rows.FollowMaySaid:=
 OpenClaim.holds_of_wide 3 Tryz.f3 rfl rfl rfl rfl rfl rfl rfl ⟨rfl,rfl,rfl,rfl,rfl⟩ rfl rfl rfl rfl rfl k? Tryz.func3 closed
  (of_decide_eq_true (by kernel_rfl)) (by unfold Func.isWrapper;first|(rw [if_pos (by decide+kernel)];kernel_rfl)|(rw [if_neg (by decide+kernel)];exact⟨rfl,rfl⟩))
  (fun os Gc H enc _=>lifted os Gc H enc)
end lawFollowMay
end Go.Proofs.YtnfdnckadgcifaaGreat
