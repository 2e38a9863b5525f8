/-
  The statement FollowPlain: whatever is handed in, the law returns true. No condition.
-/
import Derived.Test.YtadahlbndbmdeaaGreatQas
import Derived.Test.YtadahlbndbmdeaaGreatQat
import Derived.Test.YtadahlbndbmdeaaGreatQaz
import Derived.ProofKit
open Bool renaming true->Y
set_option linter.unusedSimpArgs false
set_option linter.unusedVariables false
set_option maxRecDepth 100000
namespace Go.Proofs.YtadahlbndbmdeaaGreat
open Go Go.Gm Go.ChangeShapes Go.WideShapes
namespace lawFollowPlain
theorem follows:Tryz.prog.follows .mixedOrders=Y:=k?
theorem ownKnobs:ownKnob Tryz.prog.godebug=none:=k?
theorem laidOutP:laidOutB Tryz.prog=Y:=k?
theorem reads:gC Tryz.prog Tryz.f3.params.toList (λx:(Sl pq)×(Sl qf)×Unit=>[PV.sl x.1.nil (xB 7 x.1.l) (List.map pq.enc x.1.l),PV.sl x.2.1.nil (xB 3 x.2.1.l) (List.map qf.enc x.2.1.l)]) (λ_=>True):=by
 have h:=gC.cons rdv22 (gC.cons rdv23 (gC.nil (P:=Tryz.prog)));have e:Tryz.f3.params.toList=[22,23]:=by rw[Tryz.params3]
 rw[e];exact h.weaken
theorem lifted(os:Os)(f:os.Started)(H:Type)(enc:TypeId×Value->H):
  ReturnsInHanded {} Tryz.checked os 3 .any (Rows.followPlainSpec.pre6 enc Tryz.prog Tryz.f3 Rows.followPlainRow.domain false) (Rows.followPlainSpec.post enc Tryz.prog Tryz.f3 false Y false false):=by
 refine returnsInHanded_of_change (C:=Tryz.checked) ownKnobs f k? Tryz.func3
  (ChangeSpec.witness6 (enc:=enc) (C:=Tryz.checked) false ⟨#[], #[.slice none 0 0,.slice none 0 0],[]⟩ 8 k? k? k? k?) ?_
 intro W base args a gs before e d _ _;refine NL (G:=G) (S:=S) follows gp_types gp_fns S_ok laidOutP (tb:=4) rfl Tryz.underlying4 rfl (by decide+kernel) ?_ reads ?_ e d ⟨trivial,λ_ h=>h.elim⟩;intro H a c;(match a,c with|[d0,d1],_=>rfl);intro b hb;exact⟨[],(Xm _ _).1 _ (eh b.1 b.2.1)⟩
theorem cell1:(Rows.followPlainRow.inPlace==Tryz.prog.inPlace 3)=Y:=k?
theorem cell2:(Rows.followPlainRow.unfollowed==Tryz.prog.unfollowed 3)=Y:=k?
theorem cell3:(Rows.followPlainRow.recurses==Tryz.prog.recurses 3)=Y:=k?
theorem cell4:(Rows.followPlainRow.named==Tryz.prog.varsNamed 3)=Y:=k?
theorem closed:joinedFacts Tryz.prog 3 Tryz.f3 Rows.followPlainSpec Rows.followPlainRow=Y:=OT cell1 cell2 cell3 cell4 k?
theorem proved:Rows.FollowPlainSaid:=
 OpenClaim.holds_of_wide 3 Tryz.f3 rfl rfl rfl rfl rfl rfl rfl ⟨rfl,rfl,rfl,rfl,rfl⟩ rfl rfl rfl rfl rfl k? Tryz.func3 closed
  (of_decide_eq_true (by kernel_rfl)) (by unfold Func.isWrapper;first|(rw [if_pos (by decide+kernel)];kernel_rfl)|(rw [if_neg (by decide+kernel)];exact⟨rfl,rfl⟩))
  (λos a H enc _=>lifted os a H enc)
end lawFollowPlain
end Go.Proofs.YtadahlbndbmdeaaGreat
