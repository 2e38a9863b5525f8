/-
  What the machine's calls come to: the plain functions.
-/
import Derived.Test.YtadahlbndbmdeaaGreatQag
import Derived.Test.YtadahlbndbmdeaaGreatQao
import Derived.Test.YtadahlbndbmdeaaGreatQap
set_option linter.unusedSimpArgs false
set_option linter.unusedVariables false
set_option maxRecDepth 100000
namespace Go.Proofs.YtadahlbndbmdeaaGreat
open Go Go.Gm
set_option maxHeartbeats 4000000
instance(qp right es):z7 (cI qp right es) (λr=>O.call 34 [qh qp,zN right,vv es] []=some (qh r,[])):=⟨by unfold cI;exact gW⟩
instance:xT tc λ(es,t8,t9,a,out) r=>O.loop 13 0 ⟨[(1,vv es),(5,qq 1 out),(8,vv t8),(9,qh t9),(10,qh a)],[(0,qD.xA),(1,br out)],2⟩=some (Ex.normal,⟨[(5,qq 1 r)],[(0,qD.xA),(1,br r)],2⟩):=gP tc.partial_correctness λ_ _⟨_,_,_,_,_⟩=>gW
instance(st a r_):z7 (cK st a r_) (λr=>O.call 54 [AV.agg [qP st,vv a,qq 0 r_]] [(0,br r_)]=some (vv r,[(0,br r_)])):=⟨by unfold cK;exact gW⟩
instance(b):z7 (ri b) (λr=>O.call 28 [AV.ptr 0 0] [(0,bb b)]=some (vv r,[(0,bb b)])):=⟨by unfold ri;exact gW⟩
instance(b a r_):z7 (mC b a r_) (λr=>O.call 28 [AV.ptr 0 0] [(0,qD.box [qP b,vv a,qq 1 r_]),(1,br r_)]=some (vv r,[(0,qD.box [qP b,vv a,qq 1 r_]),(1,br r_)])):=⟨by unfold mC;exact gW⟩
end Go.Proofs.YtadahlbndbmdeaaGreat
