/-
  What the machine's calls come to: the plain functions.
-/
import Derived.Test.YtnfdnckadgcifaaGreatQag
import Derived.Test.YtnfdnckadgcifaaGreatQah
import Derived.Test.YtnfdnckadgcifaaGreatQai
import Derived.Test.YtnfdnckadgcifaaGreatQaj
import Derived.Test.YtnfdnckadgcifaaGreatQak
import Derived.Test.YtnfdnckadgcifaaGreatQal
import Derived.Test.YtnfdnckadgcifaaGreatQam
import Derived.Test.YtnfdnckadgcifaaGreatQan
import Derived.Test.YtnfdnckadgcifaaGreatQao
import Derived.Test.YtnfdnckadgcifaaGreatQap
import Derived.Test.YtnfdnckadgcifaaGreatQaq
import Derived.Test.YtnfdnckadgcifaaGreatQar
import Derived.Test.YtnfdnckadgcifaaGreatQas
import Derived.Test.YtnfdnckadgcifaaGreatQat
import Derived.Test.YtnfdnckadgcifaaGreatQau
import Derived.Test.YtnfdnckadgcifaaGreatQav
import Derived.Test.YtnfdnckadgcifaaGreatQaw
import Derived.Test.YtnfdnckadgcifaaGreatQax
import Derived.Test.YtnfdnckadgcifaaGreatQay
import Derived.Test.YtnfdnckadgcifaaGreatQaz
open Go.Gm.AV renaming ptr->x?,xW->C?
open Go.Gm.Ex renaming normal->j?
open Go.Gm.qJ renaming box->h?
set_option linter.unusedSimpArgs false
set_option linter.unusedVariables false
set_option maxRecDepth 100000
namespace Go.Proofs.YtnfdnckadgcifaaGreat
open Go Go.Gm
set_option maxHeartbeats 4000000
instance(l env lead unit):zl (fM l env lead unit) (fun r=>O.call 118 [vv l,vv env,qS lead,qS unit] []=some (C? [qS r.1,vv r.2.1,qj r.2.2],[])):=⟨by unfold fM;exact gW⟩
@[go_sem] def dp (st:qq) (t6:qq):((Int×qq×(List qz)×(List (Sl qt)))⊕((List qz)×(List (Sl qt))))->Ex×St
 | .inl y=>(Ex.ret,⟨[(3,x? 0 0),(6,x? 1 0),(7,qj y.1),(10,qr 2 y.2.2.1),(11,qr 3 y.2.2.2)],[(0,bb st),(1,bb y.2.1),(2,br y.2.2.1),(3,br y.2.2.2)],4⟩)
 | .inr y=>(j?,⟨[(3,x? 0 0),(6,x? 1 0),(7,AV.undef),(10,qr 2 y.1),(11,qr 3 y.2)],[(0,bb st),(1,bb t6),(2,br y.1),(3,br y.2)],4⟩)
instance:xL yp fun(l,env,unit,i,st,t6,es,bq) r=>O.loop 75 0 ⟨[(1,vv l),(2,vv env),(3,x? 0 0),(6,x? 1 0),(8,qS unit),(10,qr 2 es),(11,qr 3 bq),(12,qj i)],[(0,bb st),(1,bb t6),(2,br es),(3,br bq)],4⟩=some (dp st t6 r):=gP yp.partial_correctness fun _ _⟨_,_,_,_,_,_,_,_⟩=>gW
instance(st l env):zl (s8 st l env) (fun r=>O.call 75 [vv st,vv l,vv env] []=some (C? [vv r.1,qj r.2],[])):=⟨by unfold s8;exact gW⟩
instance(o b b_2 jq VM r_ r_2):zl (uM o b b_2 jq VM r_ r_2) (fun r=>O.call 45 [x? 0 0,vv o] [(0,h? [qS b,vv b_2,vv jq,vv VM,qr 1 r_.l,qr 2 r_2.l]),(1,bN r_),(2,bN r_2)]=some (C? [vv r.1,zD r.2.1,qj r.2.2],[(0,h? [qS b,vv b_2,vv jq,vv VM,qr 1 r_.l,qr 2 r_2.l]),(1,bN r_),(2,bN r_2)])):=⟨by unfold uM;exact gW⟩
@[go_sem] def cX (VM:(Sl qx)) (r_:(Sl qq)) (r_2:(Sl qq)):((Int×qa×(Sl qm)×(Sl qc)×(Sl qx))⊕((Int×qa×(Sl qm)×(Sl qc)×(Sl qq)×(Sl qq))⊕((Int×qa×(Sl qm)×(Sl qc)×(Sl qq)×(Sl qq))⊕(Int×qa×(Sl qm)×(Sl qc)×(Sl qq)))))->AV×qp
 | .inl y=>(qj y.1,[(0,h? [qS y.2.1,vv y.2.2.1,vv y.2.2.2.1,vv y.2.2.2.2,qr 1 r_.l,qr 2 r_2.l]),(1,bN r_),(2,bN r_2)])
 | .inr (.inl y)=>(qj y.1,[(0,h? [qS y.2.1,vv y.2.2.1,vv y.2.2.2.1,vv VM,qr 3 y.2.2.2.2.2.l,qr 2 y.2.2.2.2.1.l]),(1,qJ.xH),(2,bN y.2.2.2.2.1),(3,bN y.2.2.2.2.2)])
 | .inr (.inr (.inl y))=>(qj y.1,[(0,h? [qS y.2.1,vv y.2.2.1,vv y.2.2.2.1,vv VM,qr 1 y.2.2.2.2.1.l,qr 3 y.2.2.2.2.2.l]),(1,bN y.2.2.2.2.1),(2,qJ.xH),(3,bN y.2.2.2.2.2)])
 | .inr (.inr (.inr y))=>(qj y.1,[(0,h? [qS y.2.1,vv y.2.2.1,vv y.2.2.2.1,vv VM,qr 3 y.2.2.2.2.l,AV.pv (PV.sl true 0 [])]),(1,bN r_),(2,bN r_2),(3,bN y.2.2.2.2)])
instance(o b b_2 jq VM r_ r_2):zl (bI o b b_2 jq VM r_ r_2) (fun r=>O.call 24 [x? 0 0,vv o] [(0,h? [qS b,vv b_2,vv jq,vv VM,qr 1 r_.l,qr 2 r_2.l]),(1,bN r_),(2,bN r_2)]=some (cX VM r_ r_2 r)):=⟨by unfold bI;exact gW⟩
instance:xL wh fun(os,i,t2,m,m2,m3,m4,qZ,xu) r=>O.loop 8 0 ⟨[(0,vv os),(2,x? 0 0),(3,x? 1 0),(5,qj i)],[(0,bb t2),(1,h? [qS m,vv m2,vv m3,vv m4,qr 2 qZ.l,qr 3 xu.l]),(2,bN qZ),(3,bN xu)],4⟩=some (j?,⟨[(2,x? 0 0),(3,x? 1 0)],[(0,bb t2),(1,h? [qS r.1,vv r.2.1,vv r.2.2.1,vv r.2.2.2.1,qr 2 r.2.2.2.2.1.l,qr 3 r.2.2.2.2.2.l]),(2,bN r.2.2.2.2.1),(3,bN r.2.2.2.2.2)],4⟩):=gP wh.partial_correctness fun _ _⟨_,_,_,_,_,_,_,_,_⟩=>gW
instance(os):zl (fe os) (fun r=>O.call 8 [vv os] []=some (vv r,[])):=⟨by unfold fe;exact gW⟩
instance Z4(st os what mw):zl (uY st os what mw) (fun r=>O.call 3 [vv st,vv os,qj what,qj mw] []=some (zD r,[])):=⟨by unfold uY;exact gW⟩
end Go.Proofs.YtnfdnckadgcifaaGreat
