/-
  What the machine's calls come to: the plain functions.
-/
import Derived.Test.YtnfdnckadgcifaaGreatQag
import Derived.Test.YtnfdnckadgcifaaGreatQaj
import Derived.Test.YtnfdnckadgcifaaGreatQal
import Derived.Test.YtnfdnckadgcifaaGreatQam
import Derived.Test.YtnfdnckadgcifaaGreatQao
import Derived.Test.YtnfdnckadgcifaaGreatQap
import Derived.Test.YtnfdnckadgcifaaGreatQaq
import Derived.Test.YtnfdnckadgcifaaGreatQar
import Derived.Test.YtnfdnckadgcifaaGreatQas
open Go.Gm.AV renaming ptr->x?,undef->Q?,xW->C?
open Go.Gm.Ex renaming normal->j?,ret->x!
open Go.Gm.qJ renaming box->h?,xH->K!
set_option linter.unusedSimpArgs false
set_option linter.unusedVariables false
set_option maxRecDepth 100000
namespace Go.Proofs.YtnfdnckadgcifaaGreat
open Go Go.Gm
set_option maxHeartbeats 4000000
@[go_sem] def fG (s:qa) (left:Int) (f:zo):((qa×Int×Int×qa×Int)⊕(qa×Int))->Ex×St
 | .inl y=>(x!,⟨[(1,qS s),(6,qS y.1),(7,qj y.2.1),(8,qj y.2.2.1),(10,qj left),(14,qS y.2.2.2.1),(15,qj y.2.2.2.2)],[(0,bb f)],1⟩)
 | .inr y=>(j?,⟨[(1,qS s),(6,Q?),(7,Q?),(8,Q?),(10,qj left),(14,qS y.1),(15,qj y.2)],[(0,bb f)],1⟩)
instance:xL uw fun(s,ms,left,out,qo,i,f) r=>O.loop 206 0 ⟨[(1,qS s),(3,x? 0 0),(9,vv ms),(10,qj left),(14,qS out),(15,qj qo),(16,qj i)],[(0,bb f)],1⟩=some (fG s left f r):=gP uw.partial_correctness fun _ _⟨_,_,_,_,_,_,_⟩=>gW
instance(x fold s qo fuel):zl (fx x fold s qo fuel) (fun r=>O.call 262 [vv x,zD fold,qS s,qj qo,qj fuel] []=some (C? [vv r.1,qj r.2.1,zD r.2.2.1,qj r.2.2.2],[])):=⟨by unfold fx;exact gW⟩
@[go_sem] def cO (s:qa) (left:Int) (f:zo) (Qq:ql) (qZ:(List ql)) (ms:(List ql)):((qa×Int×Int×qa×Int)⊕(qa×Int))->Ex×St
 | .inl y=>(x!,⟨[(1,qS s),(6,qS y.1),(7,qj y.2.1),(8,qj y.2.2.1),(10,qj left),(14,qS y.2.2.2.1),(15,qj y.2.2.2.2)],[(0,bb f),(1,bb Qq),(2,bm qZ),(3,bm ms)],4⟩)
 | .inr y=>(j?,⟨[(1,qS s),(6,Q?),(7,Q?),(8,Q?),(10,qj left),(14,qS y.1),(15,qj y.2)],[(0,bb f),(1,bb Qq),(2,bm qZ),(3,bm ms)],4⟩)
instance:xL wS fun(s,left,out,qo,i,f,Qq,qZ,ms) r=>O.loop 206 0 ⟨[(1,qS s),(3,x? 0 0),(9,qr 3 ms),(10,qj left),(14,qS out),(15,qj qo),(16,qj i)],[(0,bb f),(1,bb Qq),(2,bm qZ),(3,bm ms)],4⟩=some (cO s left f Qq qZ ms r):=gP wS.partial_correctness fun _ _⟨_,_,_,_,_,_,_,_,_⟩=>gW
instance(f s fuel):zl (gr f s fuel) (fun r=>O.call 206 [vv f,qS s,qj fuel] []=some (C? [qS r.1,qj r.2.1,qj r.2.2],[])):=⟨by unfold gr;exact gW⟩
@[go_sem] def pH (Ea:qu):((Int×qa×(Sl qm)×(List qc)×(Sl (Sl (Sl Int))))⊕(qa×(Sl qm)×(List qc)×(Sl (Sl (Sl Int)))))->Ex×St
 | .inl y=>(x!,⟨[(8,qj y.1)],[(0,h? [qS y.2.1,vv y.2.2.1,qr 1 y.2.2.2.1,qr 2 y.2.2.2.2.l]),(1,bm y.2.2.2.1),(2,pA [1,1] 1 (bo 1 zY) y.2.2.2.2),(3,bb Ea),(4,K!),(5,K!),(6,K!)],7⟩)
 | .inr y=>(j?,⟨[(8,Q?)],[(0,h? [qS y.1,vv y.2.1,qr 1 y.2.2.1,qr 2 y.2.2.2.l]),(1,bm y.2.2.1),(2,pA [1,1] 1 (bo 1 zY) y.2.2.2),(3,bb Ea),(4,K!),(5,K!),(6,K!)],7⟩)
instance:xL zv fun(i,a,n,t,j,w,w2,zr,qZ,Ea) r=>O.loop 150 4 ⟨[(0,x? 0 0),(1,qj i),(2,qj a),(3,qj n),(14,qS t),(15,qj j)],[(0,h? [qS w,vv w2,qr 1 zr,qr 2 qZ.l]),(1,bm zr),(2,pA [1,1] 1 (bo 1 zY) qZ),(3,bb Ea),(4,K!),(5,K!),(6,K!)],7⟩=some (pH Ea r):=gP zv.partial_correctness fun _ _⟨_,_,_,_,_,_,_,_,_,_⟩=>gW
instance(i a n b b_2 r_ r_2):zl (uJ i a n b b_2 r_ r_2) (fun r=>O.call 150 [x? 0 0,qj i,qj a,qj n] [(0,h? [qS b,vv b_2,qr 1 r_,qr 2 r_2.l]),(1,bm r_),(2,pA [1,1] 1 (bo 1 zY) r_2)]=some (qj r.1,[(0,h? [qS r.2.1,vv r.2.2.1,qr 1 r.2.2.2.1,qr 2 r.2.2.2.2.l]),(1,bm r.2.2.2.1),(2,pA [1,1] 1 (bo 1 zY) r.2.2.2.2)])):=⟨by unfold uJ;exact gW⟩
@[go_sem] def pG (i:Int) (a:Int):((Int×qa×(Sl qm)×(List qc)×(Sl (Sl (Sl Int))))⊕(qa×(Sl qm)×(List qc)×(Sl (Sl (Sl Int)))))->Ex×St
 | .inl y=>(x!,⟨[(0,x? 0 0),(2,qj y.1),(3,qj i),(4,qj a)],[(0,h? [qS y.2.1,vv y.2.2.1,qr 1 y.2.2.2.1,qr 2 y.2.2.2.2.l]),(1,bm y.2.2.2.1),(2,pA [1,1] 1 (bo 1 zY) y.2.2.2.2)],3⟩)
 | .inr y=>(j?,⟨[(0,x? 0 0),(2,Q?),(3,qj i),(4,qj a)],[(0,h? [qS y.1,vv y.2.1,qr 1 y.2.2.1,qr 2 y.2.2.2.l]),(1,bm y.2.2.1),(2,pA [1,1] 1 (bo 1 zY) y.2.2.2)],3⟩)
instance:xL jz fun(i,a,ns,k,w,w2,zr,qZ) r=>O.loop 106 4 ⟨[(0,x? 0 0),(3,qj i),(4,qj a),(5,vv ns),(6,qj k)],[(0,h? [qS w,vv w2,qr 1 zr,qr 2 qZ.l]),(1,bm zr),(2,pA [1,1] 1 (bo 1 zY) qZ)],3⟩=some (pG i a r):=gP jz.partial_correctness fun _ _⟨_,_,_,_,_,_,_,_⟩=>gW
@[go_sem] def pF (i:Int):((Int×qa×(Sl qm)×(List qc)×(Sl (Sl (Sl Int))))⊕(qa×(Sl qm)×(List qc)×(Sl (Sl (Sl Int)))))->Ex×St
 | .inl y=>(x!,⟨[(0,x? 0 0),(2,qj y.1),(3,qj i)],[(0,h? [qS y.2.1,vv y.2.2.1,qr 1 y.2.2.2.1,qr 2 y.2.2.2.2.l]),(1,bm y.2.2.2.1),(2,pA [1,1] 1 (bo 1 zY) y.2.2.2.2)],3⟩)
 | .inr y=>(j?,⟨[(0,x? 0 0),(2,Q?),(3,qj i)],[(0,h? [qS y.1,vv y.2.1,qr 1 y.2.2.1,qr 2 y.2.2.2.l]),(1,bm y.2.2.1),(2,pA [1,1] 1 (bo 1 zY) y.2.2.2)],3⟩)
instance:xL jy fun(i,a,w,w2,zr,qZ) r=>O.loop 106 2 ⟨[(0,x? 0 0),(3,qj i),(4,qj a)],[(0,h? [qS w,vv w2,qr 1 zr,qr 2 qZ.l]),(1,bm zr),(2,pA [1,1] 1 (bo 1 zY) qZ)],3⟩=some (pF i r):=gP jy.partial_correctness fun _ _⟨_,_,_,_,_,_⟩=>gW
@[go_sem] def pE:((Int×qa×(Sl qm)×(List qc)×(Sl (Sl (Sl Int))))⊕(qa×(Sl qm)×(List qc)×(Sl (Sl (Sl Int)))))->Ex×St
 | .inl y=>(x!,⟨[(2,qj y.1)],[(0,h? [qS y.2.1,vv y.2.2.1,qr 1 y.2.2.2.1,qr 2 y.2.2.2.2.l]),(1,bm y.2.2.2.1),(2,pA [1,1] 1 (bo 1 zY) y.2.2.2.2)],3⟩)
 | .inr y=>(j?,⟨[(2,Q?)],[(0,h? [qS y.1,vv y.2.1,qr 1 y.2.2.1,qr 2 y.2.2.2.l]),(1,bm y.2.2.1),(2,pA [1,1] 1 (bo 1 zY) y.2.2.2)],3⟩)
instance:xL jx fun(i,w,w2,zr,qZ) r=>O.loop 106 0 ⟨[(0,x? 0 0),(3,qj i)],[(0,h? [qS w,vv w2,qr 1 zr,qr 2 qZ.l]),(1,bm zr),(2,pA [1,1] 1 (bo 1 zY) qZ)],3⟩=some (pE r):=gP jx.partial_correctness fun _ _⟨_,_,_,_,_⟩=>gW
instance(b b_2 r_ r_2):zl (vd b b_2 r_ r_2) (fun r=>O.call 106 [x? 0 0] [(0,h? [qS b,vv b_2,qr 1 r_,qr 2 r_2.l]),(1,bm r_),(2,pA [1,1] 1 (bo 1 zY) r_2)]=some (qj r.1,[(0,h? [qS r.2.1,vv r.2.2.1,qr 1 r.2.2.2.1,qr 2 r.2.2.2.2.l]),(1,bm r.2.2.2.1),(2,pA [1,1] 1 (bo 1 zY) r.2.2.2.2)])):=⟨by unfold vd;exact gW⟩
instance(st es):zl (rY st es) (fun r=>O.call 70 [vv st,vv es] []=some (C? [vv r.1,qj r.2],[])):=⟨by unfold rY;exact gW⟩
instance(b):zl (vX b) (fun r=>O.call 364 [x? 0 0] [(0,bb b)]=some (C? [vv r.1,qS r.2.1,zD r.2.2.1],[(0,bb r.2.2.2)])):=⟨by unfold vX;exact gW⟩
@[go_sem] def pD (t2:qF) (x:qF):((Int×qd×qF×(List qW))⊕(qd×(List qW)))->Ex×St
 | .inl y=>(x!,⟨[(2,x? 1 0),(3,qj y.1),(4,x? 2 0),(5,qr 3 y.2.2.2)],[(0,bb y.2.1),(1,bb y.2.2.1),(2,bb x),(3,br y.2.2.2)],4⟩)
 | .inr y=>(j?,⟨[(2,x? 1 0),(3,Q?),(4,x? 2 0),(5,qr 3 y.2)],[(0,bb y.1),(1,bb t2),(2,bb x),(3,br y.2)],4⟩)
instance:xL zG fun(r_,t2,x,rows) r=>O.loop 350 0 ⟨[(0,x? 0 0),(2,x? 1 0),(4,x? 2 0),(5,qr 3 rows)],[(0,bb r_),(1,bb t2),(2,bb x),(3,br rows)],4⟩=some (pD t2 x r):=gP zG.partial_correctness fun _ _⟨_,_,_,_⟩=>gW
instance(b):zl (uu b) (fun r=>O.call 350 [x? 0 0] [(0,bb b)]=some (C? [vv r.1,qj r.2.1],[(0,bb r.2.2)])):=⟨by unfold uu;exact gW⟩
instance(b):zl (gp b) (fun r=>O.call 351 [x? 0 0] [(0,bb b)]=some (C? [vv r.1,qj r.2.1],[(0,bb r.2.2)])):=⟨by unfold gp;exact gW⟩
instance(qo b r_ r_2):zl (gy qo b r_ r_2) (fun r=>O.call 162 [x? 0 0,qj qo] [(0,h? [qS b,qr 1 r_,qr 2 r_2]),(1,bm r_),(2,bm r_2)]=some (C? [vv r.1,qj r.2],[(0,h? [qS b,qr 1 r_,qr 2 r_2]),(1,bm r_),(2,bm r_2)])):=⟨by unfold gy;exact gW⟩
instance(s x env):zl (cQ s x env) (fun r=>O.call 115 [qS s,vv x,vv env] []=some (C? [vv r.1,qj r.2],[])):=⟨by unfold cQ;exact gW⟩
instance(p_ b b_2 jq r_ r_2 jG):zl (xi p_ b b_2 jq r_ r_2 jG) (fun r=>O.call 218 [x? 0 0,vv p_] [(0,h? [vv b,qS b_2,qS jq,qr 1 r_,qr 2 r_2,qr 3 jG]),(1,br r_),(2,br r_2),(3,br jG)]=some (C? [],[(0,h? [vv b,qS b_2,qS jq,qr 1 r,qr 2 r_2,qr 3 jG]),(1,br r),(2,br r_2),(3,br jG)])):=⟨by unfold xi;exact gW⟩
@[go_sem] def fK:((Bool)⊕(Unit))->Ex×St
 | .inl y=>(x!,⟨[(2,zD y)],[],0⟩)
 | .inr y=>(j?,⟨[(2,Q?)],[],0⟩)
instance:xL uy fun(name,l,i) r=>O.loop 220 0 ⟨[(0,qS name),(3,vv l),(4,qj i)],[],0⟩=some (fK r):=gP uy.partial_correctness fun _ _⟨_,_,_⟩=>gW
instance(name):zl (re name) (fun r=>O.call 220 [qS name] []=some (zD r,[])):=⟨by unfold re;exact gW⟩
instance(st):zl (sX st) (fun r=>O.call 123 [vv st] []=some (vv r,[])):=⟨by unfold sX;exact gW⟩
end Go.Proofs.YtnfdnckadgcifaaGreat
