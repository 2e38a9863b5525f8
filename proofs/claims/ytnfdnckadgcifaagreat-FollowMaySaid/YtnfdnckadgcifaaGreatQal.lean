/-
  What the machine's calls come to: the plain functions.
-/
import Derived.Test.YtnfdnckadgcifaaGreatQag
import Derived.Test.YtnfdnckadgcifaaGreatQaj
open Go.Gm.AV renaming ptr->x?,undef->Q?,xW->C?,pv->I?
open Go.Gm.Ex renaming normal->j?,ret->x!
open Go.Gm.PV renaming sl->l?
open Go.Gm.qJ renaming box->h?
set_option linter.unusedSimpArgs false
set_option linter.unusedVariables false
set_option maxRecDepth 100000
namespace Go.Proofs.YtnfdnckadgcifaaGreat
open Go Go.Gm
set_option maxHeartbeats 4000000
@[go_sem] def QM:((Int)⊕(Int×qa×(Sl qm)×(Sl qc)×(Sl qx)))->AV×qp
 | .inl y=>(C? [I? (PV.yj),qj y],[])
 | .inr y=>(C? [x? 0 0,qj y.1],[(0,h? [qS y.2.1,vv y.2.2.1,vv y.2.2.2.1,vv y.2.2.2.2,I? (l? true 0 []),I? (l? true 0 [])])])
instance:zl (iE) (fun r=>O.call 23 [I? (l? true 0 [])] []=some (QM r)):=⟨by unfold iE;exact gW⟩
@[go_sem] def ae (es:(Sl qz)):((Int)⊕(Unit))->Ex×St
 | .inl y=>(x!,⟨[(1,vv es),(4,qj y)],[],0⟩)
 | .inr y=>(j?,⟨[(1,vv es),(4,Q?)],[],0⟩)
instance:xL uO fun(n,es,i) r=>O.loop 142 0 ⟨[(0,qj n),(1,vv es),(5,qj i)],[],0⟩=some (ae es r):=gP uO.partial_correctness fun _ _⟨_,_,_⟩=>gW
instance:xL bf fun(es,i,l) r=>O.loop 200 0 ⟨[(0,vv es),(3,qr 0 l),(4,qj i)],[(0,br l)],1⟩=some (j?,⟨[(3,qr 0 r)],[(0,br r)],1⟩):=gP bf.partial_correctness fun _ _⟨_,_,_⟩=>gW
instance(es):zl (ag es) (fun r=>O.call 200 [vv es] []=some (vv r,[])):=⟨by unfold ag;exact gW⟩
instance:xL nC fun(l,out,i,k) r=>O.loop 159 2 ⟨[(0,vv l),(3,vv out),(4,qj i),(5,qj k)],[],0⟩=some (j?,⟨[(0,vv l),(3,vv out),(4,qj i),(5,qj r)],[],0⟩):=gP nC.partial_correctness fun _ _⟨_,_,_,_⟩=>gW
instance:xL nB fun(l,out,i) r=>O.loop 159 0 ⟨[(0,vv l),(3,vv out),(4,qj i)],[],0⟩=some (j?,⟨[(3,vv r)],[],0⟩):=gP nB.partial_correctness fun _ _⟨_,_,_⟩=>gW
instance(l):zl (dO l) (fun r=>O.call 159 [vv l] []=some (vv r,[])):=⟨by unfold dO;exact gW⟩
@[go_sem] def eb:((Bool)⊕(Unit))->Ex×St
 | .inl y=>(x!,⟨[(2,zD y)],[],0⟩)
 | .inr y=>(j?,⟨[(2,Q?)],[],0⟩)
instance:xL yY fun(s,i) r=>O.loop 199 0 ⟨[(3,vv s),(4,qj i)],[],0⟩=some (eb r):=gP yY.partial_correctness fun _ _⟨_,_⟩=>gW
instance(l):zl (fZ l) (fun r=>O.call 199 [vv l] []=some (zD r,[])):=⟨by unfold fZ;exact gW⟩
instance(n es):zl (cZ n es) (fun r=>O.call 142 [qj n,vv es] []=some (qj r,[])):=⟨by unfold cZ;exact gW⟩
instance:xL bc fun(n,es,i) r=>O.loop 143 0 ⟨[(0,qj n),(1,vv es),(5,qj i)],[],0⟩=some (j?,⟨[(0,qj r)],[],0⟩):=gP bc.partial_correctness fun _ _⟨_,_,_⟩=>gW
instance(n es):zl (a8 n es) (fun r=>O.call 143 [qj n,vv es] []=some (qj r,[])):=⟨by unfold a8;exact gW⟩
instance(n es):zl (iG n es) (fun r=>O.call 103 [qj n,vv es] []=some (qj r,[])):=⟨by unfold iG;exact gW⟩
instance:xL wD fun(a,s,fl) r=>O.loop 144 0 ⟨[(1,x? 0 0),(3,qr 1 fl.l),(4,qj a)],[(0,bb s),(1,pA [1] 1 zY fl)],2⟩=some (j?,⟨[(3,qr 1 r.l)],[(0,bb s),(1,pA [1] 1 zY r)],2⟩):=gP wD.partial_correctness fun _ _⟨_,_,_⟩=>gW
instance(s):zl (bH s) (fun r=>O.call 144 [vv s] []=some (qr 0 r.l,[(0,pA [1] 1 zY r)])):=⟨by unfold bH;exact gW⟩
instance:xL uG fun(i,st,zr,qZ,w,pY) r=>O.loop 104 0 ⟨[(1,x? 0 0),(3,x? 3 0),(4,qj i)],[(0,bb st),(1,bm zr),(2,bm qZ),(3,h? [qS w,qr 1 zr,qr 2 qZ,qr 4 pY.l]),(4,pA [1,1] 1 (bo 1 zY) pY)],5⟩=some (j?,⟨[(3,x? 3 0)],[(0,bb st),(1,bm zr),(2,bm qZ),(3,h? [qS w,qr 1 zr,qr 2 qZ,qr 4 r.l]),(4,pA [1,1] 1 (bo 1 zY) r)],5⟩):=gP uG.partial_correctness fun _ _⟨_,_,_,_,_,_⟩=>gW
instance(st):zl (ri st) (fun r=>O.call 104 [vv st] []=some (x? 0 0,[(0,h? [qS r.1,vv r.2.1,qr 1 r.2.2.1,qr 2 r.2.2.2.l]),(1,bm r.2.2.1),(2,pA [1,1] 1 (bo 1 zY) r.2.2.2)])):=⟨by unfold ri;exact gW⟩
@[go_sem] def fT (a:Int) (s:qc) (qo:qk):((Int)⊕(Unit))->Ex×St
 | .inl y=>(x!,⟨[(2,x? 0 0),(3,x? 1 0),(4,qj a),(5,qj y),(6,qj a)],[(0,bb s),(1,bb qo)],2⟩)
 | .inr y=>(j?,⟨[(2,x? 0 0),(3,x? 1 0),(4,Q?),(5,Q?),(6,qj a)],[(0,bb s),(1,bb qo)],2⟩)
instance:xL vN fun(a,k,s,qo) r=>O.loop 147 2 ⟨[(2,x? 0 0),(3,x? 1 0),(6,qj a),(7,qj k)],[(0,bb s),(1,bb qo)],2⟩=some (fT a s qo r):=gP vN.partial_correctness fun _ _⟨_,_,_,_⟩=>gW
@[go_sem] def fS (s:qc) (qo:qk):((Int×Int)⊕(Unit))->Ex×St
 | .inl y=>(x!,⟨[(4,qj y.1),(5,qj y.2)],[(0,bb s),(1,bb qo)],2⟩)
 | .inr y=>(j?,⟨[(4,Q?),(5,Q?)],[(0,bb s),(1,bb qo)],2⟩)
instance:xL uH fun(a,s,qo) r=>O.loop 147 0 ⟨[(2,x? 0 0),(3,x? 1 0),(6,qj a)],[(0,bb s),(1,bb qo)],2⟩=some (fS s qo r):=gP uH.partial_correctness fun _ _⟨_,_,_⟩=>gW
instance(s qo):zl (gB s qo) (fun r=>O.call 147 [vv s,vv qo] []=some (C? [qj r.1,qj r.2],[])):=⟨by unfold gB;exact gW⟩
@[go_sem] def fU (s:qc):((Bool)⊕(Unit))->Ex×St
 | .inl y=>(x!,⟨[(4,zD y)],[(0,bb s)],1⟩)
 | .inr y=>(j?,⟨[(4,Q?)],[(0,bb s)],1⟩)
instance:xL uI fun(es,i,s) r=>O.loop 145 0 ⟨[(1,vv es),(2,x? 0 0),(5,qj i)],[(0,bb s)],1⟩=some (fU s r):=gP uI.partial_correctness fun _ _⟨_,_,_⟩=>gW
instance(s es):zl (cU s es) (fun r=>O.call 145 [vv s,vv es] []=some (zD r,[])):=⟨by unfold cU;exact gW⟩
instance:xL kq fun(es,n,w,w2,zr,qZ) r=>O.loop 105 0 ⟨[(0,x? 0 0),(1,vv es),(4,qj n)],[(0,h? [qS w,vv w2,qr 1 zr,qr 2 qZ.l]),(1,bm zr),(2,pA [1,1] 1 (bo 1 zY) qZ)],3⟩=some (j?,⟨[(0,x? 0 0),(1,vv es),(4,qj r)],[(0,h? [qS w,vv w2,qr 1 zr,qr 2 qZ.l]),(1,bm zr),(2,pA [1,1] 1 (bo 1 zY) qZ)],3⟩):=gP kq.partial_correctness fun _ _⟨_,_,_,_,_,_⟩=>gW
instance:xL nE fun(es,out,i,k) r=>O.loop 146 2 ⟨[(0,vv es),(3,vv out),(4,qj i),(5,qj k)],[],0⟩=some (j?,⟨[(0,vv es),(3,vv out),(4,qj i),(5,qj r)],[],0⟩):=gP nE.partial_correctness fun _ _⟨_,_,_,_⟩=>gW
instance:xL nD fun(es,out,i) r=>O.loop 146 0 ⟨[(0,vv es),(3,vv out),(4,qj i)],[],0⟩=some (j?,⟨[(3,vv r)],[],0⟩):=gP nD.partial_correctness fun _ _⟨_,_,_⟩=>gW
instance(es):zl (dQ es) (fun r=>O.call 146 [vv es] []=some (vv r,[])):=⟨by unfold dQ;exact gW⟩
instance:xL kQ fun(top,inst,stop,mark,i,w,w2,ss,qZ,e,is,ks) r=>O.loop 148 0 ⟨[(0,x? 0 0),(1,qj top),(2,qj inst),(3,qj stop),(5,zD mark),(10,x? 3 0),(12,qr 1 ss),(13,qr 4 is),(14,qr 5 ks),(15,qj i)],[(0,h? [qS w,vv w2,qr 1 ss,qr 2 qZ.l]),(1,bm ss),(2,pA [1,1] 1 (bo 1 zY) qZ),(3,bb e),(4,bm is),(5,bm ks)],6⟩=some (j?,⟨[(0,x? 0 0),(1,qj top),(2,qj inst),(3,qj stop),(5,zD mark),(10,x? 3 0),(12,qr 1 ss),(13,qr 4 r.1),(14,qr 5 r.2)],[(0,h? [qS w,vv w2,qr 1 ss,qr 2 qZ.l]),(1,bm ss),(2,pA [1,1] 1 (bo 1 zY) qZ),(3,bb e),(4,bm r.1),(5,bm r.2)],6⟩):=gP kQ.partial_correctness fun _ _⟨_,_,_,_,_,_,_,_,_,_,_,_⟩=>gW
instance:xL jN fun(top,mark,i,w,w2,ss,qZ,e,is,ks,qo) r=>O.loop 148 2 ⟨[(0,x? 0 0),(1,qj top),(5,zD mark),(10,x? 3 0),(12,qr 1 ss),(13,qr 4 is),(14,qr 5 ks),(16,x? 6 0),(17,qj i)],[(0,h? [qS w,vv w2,qr 1 ss,qr 2 qZ.l]),(1,bm ss),(2,pA [1,1] 1 (bo 1 zY) qZ),(3,bb e),(4,bm is),(5,bm ks),(6,bb qo)],7⟩=some (j?,⟨[(0,x? 0 0),(1,qj top),(5,zD mark),(10,x? 3 0),(12,qr 1 ss),(13,qr 4 r.1),(14,qr 5 r.2.1)],[(0,h? [qS w,vv w2,qr 1 ss,qr 2 qZ.l]),(1,bm ss),(2,pA [1,1] 1 (bo 1 zY) qZ),(3,bb e),(4,bm r.1),(5,bm r.2.1),(6,bb r.2.2)],7⟩):=gP jN.partial_correctness fun _ _⟨_,_,_,_,_,_,_,_,_,_,_⟩=>gW
instance:xL ny fun(a,base,k,s,l,qZ) r=>O.loop 254 2 ⟨[(1,x? 0 0),(3,qr 1 l),(4,qj a),(5,qj base),(6,qj k)],[(0,bb s),(1,br l),(2,bm qZ)],3⟩=some (j?,⟨[(1,x? 0 0),(3,qr 1 r),(4,qj a)],[(0,bb s),(1,br r),(2,bm qZ)],3⟩):=gP ny.partial_correctness fun _ _⟨_,_,_,_,_,_⟩=>gW
instance:xL nw fun(a,s,l) r=>O.loop 254 0 ⟨[(1,x? 0 0),(3,qr 1 l),(4,qj a)],[(0,bb s),(1,br l)],2⟩=some (j?,⟨[(3,qr 1 r)],[(0,bb s),(1,br r)],2⟩):=gP nw.partial_correctness fun _ _⟨_,_,_⟩=>gW
instance(s):zl (iB s) (fun r=>O.call 254 [vv s] []=some (vv r,[])):=⟨by unfold iB;exact gW⟩
instance:xL uK fun(inst,qo,a,s) r=>O.loop 257 0 ⟨[(1,qj inst),(3,x? 0 0),(7,qj qo),(8,qj a)],[(0,bb s)],1⟩=some (j?,⟨[(7,qj r)],[(0,bb s)],1⟩):=gP uK.partial_correctness fun _ _⟨_,_,_,_⟩=>gW
instance(s inst stop):zl (mQ s inst stop) (fun r=>O.call 257 [vv s,qj inst,qj stop] []=some (qj r,[])):=⟨by unfold mQ;exact gW⟩
instance(qo right e):zl (aa qo right e) (fun r=>O.call 294 [qj qo,zD right,vv e] []=some (qj r,[])):=⟨by unfold aa;exact gW⟩
end Go.Proofs.YtnfdnckadgcifaaGreat
