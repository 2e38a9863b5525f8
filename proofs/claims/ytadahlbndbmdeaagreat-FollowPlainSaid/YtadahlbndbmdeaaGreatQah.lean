/-
  What the machine's calls come to: the plain functions.
-/
import Derived.Test.YtadahlbndbmdeaaGreatQag
open Bool renaming true->D
open Go.Gm renaming qh->Y,vv->X,qq->V,gW->U,bb->T,xT->P,gP->N,zN->M,bm->L,qP->C,so->A,jf->z,br->v
open Option renaming some->Z
open _root_ renaming Unit->Q,Bool->J,Int->F
open Go.Gm.AV renaming ptr->W,undef->K,pv->E,xL->u
open Go.Gm.Ex renaming normal->R,ret->H
open Go.Gm.PV renaming sl->B
open Go.Gm.qD renaming box->I,xA->p!
set_option linter.unusedSimpArgs false
set_option linter.unusedVariables false
set_option maxRecDepth 100000
namespace Go.Proofs.YtadahlbndbmdeaaGreat
open Go Go.Gm
set_option maxHeartbeats 4000000
@[go_sem] def lf:((J)⊕(Q))->Ex×St
 | .inl y=>(H,⟨[(2,M y)],[],0⟩)
 | .inr y=>(R,⟨[(2,K)],[],0⟩)
instance:P jL λ(s,i) r=>O.loop 65 0 ⟨[(0,C s),(3,Y i)],[],0⟩=Z (lf r):=N jL.partial_correctness λ_ _⟨_,_⟩=>U
instance(s):z7 (kh s) (λr=>O.call 65 [C s] []=Z (M r,[])):=⟨by unfold kh;exact U⟩
@[go_sem] def Qv (name:qa) (value:qa) (out:(List qz)):((F×(List qz))⊕(Q))->Ex×St
 | .inl y=>(H,⟨[(0,C name),(1,C value),(6,V 0 y.2),(7,Y y.1),(8,V 0 y.2)],[(0,L y.2)],1⟩)
 | .inr y=>(R,⟨[(0,C name),(1,C value),(6,K),(7,K),(8,V 0 out)],[(0,L out)],1⟩)
instance:P pL λ(name,value,i,out) r=>O.loop 41 0 ⟨[(0,C name),(1,C value),(8,V 0 out),(9,Y i)],[(0,L out)],1⟩=Z (Qv name value out r):=N pL.partial_correctness λ_ _⟨_,_,_,_⟩=>U
instance(name value env):z7 (eW name value env) (λr=>O.call 41 [C name,C value,X env] []=Z (u [X r.1,Y r.2],[])):=⟨by unfold eW;exact U⟩
@[go_sem] def QF (m:qa) (b:(Sl qm)) (a:(Sl qb)):((F×(Sl qz))⊕((Sl qz)))->Ex×St
 | .inl y=>(H,⟨[(2,E (PV.uI)),(3,Y y.1),(4,W 1 0)],[(0,p!),(1,I [C m,X b,X a,X y.2,E (B D 0 []),E (B D 0 [])])],2⟩)
 | .inr y=>(R,⟨[(2,K),(3,K),(4,W 1 0)],[(0,p!),(1,I [C m,X b,X a,X y,E (B D 0 []),E (B D 0 [])])],2⟩)
instance:P dF λ(env,i,m,b,a,c) r=>O.loop 18 0 ⟨[(0,X env),(4,W 1 0),(5,Y i)],[(0,p!),(1,I [C m,X b,X a,X c,E (B D 0 []),E (B D 0 [])])],2⟩=Z (QF m b a r):=N dF.partial_correctness λ_ _⟨_,_,_,_,_,_⟩=>U
@[go_sem] def Jq:((F)⊕(F×qa×(Sl qm)×(Sl qb)×(Sl qz)))->AV×qt
 | .inl y=>(u [E (PV.uI),Y y],[])
 | .inr y=>(u [W 0 0,Y y.1],[(0,I [C y.2.1,X y.2.2.1,X y.2.2.2.1,X y.2.2.2.2,E (B D 0 []),E (B D 0 [])])])
instance:z7 (QE) (λr=>O.call 18 [E (B D 0 [])] []=Z (Jq r)):=⟨by unfold QE;exact U⟩
instance(s):z7 (gM s) (λr=>O.call 104 [X s] []=Z (X r,[])):=⟨by unfold gM;exact U⟩
instance:P gV λ(l,text,i,es) r=>O.loop 67 0 ⟨[(0,X l),(1,C text),(5,V 0 es),(6,Y i)],[(0,v es)],1⟩=Z (R,⟨[(5,V 0 r)],[(0,v r)],1⟩):=N gV.partial_correctness λ_ _⟨_,_,_,_⟩=>U
instance(l text):z7 (aC l text) (λr=>O.call 67 [X l,C text] []=Z (X r,[])):=⟨by unfold aC;exact U⟩
instance(s n):z7 (cd s n) (λr=>O.call 107 [X s,Y n] []=Z (M r,[])):=⟨by unfold cd;exact U⟩
@[go_sem] def QH (l:(Sl qm)):(((Sl qm)×F)⊕(Q))->Ex×St
 | .inl y=>(H,⟨[(1,X l),(4,X y.1),(5,Y y.2)],[],0⟩)
 | .inr y=>(R,⟨[(1,X l),(4,K),(5,K)],[],0⟩)
instance:P pW λ(n,l,i) r=>O.loop 69 0 ⟨[(0,Y n),(1,X l),(6,Y i)],[],0⟩=Z (QH l r):=N pW.partial_correctness λ_ _⟨_,_,_⟩=>U
instance(a b):z7 (fO a b) (λr=>O.call 162 [X a,X b] []=Z (M r,[])):=⟨by unfold fO;exact U⟩
instance:P mn λ(l,s,i,k) r=>O.loop 108 2 ⟨[(0,X l),(3,X s),(4,Y i),(5,Y k)],[],0⟩=Z (R,⟨[(0,X l),(3,X s),(4,Y i),(5,Y r)],[],0⟩):=N mn.partial_correctness λ_ _⟨_,_,_,_⟩=>U
instance:P mm λ(l,s,i) r=>O.loop 108 0 ⟨[(0,X l),(3,X s),(4,Y i)],[],0⟩=Z (R,⟨[(3,X r)],[],0⟩):=N mm.partial_correctness λ_ _⟨_,_,_⟩=>U
instance(a b):z7 (fP a b) (λr=>O.call 161 [X a,X b] []=Z (M r,[])):=⟨by unfold fP;exact U⟩
instance(s back):z7 (Yg s back) (λr=>O.call 163 [X s,M back] []=Z (X r,[])):=⟨by unfold Yg;exact U⟩
instance:P yK λ(s,i,out) r=>O.loop 108 4 ⟨[(3,X s),(6,V 0 out),(7,Y i)],[(0,v out)],1⟩=Z (R,⟨[(6,V 0 r)],[(0,v r)],1⟩):=N yK.partial_correctness λ_ _⟨_,_,_⟩=>U
instance(l):z7 (fQ l) (λr=>O.call 108 [X l] []=Z (X r,[])):=⟨by unfold fQ;exact U⟩
instance(n l):z7 (mU n l) (λr=>O.call 69 [Y n,X l] []=Z (u [X r.1,Y r.2],[])):=⟨by unfold mU;exact U⟩
@[go_sem] def Qy (st:qv):((J)⊕(Q))->Ex×St
 | .inl y=>(H,⟨[(1,W 0 0),(2,M y)],[(0,T st)],1⟩)
 | .inr y=>(R,⟨[(1,W 0 0),(2,K)],[(0,T st)],1⟩)
instance:P pM λ(l,i,st) r=>O.loop 98 0 ⟨[(1,W 0 0),(3,X l),(5,Y i)],[(0,T st)],1⟩=Z (Qy st r):=N pM.partial_correctness λ_ _⟨_,_,_⟩=>U
@[go_sem] def ZI:((J)⊕(Q))->Ex×St
 | .inl y=>(H,⟨[(6,M y)],[],0⟩)
 | .inr y=>(R,⟨[(6,K)],[],0⟩)
instance:P wZ λ(l,a,b) r=>O.loop 202 0 ⟨[(0,X l),(1,Y a),(2,Y b)],[],0⟩=Z (ZI r):=N wZ.partial_correctness λ_ _⟨_,_,_⟩=>U
instance(l a b):z7 (sZ l a b) (λr=>O.call 202 [X l,Y a,Y b] []=Z (M r,[])):=⟨by unfold sZ;exact U⟩
instance(a b):z7 (ja a b) (λr=>O.call 203 [X a,X b] []=Z (M r,[])):=⟨by unfold ja;exact U⟩
@[go_sem] def Qx (k:F) (i:qr) (x:qu) (a:qg):((J)⊕(Q))->Ex×St
 | .inl y=>(H,⟨[(2,W 0 0),(4,M y),(5,Y k)],[(0,T i),(1,T x),(2,T a)],3⟩)
 | .inr y=>(R,⟨[(2,W 0 0),(4,K),(5,Y k)],[(0,T i),(1,T x),(2,T a)],3⟩)
instance:P jr λ(k,j,i,x,a) r=>O.loop 140 2 ⟨[(2,W 0 0),(5,Y k),(6,W 1 0),(8,Y j)],[(0,T i),(1,T x),(2,T a)],3⟩=Z (Qx k i x a r):=N jr.partial_correctness λ_ _⟨_,_,_,_,_⟩=>U
@[go_sem] def Qw (i:qr):((J)⊕(Q))->Ex×St
 | .inl y=>(H,⟨[(4,M y)],[(0,T i)],1⟩)
 | .inr y=>(R,⟨[(4,K)],[(0,T i)],1⟩)
instance:P xe λ(k,i) r=>O.loop 140 0 ⟨[(2,W 0 0),(5,Y k)],[(0,T i)],1⟩=Z (Qw i r):=N xe.partial_correctness λ_ _⟨_,_⟩=>U
instance(i n):z7 (fM i n) (λr=>O.call 140 [X i,Y n] []=Z (M r,[])):=⟨by unfold fM;exact U⟩
instance:P vQ λ(n,is,i,k,out) r=>O.loop 142 2 ⟨[(0,Y n),(1,X is),(5,V 0 out),(6,Y i),(7,Y k)],[(0,v out)],1⟩=Z (R,⟨[(0,Y n),(1,X is),(5,V 0 r),(6,Y i)],[(0,v r)],1⟩):=N vQ.partial_correctness λ_ _⟨_,_,_,_,_⟩=>U
instance:P bq λ(n,is,i,out) r=>O.loop 142 0 ⟨[(0,Y n),(1,X is),(5,V 0 out),(6,Y i)],[(0,v out)],1⟩=Z (R,⟨[(5,V 0 r)],[(0,v r)],1⟩):=N bq.partial_correctness λ_ _⟨_,_,_,_⟩=>U
instance(n is):z7 (vY n is) (λr=>O.call 142 [Y n,X is] []=Z (X r,[])):=⟨by unfold vY;exact U⟩
@[go_sem] def ln (s:qg):((J)⊕(Q))->Ex×St
 | .inl y=>(H,⟨[(4,M y)],[(0,T s)],1⟩)
 | .inr y=>(R,⟨[(4,K)],[(0,T s)],1⟩)
instance:P mh λ(l,i,s) r=>O.loop 141 0 ⟨[(1,X l),(2,W 0 0),(5,Y i)],[(0,T s)],1⟩=Z (ln s r):=N mh.partial_correctness λ_ _⟨_,_,_⟩=>U
instance(s l):z7 (mg s l) (λr=>O.call 141 [X s,X l] []=Z (M r,[])):=⟨by unfold mg;exact U⟩
@[go_sem] def QA (i:F) (st:qv):((J)⊕(Q))->Ex×St
 | .inl y=>(H,⟨[(1,W 0 0),(2,M y),(6,Y i)],[(0,T st)],1⟩)
 | .inr y=>(R,⟨[(1,W 0 0),(2,K),(6,Y i)],[(0,T st)],1⟩)
instance:P wK λ(i,is,k,st) r=>O.loop 98 4 ⟨[(1,W 0 0),(6,Y i),(7,X is),(8,Y k)],[(0,T st)],1⟩=Z (QA i st r):=N wK.partial_correctness λ_ _⟨_,_,_,_⟩=>U
@[go_sem] def Qz (st:qv):((J)⊕(Q))->Ex×St
 | .inl y=>(H,⟨[(2,M y)],[(0,T st)],1⟩)
 | .inr y=>(R,⟨[(2,K)],[(0,T st)],1⟩)
instance:P pN λ(i,st) r=>O.loop 98 2 ⟨[(1,W 0 0),(6,Y i)],[(0,T st)],1⟩=Z (Qz st r):=N pN.partial_correctness λ_ _⟨_,_⟩=>U
instance(st):z7 (bZ st) (λr=>O.call 98 [X st] []=Z (M r,[])):=⟨by unfold bZ;exact U⟩
@[go_sem] def oe (es:(Sl qf)):((F)⊕(Q))->Ex×St
 | .inl y=>(H,⟨[(1,X es),(4,Y y)],[],0⟩)
 | .inr y=>(R,⟨[(1,X es),(4,K)],[],0⟩)
instance:P bG λ(n,es,i) r=>O.loop 143 0 ⟨[(0,Y n),(1,X es),(5,Y i)],[],0⟩=Z (oe es r):=N bG.partial_correctness λ_ _⟨_,_,_⟩=>U
instance:P ml λ(es,i,l) r=>O.loop 205 0 ⟨[(0,X es),(3,V 0 l),(4,Y i)],[(0,v l)],1⟩=Z (R,⟨[(3,V 0 r)],[(0,v r)],1⟩):=N ml.partial_correctness λ_ _⟨_,_,_⟩=>U
instance(es):z7 (og es) (λr=>O.call 205 [X es] []=Z (X r,[])):=⟨by unfold og;exact U⟩
instance:P pS λ(l,out,i,k) r=>O.loop 160 2 ⟨[(0,X l),(3,X out),(4,Y i),(5,Y k)],[],0⟩=Z (R,⟨[(0,X l),(3,X out),(4,Y i),(5,Y r)],[],0⟩):=N pS.partial_correctness λ_ _⟨_,_,_,_⟩=>U
instance:P pR λ(l,out,i) r=>O.loop 160 0 ⟨[(0,X l),(3,X out),(4,Y i)],[],0⟩=Z (R,⟨[(3,X r)],[],0⟩):=N pR.partial_correctness λ_ _⟨_,_,_⟩=>U
instance(l):z7 (eY l) (λr=>O.call 160 [X l] []=Z (X r,[])):=⟨by unfold eY;exact U⟩
@[go_sem] def lp:((J)⊕(Q))->Ex×St
 | .inl y=>(H,⟨[(2,M y)],[],0⟩)
 | .inr y=>(R,⟨[(2,K)],[],0⟩)
instance:P gA λ(s,i) r=>O.loop 204 0 ⟨[(3,X s),(4,Y i)],[],0⟩=Z (lp r):=N gA.partial_correctness λ_ _⟨_,_⟩=>U
instance(l):z7 (o8 l) (λr=>O.call 204 [X l] []=Z (M r,[])):=⟨by unfold o8;exact U⟩
instance(n es):z7 (aR n es) (λr=>O.call 143 [Y n,X es] []=Z (Y r,[])):=⟨by unfold aR;exact U⟩
instance:P mj λ(n,es,i) r=>O.loop 144 0 ⟨[(0,Y n),(1,X es),(5,Y i)],[],0⟩=Z (R,⟨[(0,Y r)],[],0⟩):=N mj.partial_correctness λ_ _⟨_,_,_⟩=>U
instance(n es):z7 (oa n es) (λr=>O.call 144 [Y n,X es] []=Z (Y r,[])):=⟨by unfold oa;exact U⟩
instance(n es):z7 (QG n es) (λr=>O.call 99 [Y n,X es] []=Z (Y r,[])):=⟨by unfold QG;exact U⟩
instance:P vR λ(a,s,fl) r=>O.loop 145 0 ⟨[(1,W 0 0),(3,V 1 fl.l),(4,Y a)],[(0,T s),(1,A [1] 1 z fl)],2⟩=Z (R,⟨[(3,V 1 r.l)],[(0,T s),(1,A [1] 1 z r)],2⟩):=N vR.partial_correctness λ_ _⟨_,_,_⟩=>U
instance(s):z7 (mS s) (λr=>O.call 145 [X s] []=Z (V 0 r.l,[(0,A [1] 1 z r)])):=⟨by unfold mS;exact U⟩
instance:P bu λ(i,st,a,b,w,c) r=>O.loop 100 0 ⟨[(1,W 0 0),(3,W 3 0),(4,Y i)],[(0,T st),(1,L a),(2,L b),(3,I [C w,V 1 a,V 2 b,V 4 c.l]),(4,A [1,1] 1 (ro 1 z) c)],5⟩=Z (R,⟨[(3,W 3 0)],[(0,T st),(1,L a),(2,L b),(3,I [C w,V 1 a,V 2 b,V 4 r.l]),(4,A [1,1] 1 (ro 1 z) r)],5⟩):=N bu.partial_correctness λ_ _⟨_,_,_,_,_,_⟩=>U
instance(st):z7 (cT st) (λr=>O.call 100 [X st] []=Z (W 0 0,[(0,I [C r.1,X r.2.1,V 1 r.2.2.1,V 2 r.2.2.2.l]),(1,L r.2.2.1),(2,A [1,1] 1 (ro 1 z) r.2.2.2)])):=⟨by unfold cT;exact U⟩
@[go_sem] def iZ (a:F) (s:qb) (qp:qg):((F)⊕(Q))->Ex×St
 | .inl y=>(H,⟨[(2,W 0 0),(3,W 1 0),(4,Y a),(5,Y y),(6,Y a)],[(0,T s),(1,T qp)],2⟩)
 | .inr y=>(R,⟨[(2,W 0 0),(3,W 1 0),(4,K),(5,K),(6,Y a)],[(0,T s),(1,T qp)],2⟩)
instance:P yS λ(a,k,s,qp) r=>O.loop 148 2 ⟨[(2,W 0 0),(3,W 1 0),(6,Y a),(7,Y k)],[(0,T s),(1,T qp)],2⟩=Z (iZ a s qp r):=N yS.partial_correctness λ_ _⟨_,_,_,_⟩=>U
@[go_sem] def iY (s:qb) (qp:qg):((F×F)⊕(Q))->Ex×St
 | .inl y=>(H,⟨[(4,Y y.1),(5,Y y.2)],[(0,T s),(1,T qp)],2⟩)
 | .inr y=>(R,⟨[(4,K),(5,K)],[(0,T s),(1,T qp)],2⟩)
instance:P bx λ(a,s,qp) r=>O.loop 148 0 ⟨[(2,W 0 0),(3,W 1 0),(6,Y a)],[(0,T s),(1,T qp)],2⟩=Z (iY s qp r):=N bx.partial_correctness λ_ _⟨_,_,_⟩=>U
instance(s qp):z7 (nK s qp) (λr=>O.call 148 [X s,X qp] []=Z (u [Y r.1,Y r.2],[])):=⟨by unfold nK;exact U⟩
@[go_sem] def o0 (s:qb):((J)⊕(Q))->Ex×St
 | .inl y=>(H,⟨[(4,M y)],[(0,T s)],1⟩)
 | .inr y=>(R,⟨[(4,K)],[(0,T s)],1⟩)
instance:P bA λ(es,i,s) r=>O.loop 146 0 ⟨[(1,X es),(2,W 0 0),(5,Y i)],[(0,T s)],1⟩=Z (o0 s r):=N bA.partial_correctness λ_ _⟨_,_,_⟩=>U
instance(s es):z7 (aM s es) (λr=>O.call 146 [X s,X es] []=Z (M r,[])):=⟨by unfold aM;exact U⟩
instance:P wm λ(es,n,w,w2,a,b) r=>O.loop 101 0 ⟨[(0,W 0 0),(1,X es),(4,Y n)],[(0,I [C w,X w2,V 1 a,V 2 b.l]),(1,L a),(2,A [1,1] 1 (ro 1 z) b)],3⟩=Z (R,⟨[(0,W 0 0),(1,X es),(4,Y r)],[(0,I [C w,X w2,V 1 a,V 2 b.l]),(1,L a),(2,A [1,1] 1 (ro 1 z) b)],3⟩):=N wm.partial_correctness λ_ _⟨_,_,_,_,_,_⟩=>U
instance:P pU λ(es,out,i,k) r=>O.loop 147 2 ⟨[(0,X es),(3,X out),(4,Y i),(5,Y k)],[],0⟩=Z (R,⟨[(0,X es),(3,X out),(4,Y i),(5,Y r)],[],0⟩):=N pU.partial_correctness λ_ _⟨_,_,_,_⟩=>U
instance:P pT λ(es,out,i) r=>O.loop 147 0 ⟨[(0,X es),(3,X out),(4,Y i)],[],0⟩=Z (R,⟨[(3,X r)],[],0⟩):=N pT.partial_correctness λ_ _⟨_,_,_⟩=>U
instance(es):z7 (i4 es) (λr=>O.call 147 [X es] []=Z (X r,[])):=⟨by unfold i4;exact U⟩
instance:P wU λ(top,inst,stop,mark,i,w,w2,a,b,e,is,ks) r=>O.loop 149 0 ⟨[(0,W 0 0),(1,Y top),(2,Y inst),(3,Y stop),(5,M mark),(10,W 3 0),(12,V 1 a),(13,V 4 is),(14,V 5 ks),(15,Y i)],[(0,I [C w,X w2,V 1 a,V 2 b.l]),(1,L a),(2,A [1,1] 1 (ro 1 z) b),(3,T e),(4,L is),(5,L ks)],6⟩=Z (R,⟨[(0,W 0 0),(1,Y top),(2,Y inst),(3,Y stop),(5,M mark),(10,W 3 0),(12,V 1 a),(13,V 4 r.1),(14,V 5 r.2)],[(0,I [C w,X w2,V 1 a,V 2 b.l]),(1,L a),(2,A [1,1] 1 (ro 1 z) b),(3,T e),(4,L r.1),(5,L r.2)],6⟩):=N wU.partial_correctness λ_ _⟨_,_,_,_,_,_,_,_,_,_,_,_⟩=>U
instance:P kG λ(top,mark,i,w,w2,a,b,e,is,ks,qp) r=>O.loop 149 2 ⟨[(0,W 0 0),(1,Y top),(5,M mark),(10,W 3 0),(12,V 1 a),(13,V 4 is),(14,V 5 ks),(16,W 6 0),(17,Y i)],[(0,I [C w,X w2,V 1 a,V 2 b.l]),(1,L a),(2,A [1,1] 1 (ro 1 z) b),(3,T e),(4,L is),(5,L ks),(6,T qp)],7⟩=Z (R,⟨[(0,W 0 0),(1,Y top),(5,M mark),(10,W 3 0),(12,V 1 a),(13,V 4 r.1),(14,V 5 r.2.1)],[(0,I [C w,X w2,V 1 a,V 2 b.l]),(1,L a),(2,A [1,1] 1 (ro 1 z) b),(3,T e),(4,L r.1),(5,L r.2.1),(6,T r.2.2)],7⟩):=N kG.partial_correctness λ_ _⟨_,_,_,_,_,_,_,_,_,_,_⟩=>U
instance:P pP λ(a,base,k,s,l,b) r=>O.loop 258 2 ⟨[(1,W 0 0),(3,V 1 l),(4,Y a),(5,Y base),(6,Y k)],[(0,T s),(1,v l),(2,L b)],3⟩=Z (R,⟨[(1,W 0 0),(3,V 1 r),(4,Y a)],[(0,T s),(1,v r),(2,L b)],3⟩):=N pP.partial_correctness λ_ _⟨_,_,_,_,_,_⟩=>U
instance:P pO λ(a,s,l) r=>O.loop 258 0 ⟨[(1,W 0 0),(3,V 1 l),(4,Y a)],[(0,T s),(1,v l)],2⟩=Z (R,⟨[(3,V 1 r)],[(0,T s),(1,v r)],2⟩):=N pO.partial_correctness λ_ _⟨_,_,_⟩=>U
instance(s):z7 (QB s) (λr=>O.call 258 [X s] []=Z (X r,[])):=⟨by unfold QB;exact U⟩
instance:P bC λ(inst,qp,a,s) r=>O.loop 261 0 ⟨[(1,Y inst),(3,W 0 0),(7,Y qp),(8,Y a)],[(0,T s)],1⟩=Z (R,⟨[(7,Y r)],[(0,T s)],1⟩):=N bC.partial_correctness λ_ _⟨_,_,_,_⟩=>U
instance(s inst stop):z7 (rQ s inst stop) (λr=>O.call 261 [X s,Y inst,Y stop] []=Z (Y r,[])):=⟨by unfold rQ;exact U⟩
instance:P gx λ(l,a,deep,r_,e,b,wW) r=>O.loop 260 0 ⟨[(0,X l),(1,Y a),(3,M deep),(6,W 0 0),(9,V 1 b),(10,V 2 wW),(11,Y r_)],[(0,T e),(1,L b),(2,L wW)],3⟩=Z (R,⟨[(0,X l),(1,Y a),(3,M deep),(6,W 0 0),(9,V 1 r),(10,V 2 wW)],[(0,T e),(1,L r),(2,L wW)],3⟩):=N gx.partial_correctness λ_ _⟨_,_,_,_,_,_,_⟩=>U
instance:P qJ λ(l,b,deep,r_,e,a,wW) r=>O.loop 260 2 ⟨[(0,X l),(1,Y b),(3,M deep),(6,W 0 0),(9,V 1 a),(10,V 2 wW),(12,Y r_)],[(0,T e),(1,L a),(2,L wW)],3⟩=Z (R,⟨[(9,V 1 r.1)],[(0,T e),(1,L r.1),(2,L r.2)],3⟩):=N qJ.partial_correctness λ_ _⟨_,_,_,_,_,_,_⟩=>U
instance(l a e deep):z7 (o4 l a e deep) (λr=>O.call 260 [X l,Y a,X e,M deep] []=Z (X r,[])):=⟨by unfold o4;exact U⟩
instance:P yU λ(l,a,last,r_,e) r=>O.loop 259 0 ⟨[(0,X l),(1,X a),(5,W 0 0),(7,Y last),(8,Y r_)],[(0,T e)],1⟩=Z (R,⟨[(0,X l),(1,X a),(5,W 0 0),(7,Y r)],[(0,T e)],1⟩):=N yU.partial_correctness λ_ _⟨_,_,_,_,_⟩=>U
instance:P xO λ(l,a,last,r_,e,out) r=>O.loop 259 2 ⟨[(0,X l),(1,X a),(5,W 0 0),(7,Y last),(9,V 1 out),(10,Y r_)],[(0,T e),(1,L out)],2⟩=Z (R,⟨[(9,V 1 r)],[(0,T e),(1,L r)],2⟩):=N xO.partial_correctness λ_ _⟨_,_,_,_,_,_⟩=>U
instance(l a e):z7 (aN l a e) (λr=>O.call 259 [X l,X a,X e] []=Z (X r,[])):=⟨by unfold aN;exact U⟩
instance(qp right e):z7 (oc qp right e) (λr=>O.call 297 [Y qp,M right,X e] []=Z (Y r,[])):=⟨by unfold oc;exact U⟩
instance(s side e):z7 (cU s side e) (λr=>O.call 262 [X s,Y side,X e] []=Z (X r,[])):=⟨by unfold cU;exact U⟩
instance:P ka λ(mark,b,r_,a,alive,k,fl,s,e,d,out,flags,d6,i,i2,zw,f,c) r=>O.loop 206 2 ⟨[(1,V 0 fl.l),(6,M mark),(7,W 1 0),(11,W 2 0),(14,W 3 0),(17,X b),(18,W 4 0),(19,V 5 flags.l),(20,Y r_),(21,Y a),(22,W 7 0),(23,M alive),(24,V 9 f),(25,V 8 zw),(26,Y k)],[(0,A [1] 1 z fl),(1,T s),(2,T e),(3,T d),(4,I [Y out,V 6 d6]),(5,A [1] 1 z flags),(6,v d6),(7,I [Y i,Y i2,V 10 c]),(8,L zw),(9,v f),(10,v c)],11⟩=Z (R,⟨[(1,V 0 r.2.1.l),(6,M mark),(7,W 1 0),(11,W 2 0),(14,W 3 0),(17,X b),(18,W 4 0),(19,V 5 flags.l),(20,Y r.1),(21,Y a),(22,W 7 0),(23,M alive),(24,V 9 r.2.2.2.1)],[(0,A [1] 1 z r.2.1),(1,T s),(2,T e),(3,T d),(4,I [Y out,V 6 d6]),(5,A [1] 1 z flags),(6,v d6),(7,I [Y i,Y i2,V 10 r.2.2.2.2]),(8,L r.2.2.1),(9,v r.2.2.2.1),(10,v r.2.2.2.2)],11⟩):=N ka.partial_correctness λ_ _⟨_,_,_,_,_,_,_,_,_,_,_,_,_,_,_,_,_,_⟩=>U
instance:P yT λ(mark,c,r_,a,fl,s,e,b,out,flags,d6) r=>O.loop 206 0 ⟨[(1,V 0 fl.l),(6,M mark),(7,W 1 0),(11,W 2 0),(14,W 3 0),(17,X c),(18,W 4 0),(19,V 5 flags.l),(20,Y r_),(21,Y a)],[(0,A [1] 1 z fl),(1,T s),(2,T e),(3,T b),(4,I [Y out,V 6 d6]),(5,A [1] 1 z flags),(6,v d6)],7⟩=Z (R,⟨[(14,W 3 0),(18,W 4 0),(19,V 5 r.2.1.l)],[(0,A [1] 1 z r.1),(1,T s),(2,T e),(3,T b),(4,I [Y out,V 6 r.2.2]),(5,A [1] 1 z r.2.1),(6,v r.2.2)],7⟩):=N yT.partial_correctness λ_ _⟨_,_,_,_,_,_,_,_,_,_,_⟩=>U
instance(s inst stop e deep mark r_):z7 (gy s inst stop e deep mark r_) (λr=>O.call 206 [X s,V 0 r_.l,Y inst,Y stop,X e,M deep,M mark] [(0,A [1] 1 z r_)]=Z (u [X r.1,V 1 r.2.2.l],[(0,A [1] 1 z r.2.1),(1,A [1] 1 z r.2.2)])):=⟨by unfold gy;exact U⟩
instance:P sc λ(qp,right,l,i) r=>O.loop 263 0 ⟨[(0,Y qp),(1,M right),(7,X l),(8,Y i)],[],0⟩=Z (R,⟨[(0,Y r)],[],0⟩):=N sc.partial_correctness λ_ _⟨_,_,_,_⟩=>U
instance:z7 (lg) (λr=>O.call 274 [] []=Z (X r,[])):=⟨by unfold lg;exact U⟩
end Go.Proofs.YtadahlbndbmdeaaGreat
