/-
  What the machine's calls come to: the plain functions.
-/
import Derived.Test.YtadahlbndbmdeaaGreatQag
import Derived.Test.YtadahlbndbmdeaaGreatQah
import Derived.Test.YtadahlbndbmdeaaGreatQai
import Derived.Test.YtadahlbndbmdeaaGreatQaj
open Go.Gm renaming qh->Y,qq->X,vv->W,qP->U,bb->Q,gW->P,bm->N,Sl->L,so->H,ro->F,jf->E,br->D,w2->A,xT->z,gP->v,qa->u
open Option renaming some->Z
open _root_ renaming Int->V,List->R
open Go.Gm.AV renaming ptr->T,undef->C,xL->I
open Go.Gm.Ex renaming normal->K,ret->B
open Go.Gm.qD renaming box->M,xA->J
set_option linter.unusedSimpArgs false
set_option linter.unusedVariables false
set_option maxRecDepth 100000
namespace Go.Proofs.YtadahlbndbmdeaaGreat
open Go Go.Gm
set_option maxHeartbeats 4000000
instance:z kH λ(top,mark,i,w,A,b,c,e,is,ks,a) r=>O.loop 149 4 ⟨[(0,T 0 0),(1,Y top),(5,zN mark),(10,T 3 0),(12,X 1 b),(13,X 4 is),(14,X 5 ks),(20,Y i)],[(0,M [U w,W A,X 1 b,X 2 c.l]),(1,N b),(2,H [1,1] 1 (F 1 E) c),(3,Q e),(4,N is),(5,N ks),(6,Q a)],7⟩=Z (K,⟨[(0,T 0 0),(10,T 3 0)],[(0,M [U w,W A,X 1 r.1,X 2 r.2.l]),(1,N r.1),(2,H [1,1] 1 (F 1 E) r.2),(3,Q e),(4,N is),(5,N ks),(6,Q a)],7⟩):=v kH.partial_correctness λ_ _⟨_,_,_,_,_,_,_,_,_,_,_⟩=>P
instance(qp right es):z7 (eZ qp right es) (λr=>O.call 263 [Y qp,zN right,W es] []=Z (Y r,[])):=⟨by unfold eZ;exact P⟩
instance:z pV λ(l,es,i,out) r=>O.loop 207 0 ⟨[(0,W l),(1,W es),(5,X 1 out),(6,Y i)],[(0,J),(1,D out)],2⟩=Z (K,⟨[(5,X 1 r)],[(0,J),(1,D r)],2⟩):=v pV.partial_correctness λ_ _⟨_,_,_,_⟩=>P
instance(l r_):z7 (i5 l r_) (λr=>O.call 207 [W l,X 0 r_] [(0,N r_)]=Z (W r,[(0,J)])):=⟨by unfold i5;exact P⟩
instance:z jS λ(top,mark,i,w,A,a,b,e,is,ks) r=>O.loop 149 4 ⟨[(0,T 0 0),(1,Y top),(5,zN mark),(10,T 3 0),(12,X 1 a),(13,X 4 is),(14,X 5 ks),(20,Y i)],[(0,M [U w,W A,X 1 a,X 2 b.l]),(1,N a),(2,H [1,1] 1 (F 1 E) b),(3,Q e),(4,N is),(5,N ks)],6⟩=Z (K,⟨[(0,T 0 0),(10,T 3 0)],[(0,M [U w,W A,X 1 r.1,X 2 r.2.l]),(1,N r.1),(2,H [1,1] 1 (F 1 E) r.2),(3,Q e),(4,N is),(5,N ks)],6⟩):=v jS.partial_correctness λ_ _⟨_,_,_,_,_,_,_,_,_,_⟩=>P
instance(top inst stop e mark b c r_ a):z7 (kQ top inst stop e mark b c r_ a) (λr=>O.call 149 [T 0 0,Y top,Y inst,Y stop,W e,zN mark] [(0,M [U b,W c,X 1 r_,X 2 a.l]),(1,N r_),(2,H [1,1] 1 (F 1 E) a)]=Z (I [],[(0,M [U r.1,W r.2.1,X 1 r.2.2.1,X 2 r.2.2.2.l]),(1,N r.2.2.1),(2,H [1,1] 1 (F 1 E) r.2.2.2)])):=⟨by unfold kQ;exact P⟩
instance:z jD λ(n,l,i,w,A,a,b) r=>O.loop 101 2 ⟨[(0,T 0 0),(4,Y n),(5,W l),(6,Y i)],[(0,M [U w,W A,X 3 a,X 4 b.l]),(1,J),(2,J),(3,N a),(4,H [1,1] 1 (F 1 E) b)],5⟩=Z (K,⟨[],[(0,M [U r.1,W r.2.1,X 3 r.2.2.1,X 4 r.2.2.2.l]),(1,J),(2,J),(3,N r.2.2.1),(4,H [1,1] 1 (F 1 E) r.2.2.2)],5⟩):=v jD.partial_correctness λ_ _⟨_,_,_,_,_,_,_⟩=>P
instance(es b c r_ a):z7 (gK es b c r_ a) (λr=>O.call 101 [T 0 0,W es] [(0,M [U b,W c,X 1 r_,X 2 a.l]),(1,N r_),(2,H [1,1] 1 (F 1 E) a)]=Z (I [],[(0,M [U r.1,W r.2.1,X 3 r.2.2.1,X 4 r.2.2.2.l]),(1,J),(2,J),(3,N r.2.2.1),(4,H [1,1] 1 (F 1 E) r.2.2.2)])):=⟨by unfold gK;exact P⟩
@[go_sem] def ll (l:(L qu)) (n:V) (a:V) (b:(R V)):((Bool)⊕(Unit))->Ex×St
 | .inl y=>(B,⟨[(0,W l),(1,Y n),(2,X 0 b),(6,zN y),(7,Y a)],[(0,D b)],1⟩)
 | .inr y=>(K,⟨[(0,W l),(1,Y n),(2,X 0 b),(6,C),(7,Y a)],[(0,D b)],1⟩)
instance:z gv λ(l,n,a,b,c) r=>O.loop 209 2 ⟨[(0,W l),(1,Y n),(2,X 0 c),(7,Y a),(8,Y b)],[(0,D c)],1⟩=Z (ll l n a c r):=v gv.partial_correctness λ_ _⟨_,_,_,_,_⟩=>P
@[go_sem] def lk (a:(R V)):((Bool)⊕(Unit))->Ex×St
 | .inl y=>(B,⟨[(6,zN y)],[(0,D a)],1⟩)
 | .inr y=>(K,⟨[(6,C)],[(0,D a)],1⟩)
instance:z yJ λ(l,n,a,b) r=>O.loop 209 0 ⟨[(0,W l),(1,Y n),(2,X 0 b),(7,Y a)],[(0,D b)],1⟩=Z (lk b r):=v yJ.partial_correctness λ_ _⟨_,_,_,_⟩=>P
instance(l n r_):z7 (iX l n r_) (λr=>O.call 209 [W l,Y n,X 0 r_] [(0,D r_)]=Z (zN r,[(0,D r_)])):=⟨by unfold iX;exact P⟩
instance:z vP λ(b,next,found,k,i,a) r=>O.loop 150 4 ⟨[(1,T 0 0),(3,W b),(5,X 1 a),(6,Y next),(7,zN found),(8,Y k)],[(0,Q i),(1,D a)],2⟩=Z (K,⟨[(1,T 0 0),(3,W b),(5,X 1 a),(6,Y r.1),(7,zN r.2)],[(0,Q i),(1,D a)],2⟩):=v vP.partial_correctness λ_ _⟨_,_,_,_,_,_⟩=>P
instance:z bp λ(b,i,a) r=>O.loop 150 2 ⟨[(1,T 0 0),(3,W b),(5,X 1 a)],[(0,Q i),(1,D a)],2⟩=Z (K,⟨[(5,X 1 r)],[(0,Q i),(1,D r)],2⟩):=v bp.partial_correctness λ_ _⟨_,_,_⟩=>P
instance(i):z7 (aL i) (λr=>O.call 150 [W i] []=Z (W r,[])):=⟨by unfold aL;exact P⟩
@[go_sem] def iM (s:u) (left:V) (f:zG):((u×V×V×u×V)⊕(u×V))->Ex×St
 | .inl y=>(B,⟨[(1,U s),(6,U y.1),(7,Y y.2.1),(8,Y y.2.2.1),(10,Y left),(14,U y.2.2.2.1),(15,Y y.2.2.2.2)],[(0,Q f)],1⟩)
 | .inr y=>(K,⟨[(1,U s),(6,C),(7,C),(8,C),(10,Y left),(14,U y.1),(15,Y y.2)],[(0,Q f)],1⟩)
instance:z bc λ(s,a,left,out,qp,i,f) r=>O.loop 211 0 ⟨[(1,U s),(3,T 0 0),(9,W a),(10,Y left),(14,U out),(15,Y qp),(16,Y i)],[(0,Q f)],1⟩=Z (iM s left f r):=v bc.partial_correctness λ_ _⟨_,_,_,_,_,_,_⟩=>P
instance(x fold s qp fuel):z7 (iG x fold s qp fuel) (λr=>O.call 266 [W x,zN fold,U s,Y qp,Y fuel] []=Z (I [W r.1,Y r.2.1,zN r.2.2.1,Y r.2.2.2],[])):=⟨by unfold iG;exact P⟩
@[go_sem] def aH (s:u) (left:V) (f:zG) (c:qo) (a:(R qo)) (b:(R qo)):((u×V×V×u×V)⊕(u×V))->Ex×St
 | .inl y=>(B,⟨[(1,U s),(6,U y.1),(7,Y y.2.1),(8,Y y.2.2.1),(10,Y left),(14,U y.2.2.2.1),(15,Y y.2.2.2.2)],[(0,Q f),(1,Q c),(2,N a),(3,N b)],4⟩)
 | .inr y=>(K,⟨[(1,U s),(6,C),(7,C),(8,C),(10,Y left),(14,U y.1),(15,Y y.2)],[(0,Q f),(1,Q c),(2,N a),(3,N b)],4⟩)
instance:z yn λ(s,left,out,qp,i,f,c,b,a) r=>O.loop 211 0 ⟨[(1,U s),(3,T 0 0),(9,X 3 a),(10,Y left),(14,U out),(15,Y qp),(16,Y i)],[(0,Q f),(1,Q c),(2,N b),(3,N a)],4⟩=Z (aH s left f c b a r):=v yn.partial_correctness λ_ _⟨_,_,_,_,_,_,_,_,_⟩=>P
instance(f s fuel):z7 (nE f s fuel) (λr=>O.call 211 [W f,U s,Y fuel] []=Z (I [U r.1,Y r.2.1,Y r.2.2],[])):=⟨by unfold nE;exact P⟩
@[go_sem] def sA (a:qr):((V×u×(L qm)×(R qb)×(L (L (L V))))⊕(u×(L qm)×(R qb)×(L (L (L V)))))->Ex×St
 | .inl y=>(B,⟨[(8,Y y.1)],[(0,M [U y.2.1,W y.2.2.1,X 1 y.2.2.2.1,X 2 y.2.2.2.2.l]),(1,N y.2.2.2.1),(2,H [1,1] 1 (F 1 E) y.2.2.2.2),(3,Q a),(4,J),(5,J),(6,J)],7⟩)
 | .inr y=>(K,⟨[(8,C)],[(0,M [U y.1,W y.2.1,X 1 y.2.2.1,X 2 y.2.2.2.l]),(1,N y.2.2.1),(2,H [1,1] 1 (F 1 E) y.2.2.2),(3,Q a),(4,J),(5,J),(6,J)],7⟩)
instance:z zF λ(i,a,n,t,j,w,A,c,d,b) r=>O.loop 151 4 ⟨[(0,T 0 0),(1,Y i),(2,Y a),(3,Y n),(14,U t),(15,Y j)],[(0,M [U w,W A,X 1 c,X 2 d.l]),(1,N c),(2,H [1,1] 1 (F 1 E) d),(3,Q b),(4,J),(5,J),(6,J)],7⟩=Z (sA b r):=v zF.partial_correctness λ_ _⟨_,_,_,_,_,_,_,_,_,_⟩=>P
instance(i a n b d r_ c):z7 (bB i a n b d r_ c) (λr=>O.call 151 [T 0 0,Y i,Y a,Y n] [(0,M [U b,W d,X 1 r_,X 2 c.l]),(1,N r_),(2,H [1,1] 1 (F 1 E) c)]=Z (Y r.1,[(0,M [U r.2.1,W r.2.2.1,X 1 r.2.2.2.1,X 2 r.2.2.2.2.l]),(1,N r.2.2.2.1),(2,H [1,1] 1 (F 1 E) r.2.2.2.2)])):=⟨by unfold bB;exact P⟩
@[go_sem] def sy (i:V) (a:V):((V×u×(L qm)×(R qb)×(L (L (L V))))⊕(u×(L qm)×(R qb)×(L (L (L V)))))->Ex×St
 | .inl y=>(B,⟨[(0,T 0 0),(2,Y y.1),(3,Y i),(4,Y a)],[(0,M [U y.2.1,W y.2.2.1,X 1 y.2.2.2.1,X 2 y.2.2.2.2.l]),(1,N y.2.2.2.1),(2,H [1,1] 1 (F 1 E) y.2.2.2.2)],3⟩)
 | .inr y=>(K,⟨[(0,T 0 0),(2,C),(3,Y i),(4,Y a)],[(0,M [U y.1,W y.2.1,X 1 y.2.2.1,X 2 y.2.2.2.l]),(1,N y.2.2.1),(2,H [1,1] 1 (F 1 E) y.2.2.2)],3⟩)
instance:z kl λ(i,a,ns,k,w,A,b,c) r=>O.loop 102 4 ⟨[(0,T 0 0),(3,Y i),(4,Y a),(5,W ns),(6,Y k)],[(0,M [U w,W A,X 1 b,X 2 c.l]),(1,N b),(2,H [1,1] 1 (F 1 E) c)],3⟩=Z (sy i a r):=v kl.partial_correctness λ_ _⟨_,_,_,_,_,_,_,_⟩=>P
@[go_sem] def sx (i:V):((V×u×(L qm)×(R qb)×(L (L (L V))))⊕(u×(L qm)×(R qb)×(L (L (L V)))))->Ex×St
 | .inl y=>(B,⟨[(0,T 0 0),(2,Y y.1),(3,Y i)],[(0,M [U y.2.1,W y.2.2.1,X 1 y.2.2.2.1,X 2 y.2.2.2.2.l]),(1,N y.2.2.2.1),(2,H [1,1] 1 (F 1 E) y.2.2.2.2)],3⟩)
 | .inr y=>(K,⟨[(0,T 0 0),(2,C),(3,Y i)],[(0,M [U y.1,W y.2.1,X 1 y.2.2.1,X 2 y.2.2.2.l]),(1,N y.2.2.1),(2,H [1,1] 1 (F 1 E) y.2.2.2)],3⟩)
instance:z kj λ(i,a,w,A,b,c) r=>O.loop 102 2 ⟨[(0,T 0 0),(3,Y i),(4,Y a)],[(0,M [U w,W A,X 1 b,X 2 c.l]),(1,N b),(2,H [1,1] 1 (F 1 E) c)],3⟩=Z (sx i r):=v kj.partial_correctness λ_ _⟨_,_,_,_,_,_⟩=>P
@[go_sem] def sw:((V×u×(L qm)×(R qb)×(L (L (L V))))⊕(u×(L qm)×(R qb)×(L (L (L V)))))->Ex×St
 | .inl y=>(B,⟨[(2,Y y.1)],[(0,M [U y.2.1,W y.2.2.1,X 1 y.2.2.2.1,X 2 y.2.2.2.2.l]),(1,N y.2.2.2.1),(2,H [1,1] 1 (F 1 E) y.2.2.2.2)],3⟩)
 | .inr y=>(K,⟨[(2,C)],[(0,M [U y.1,W y.2.1,X 1 y.2.2.1,X 2 y.2.2.2.l]),(1,N y.2.2.1),(2,H [1,1] 1 (F 1 E) y.2.2.2)],3⟩)
instance:z ki λ(i,w,A,a,b) r=>O.loop 102 0 ⟨[(0,T 0 0),(3,Y i)],[(0,M [U w,W A,X 1 a,X 2 b.l]),(1,N a),(2,H [1,1] 1 (F 1 E) b)],3⟩=Z (sw r):=v ki.partial_correctness λ_ _⟨_,_,_,_,_⟩=>P
instance(b c r_ a):z7 (yw b c r_ a) (λr=>O.call 102 [T 0 0] [(0,M [U b,W c,X 1 r_,X 2 a.l]),(1,N r_),(2,H [1,1] 1 (F 1 E) a)]=Z (Y r.1,[(0,M [U r.2.1,W r.2.2.1,X 1 r.2.2.2.1,X 2 r.2.2.2.2.l]),(1,N r.2.2.2.1),(2,H [1,1] 1 (F 1 E) r.2.2.2.2)])):=⟨by unfold yw;exact P⟩
instance:z js λ(i,a,w,A,b,c,s,is) r=>O.loop 103 2 ⟨[(0,T 0 0),(2,Y i),(3,T 3 0),(4,X 4 is),(5,Y a)],[(0,M [U w,W A,X 1 b,X 2 c.l]),(1,N b),(2,H [1,1] 1 (F 1 E) c),(3,Q s),(4,D is)],5⟩=Z (K,⟨[(0,T 0 0),(2,Y i),(3,T 3 0),(4,X 4 r)],[(0,M [U w,W A,X 1 b,X 2 c.l]),(1,N b),(2,H [1,1] 1 (F 1 E) c),(3,Q s),(4,D r)],5⟩):=v js.partial_correctness λ_ _⟨_,_,_,_,_,_,_,_⟩=>P
@[go_sem] def c9 (w:u) (A:(L qm)) (a:(L (L (L V)))):((qb×(R qb))⊕((R qb)))->Ex×St
 | .inl y=>(B,⟨[],[(0,M [U w,W A,X 5 y.2,X 2 a.l]),(1,J),(2,H [1,1] 1 (F 1 E) a),(3,Q y.1),(4,J),(5,N y.2)],6⟩)
 | .inr y=>(K,⟨[],[(0,M [U w,W A,X 1 y,X 2 a.l]),(1,N y),(2,H [1,1] 1 (F 1 E) a)],3⟩)
instance:z kF λ(i,w,A,b,a) r=>O.loop 103 0 ⟨[(0,T 0 0),(2,Y i)],[(0,M [U w,W A,X 1 b,X 2 a.l]),(1,N b),(2,H [1,1] 1 (F 1 E) a)],3⟩=Z (c9 w A a r):=v kF.partial_correctness λ_ _⟨_,_,_,_,_⟩=>P
@[go_sem] def dX (b:u) (c:(L qm)) (a:(L (L (L V)))):(((R qb))⊕((R qb)))->AV×qt
 | .inl y=>(I [],[(0,M [U b,W c,X 3 y,X 2 a.l]),(1,J),(2,H [1,1] 1 (F 1 E) a),(3,N y)])
 | .inr y=>(I [],[(0,M [U b,W c,X 1 y,X 2 a.l]),(1,N y),(2,H [1,1] 1 (F 1 E) a)])
instance(b c r_ a):z7 (uq b c r_ a) (λr=>O.call 103 [T 0 0] [(0,M [U b,W c,X 1 r_,X 2 a.l]),(1,N r_),(2,H [1,1] 1 (F 1 E) a)]=Z (dX b c a r)):=⟨by unfold uq;exact P⟩
instance(st es):z7 (dC st es) (λr=>O.call 66 [W st,W es] []=Z (I [W r.1,Y r.2],[])):=⟨by unfold dC;exact P⟩
instance:z vS λ(s,i,t2,t) r=>O.loop 172 0 ⟨[(0,U s),(2,T 0 0),(3,T 1 0),(4,Y i)],[(0,Q t2),(1,Q t)],2⟩=Z (K,⟨[(2,T 0 0),(3,T 1 0)],[(0,Q t2),(1,Q r)],2⟩):=v vS.partial_correctness λ_ _⟨_,_,_,_⟩=>P
instance(s):z7 (Zn s) (λr=>O.call 172 [U s] []=Z (W r,[])):=⟨by unfold Zn;exact P⟩
instance(s off):z7 (eJ s off) (λr=>O.call 115 [U s,Y off] []=Z (I [Y r.1,Y r.2],[])):=⟨by unfold eJ;exact P⟩
instance(s off a):z7 (o7 s off a) (λr=>O.call 152 [U s,Y off,Y a] []=Z (I [Y r.1,Y r.2.1,Y r.2.2],[])):=⟨by unfold o7;exact P⟩
instance:z gb λ(s,qp) r=>O.loop 153 0 ⟨[(0,U s),(1,Y qp)],[],0⟩=Z (K,⟨[(1,Y r)],[],0⟩):=v gb.partial_correctness λ_ _⟨_,_⟩=>P
instance(s qp):z7 (QI s qp) (λr=>O.call 153 [U s,Y qp] []=Z (Y r,[])):=⟨by unfold QI;exact P⟩
instance:z yL λ(s,qp) r=>O.loop 154 0 ⟨[(0,U s),(1,Y qp)],[],0⟩=Z (K,⟨[(0,U s),(1,Y r)],[],0⟩):=v yL.partial_correctness λ_ _⟨_,_⟩=>P
instance(s qp):z7 (oh s qp) (λr=>O.call 154 [U s,Y qp] []=Z (Y r,[])):=⟨by unfold oh;exact P⟩
@[go_sem] def QD (s:u):((V)⊕(Unit))->Ex×St
 | .inl y=>(B,⟨[(0,U s),(6,Y y)],[],0⟩)
 | .inr y=>(K,⟨[(0,U s),(6,C)],[],0⟩)
instance:z pQ λ(s,a,n,many,k) r=>O.loop 216 0 ⟨[(0,U s),(1,Y a),(2,Y n),(7,Y many),(8,Y k)],[],0⟩=Z (QD s r):=v pQ.partial_correctness λ_ _⟨_,_,_,_,_⟩=>P
instance(s a n):z7 (QC s a n) (λr=>O.call 216 [U s,Y a,Y n] []=Z (Y r,[])):=⟨by unfold QC;exact P⟩
instance(s line a b):z7 (cV s line a b) (λr=>O.call 157 [U s,Y line,Y a,Y b] []=Z (I [Y r.1,Y r.2],[])):=⟨by unfold cV;exact P⟩
instance(s qp a):z7 (fR s qp a) (λr=>O.call 105 [U s,Y qp,Y a] []=Z (I [Y r.1,Y r.2],[])):=⟨by unfold fR;exact P⟩
instance:z je λ(s,l,b,i,a) r=>O.loop 68 0 ⟨[(0,U s),(1,W l),(2,zN b),(7,X 0 a),(8,Y i)],[(0,D a)],1⟩=Z (K,⟨[(7,X 0 r)],[(0,D r)],1⟩):=v je.partial_correctness λ_ _⟨_,_,_,_,_⟩=>P
instance:z wG λ(s,i,out) r=>O.loop 106 0 ⟨[(3,W s),(4,X 0 out),(5,Y i)],[(0,D out)],1⟩=Z (K,⟨[(4,X 0 r)],[(0,D r)],1⟩):=v wG.partial_correctness λ_ _⟨_,_,_⟩=>P
instance(l):z7 (o9 l) (λr=>O.call 106 [W l] []=Z (W r,[])):=⟨by unfold o9;exact P⟩
instance(s l a):z7 (dr s l a) (λr=>O.call 68 [U s,W l,zN a] []=Z (W r,[])):=⟨by unfold dr;exact P⟩
instance:z yy λ(s,a,extend,l,i,out) r=>O.loop 70 0 ⟨[(0,U s),(1,Y a),(2,zN extend),(10,W l),(12,X 0 out),(13,Y i)],[(0,D out)],1⟩=Z (K,⟨[(0,U s),(12,X 0 r)],[(0,D r)],1⟩):=v yy.partial_correctness λ_ _⟨_,_,_,_,_,_⟩=>P
instance(s a extend b):z7 (KQ s a extend b) (λr=>O.call 70 [U s,Y a,zN extend,W b] []=Z (I [W r.1,Y r.2],[])):=⟨by unfold KQ;exact P⟩
instance(qp b r_ a):z7 (nH qp b r_ a) (λr=>O.call 218 [T 0 0,Y qp] [(0,M [U b,X 1 r_,X 2 a]),(1,N r_),(2,N a)]=Z (I [U r.1,Y r.2.1,zN r.2.2],[(0,M [U b,X 1 r_,X 2 a]),(1,N r_),(2,N a)])):=⟨by unfold nH;exact P⟩
instance(qp b r_ a):z7 (uo qp b r_ a) (λr=>O.call 164 [T 0 0,Y qp] [(0,M [U b,X 1 r_,X 2 a]),(1,N r_),(2,N a)]=Z (I [W r.1,Y r.2.1,zN r.2.2],[(0,M [U b,X 1 r_,X 2 a]),(1,N r_),(2,N a)])):=⟨by unfold uo;exact P⟩
instance:z vI λ(rows,s,i) r=>O.loop 368 0 ⟨[(0,W rows),(3,W s),(4,Y i)],[],0⟩=Z (K,⟨[(3,W r)],[],0⟩):=v vI.partial_correctness λ_ _⟨_,_,_⟩=>P
instance(rows):z7 (aE rows) (λr=>O.call 368 [W rows] []=Z (W r,[])):=⟨by unfold aE;exact P⟩
instance(b):z7 (gZ b) (λr=>O.call 353 [T 0 0] [(0,Q b)]=Z (I [W r.1,Y r.2.1],[(0,Q r.2.2)])):=⟨by unfold gZ;exact P⟩
instance(b):z7 (nC b) (λr=>O.call 354 [T 0 0] [(0,Q b)]=Z (I [W r.1,Y r.2.1],[(0,Q r.2.2)])):=⟨by unfold nC;exact P⟩
@[go_sem] def hU:((V×qd×qI×(R qI))⊕(V×qd×qI))->Ex×St
 | .inl y=>(B,⟨[(4,T 1 0),(5,Y y.1)],[(0,Q y.2.1),(1,Q y.2.2.1),(2,D y.2.2.2)],3⟩)
 | .inr y=>(B,⟨[(4,T 1 0),(5,Y y.1)],[(0,Q y.2.1),(1,Q y.2.2),(2,J)],3⟩)
@[go_sem] def hZ (deep:V) (t4:qI) (alts:(R qI)):((V×qd×qI×(R qI))⊕(qd×(R qI)))->Ex×St
 | .inl y=>(B,⟨[(0,T 0 0),(1,Y deep),(4,T 1 0),(5,Y y.1),(6,X 2 alts),(7,X 3 y.2.2.2)],[(0,Q y.2.1),(1,Q y.2.2.1),(2,D alts),(3,D y.2.2.2)],4⟩)
 | .inr y=>(K,⟨[(0,T 0 0),(1,Y deep),(4,T 1 0),(5,C),(6,X 2 alts),(7,X 3 y.2)],[(0,Q y.1),(1,Q t4),(2,D alts),(3,D y.2)],4⟩)
theorem wE:(∀ p r,xk p=Z r->match p with|(deep,b)=>O.call 269 [T 0 0,Y deep] [(0,Q b)]=Z (I [W r.1,Y r.2.1],[(0,Q r.2.2)]))/\(∀ p r,jk p=Z r->match p with|(deep,r_,t4,alts)=>O.loop 269 0 ⟨[(0,T 0 0),(1,Y deep),(4,T 1 0),(6,X 2 alts)],[(0,Q r_),(1,Q t4),(2,D alts)],3⟩=Z (hU r))/\(∀ p r,jl p=Z r->match p with|(deep,r_,t4,alts,d)=>O.loop 269 2 ⟨[(0,T 0 0),(1,Y deep),(4,T 1 0),(6,X 2 alts),(7,X 3 d)],[(0,Q r_),(1,Q t4),(2,D alts),(3,D d)],4⟩=Z (hZ deep t4 alts r))/\(∀ p r,uj p=Z r->match p with|(deep,b)=>O.call 306 [T 0 0,Y deep] [(0,Q b)]=Z (I [W r.1,Y r.2.1],[(0,Q r.2.2)]))/\(∀ p r,wx p=Z r->match p with|(deep,b)=>O.call 330 [T 0 0,Y deep] [(0,Q b)]=Z (I [W r.1,Y r.2.1],[(0,Q r.2.2)])):=by refine xk.mutual_partial_correctness _ _ _ _ _ ?_ ?_ ?_ ?_ ?_;intro jk i;have c:=λp=>z7.mk (i p);clear i;rintro⟨_,_⟩;exact P;intro jk jl i244 i245;have c:=λp=>z7.mk (i244 p);clear i244;have a:=λp=>z7.mk (i245 p);clear i245;rintro⟨_,_,_,_⟩;exact P;intro jl uj i245 i247;have a:=λp=>z7.mk (i245 p);clear i245;have j247:=λp=>z7.mk (i247 p);clear i247;rintro⟨_,_,_,_,_⟩;exact P;intro wx i;have j249:=λp=>z7.mk (i p);clear i;rintro⟨_,_⟩;exact P;intro xk i;have j243:=λp=>z7.mk (i p);clear i;rintro⟨_,_⟩;exact P
instance(p):z7 (xk p) (λr=>match p with|(deep,b)=>O.call 269 [T 0 0,Y deep] [(0,Q b)]=Z (I [W r.1,Y r.2.1],[(0,Q r.2.2)])):=⟨λr=>wE.1 p r⟩
instance(p):z7 (jk p) (λr=>match p with|(deep,r_,t4,alts)=>O.loop 269 0 ⟨[(0,T 0 0),(1,Y deep),(4,T 1 0),(6,X 2 alts)],[(0,Q r_),(1,Q t4),(2,D alts)],3⟩=Z (hU r)):=⟨λr=>wE.2.1 p r⟩
instance(p):z7 (jl p) (λr=>match p with|(deep,r_,t4,alts,a)=>O.loop 269 2 ⟨[(0,T 0 0),(1,Y deep),(4,T 1 0),(6,X 2 alts),(7,X 3 a)],[(0,Q r_),(1,Q t4),(2,D alts),(3,D a)],4⟩=Z (hZ deep t4 alts r)):=⟨λr=>wE.2.2.1 p r⟩
instance(p):z7 (uj p) (λr=>match p with|(deep,b)=>O.call 306 [T 0 0,Y deep] [(0,Q b)]=Z (I [W r.1,Y r.2.1],[(0,Q r.2.2)])):=⟨λr=>wE.2.2.2.1 p r⟩
instance(p):z7 (wx p) (λr=>match p with|(deep,b)=>O.call 330 [T 0 0,Y deep] [(0,Q b)]=Z (I [W r.1,Y r.2.1],[(0,Q r.2.2)])):=⟨λr=>wE.2.2.2.2 p r⟩
end Go.Proofs.YtadahlbndbmdeaaGreat
