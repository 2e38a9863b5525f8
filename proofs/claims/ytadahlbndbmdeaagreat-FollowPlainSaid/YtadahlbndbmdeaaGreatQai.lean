/-
  What the machine's calls come to: the plain functions.
-/
import Derived.Test.YtadahlbndbmdeaaGreatQag
open Go.Gm renaming qh->Y,bb->X,gW->V,vv->U,zN->Q,qq->P,qP->L,xT->H,gP->F,bm->B
open Option renaming some->Z
open _root_ renaming Int->R,Bool->M,Unit->I
open Go.Gm.AV renaming ptr->W,undef->K,pv->N,xL->E
open Go.Gm.Ex renaming normal->T,ret->D
open Go.Gm.PV renaming int->C
open Go.Gm.qD renaming box->z
open Go.IntKind renaming u8->A
open Go.Proofs.YtadahlbndbmdeaaGreat.qe renaming au->J
set_option linter.unusedSimpArgs false
set_option linter.unusedVariables false
set_option maxRecDepth 100000
namespace Go.Proofs.YtadahlbndbmdeaaGreat
open Go Go.Gm
set_option maxHeartbeats 4000000
instance:H pK λ(ns,n,k) r=>O.loop 178 0 ⟨[(0,U ns),(1,Y n),(5,Y k)],[],0⟩=Z (T,⟨[(0,U ns),(1,Y n),(5,Y r)],[],0⟩):=F pK.partial_correctness λ_ _⟨_,_,_⟩=>V
instance(ns n):z7 (cO ns n) (λr=>O.call 178 [U ns,Y n] []=Z (U r,[])):=⟨by unfold cO;exact V⟩
instance:H bo λ(a,k,i) r=>O.loop 150 0 ⟨[(1,W 0 0),(3,U a),(4,Y k)],[(0,X i)],1⟩=Z (T,⟨[(1,W 0 0),(3,U r)],[(0,X i)],1⟩):=F bo.partial_correctness λ_ _⟨_,_,_⟩=>V
@[go_sem] def iW (l:(List R)):((M)⊕(I))->Ex×St
 | .inl y=>(D,⟨[(4,Q y)],[(0,br l)],1⟩)
 | .inr y=>(T,⟨[(4,K)],[(0,br l)],1⟩)
instance:H bt λ(n,i,l) r=>O.loop 208 0 ⟨[(0,P 0 l),(1,Y n),(5,Y i)],[(0,br l)],1⟩=Z (iW l r):=F bt.partial_correctness λ_ _⟨_,_,_⟩=>V
instance(n r_):z7 (rP n r_) (λr=>O.call 208 [P 0 r_,Y n] [(0,br r_)]=Z (Q r,[(0,br r_)])):=⟨by unfold rP;exact V⟩
instance:H yR λ(b,next,found,k,i,a) r=>O.loop 150 6 ⟨[(1,W 0 0),(3,U b),(5,P 1 a),(6,Y next),(7,Q found),(9,Y k)],[(0,X i),(1,br a)],2⟩=Z (T,⟨[(1,W 0 0),(3,U b),(5,P 1 a),(6,Y r)],[(0,X i),(1,br a)],2⟩):=F yR.partial_correctness λ_ _⟨_,_,_,_,_,_⟩=>V
instance:H km λ(i,a,n,k,w,w2,b,c,wW,held) r=>O.loop 151 0 ⟨[(0,W 0 0),(1,Y i),(2,Y a),(3,Y n),(9,W 3 0),(10,P 4 held),(11,Y k)],[(0,z [L w,U w2,P 1 b,P 2 c.l]),(1,B b),(2,so [1,1] 1 (ro 1 jf) c),(3,X wW),(4,B held)],5⟩=Z (T,⟨[(0,W 0 0),(1,Y i),(2,Y a),(3,Y n),(9,W 3 0),(10,P 4 r.2)],[(0,z [L w,U w2,P 1 b,P 2 r.1.l]),(1,B b),(2,so [1,1] 1 (ro 1 jf) r.1),(3,X wW),(4,B r.2)],5⟩):=F km.partial_correctness λ_ _⟨_,_,_,_,_,_,_,_,_,_⟩=>V
@[go_sem] def er (i:qr):((R×R×R)⊕(R×R))->Ex×St
 | .inl y=>(D,⟨[(6,Y y.1),(7,Y y.2.1),(8,Y y.2.2)],[(0,X i)],1⟩)
 | .inr y=>(T,⟨[(6,K),(7,Y y.1),(8,Y y.2)],[(0,X i)],1⟩)
instance:H xw λ(n,held,first,a,k,i) r=>O.loop 210 0 ⟨[(1,Y n),(2,U held),(3,W 0 0),(7,Y first),(8,Y a),(9,Y k)],[(0,X i)],1⟩=Z (er i r):=F xw.partial_correctness λ_ _⟨_,_,_,_,_,_⟩=>V
instance(i n held):z7 (dB i n held) (λr=>O.call 210 [U i,Y n,U held] []=Z (Y r,[])):=⟨by unfold dB;exact V⟩
instance:H ko λ(i,a,n,src,k,w,w2,b,c,wW) r=>O.loop 151 2 ⟨[(0,W 0 0),(1,Y i),(2,Y a),(3,Y n),(9,W 3 0),(12,Y src),(13,Y k)],[(0,z [L w,U w2,P 1 b,P 2 c.l]),(1,B b),(2,so [1,1] 1 (ro 1 jf) c),(3,X wW),(4,qD.xA)],5⟩=Z (T,⟨[(0,W 0 0),(1,Y i),(2,Y a),(3,Y n),(9,W 3 0),(12,Y src)],[(0,z [L w,U w2,P 1 b,P 2 r.l]),(1,B b),(2,so [1,1] 1 (ro 1 jf) r),(3,X wW),(4,qD.xA)],5⟩):=F ko.partial_correctness λ_ _⟨_,_,_,_,_,_,_,_,_,_⟩=>V
theorem ZH:(∀ p r,nB p=Z r->O.call 324 [U p] []=Z (Y r,[]))/\(∀ p r,vK p=Z r->match p with|(n,i,x)=>O.loop 324 0 ⟨[(1,W 0 0),(3,Y n),(4,Y i)],[(0,X x)],1⟩=Z (T,⟨[(3,Y r)],[(0,X x)],1⟩)):=by refine nB.mutual_partial_correctness _ _ ?_ ?_;intro vK i;have a:=λp=>z7.mk (i p);clear i;rintro _;exact V;intro nB vK i127 i128;have j127:=λp=>z7.mk (i127 p);clear i127;have a:=λp=>z7.mk (i128 p);clear i128;rintro⟨_,_,_⟩;exact V
instance(p):z7 (nB p) (λr=>O.call 324 [U p] []=Z (Y r,[])):=⟨λr=>ZH.1 p r⟩
instance(p):z7 (vK p) (λr=>match p with|(n,i,x)=>O.loop 324 0 ⟨[(1,W 0 0),(3,Y n),(4,Y i)],[(0,X x)],1⟩=Z (T,⟨[(3,Y r)],[(0,X x)],1⟩)):=⟨λr=>ZH.2 p r⟩
theorem Xt:(∀ p r,pE p=Z r->O.call 325 [U p] []=Z (Y r,[]))/\(∀ p r,yE p=Z r->match p with|(n,i,x)=>O.loop 325 0 ⟨[(1,W 0 0),(3,Y n),(4,Y i)],[(0,X x)],1⟩=Z (T,⟨[(1,W 0 0),(3,Y r)],[(0,X x)],1⟩)):=by refine pE.mutual_partial_correctness _ _ ?_ ?_;intro yE i;have a:=λp=>z7.mk (i p);clear i;rintro _;exact V;intro pE yE i129 i130;have j129:=λp=>z7.mk (i129 p);clear i129;have a:=λp=>z7.mk (i130 p);clear i130;rintro⟨_,_,_⟩;exact V
instance(p):z7 (pE p) (λr=>O.call 325 [U p] []=Z (Y r,[])):=⟨λr=>Xt.1 p r⟩
instance(p):z7 (yE p) (λr=>match p with|(n,i,x)=>O.loop 325 0 ⟨[(1,W 0 0),(3,Y n),(4,Y i)],[(0,X x)],1⟩=Z (T,⟨[(1,W 0 0),(3,Y r)],[(0,X x)],1⟩)):=⟨λr=>Xt.2 p r⟩
@[go_sem] def Qp (n:R) (x:qI):((M)⊕(I))->Ex×St
 | .inl y=>(D,⟨[(1,W 0 0),(2,Q y),(3,Y n)],[(0,X x)],1⟩)
 | .inr y=>(T,⟨[(1,W 0 0),(2,K),(3,Y n)],[(0,X x)],1⟩)
instance:H pF λ(n,i,x) r=>O.loop 326 3 ⟨[(1,W 0 0),(3,Y n),(5,Y i)],[(0,X x)],1⟩=Z (Qp n x r):=F pF.partial_correctness λ_ _⟨_,_,_⟩=>V
instance(x):z7 (gY x) (λr=>O.call 344 [U x] []=Z (Q r,[])):=⟨by unfold gY;exact V⟩
@[go_sem] def Qq (n:R) (x:qI):((M)⊕(I))->Ex×St
 | .inl y=>(D,⟨[(1,W 0 0),(2,Q y),(3,Y n)],[(0,X x)],1⟩)
 | .inr y=>(T,⟨[(1,W 0 0),(2,K),(3,Y n)],[(0,X x)],1⟩)
instance:H pG λ(n,i,x) r=>O.loop 326 5 ⟨[(1,W 0 0),(3,Y n),(6,Y i)],[(0,X x)],1⟩=Z (Qq n x r):=F pG.partial_correctness λ_ _⟨_,_,_⟩=>V
instance(c):z7 (ur c) (λr=>O.call 214 [N (C A (c.toNat:R))] []=Z (Q r,[])):=⟨by unfold ur;exact V⟩
instance:H xp λ(s,qG,i,l) r=>O.loop 268 0 ⟨[(0,L s),(3,P 0 l),(4,Y qG),(5,Y i)],[(0,br l)],1⟩=Z (T,⟨[(3,P 0 r)],[(0,br r)],1⟩):=F xp.partial_correctness λ_ _⟨_,_,_,_⟩=>V
instance(s):z7 (gn s) (λr=>O.call 268 [L s] []=Z (U r,[])):=⟨by unfold gn;exact V⟩
instance(c):z7 (kr c) (λr=>O.call 345 [L c] []=Z (Q r,[])):=⟨by unfold kr;exact V⟩
@[go_sem] def Ql:((M)⊕(I))->Ex×St
 | .inl y=>(D,⟨[(2,Q y)],[],0⟩)
 | .inr y=>(T,⟨[(2,K)],[],0⟩)
instance:H nA λ(rows,i) r=>O.loop 346 0 ⟨[(0,U rows),(3,Y i)],[],0⟩=Z (Ql r):=F nA.partial_correctness λ_ _⟨_,_⟩=>V
instance(rows):z7 (Qk rows) (λr=>O.call 346 [U rows] []=Z (Q r,[])):=⟨by unfold Qk;exact V⟩
instance(x):z7 (dw x) (λr=>O.call 347 [U x] []=Z (Q r,[])):=⟨by unfold dw;exact V⟩
@[go_sem] def fG (n:R) (x:qI):((M)⊕(I))->Ex×St
 | .inl y=>(D,⟨[(1,W 0 0),(2,Q y),(3,Y n)],[(0,X x)],1⟩)
 | .inr y=>(T,⟨[(1,W 0 0),(2,K),(3,Y n)],[(0,X x)],1⟩)
theorem Jp:(∀ p r,sb p=Z r->O.call 326 [U p] []=Z (Q r,[]))/\(∀ p r,hQ p=Z r->match p with|(n,i,x)=>O.loop 326 0 ⟨[(1,W 0 0),(3,Y n),(4,Y i)],[(0,X x)],1⟩=Z (fG n x r)):=by refine sb.mutual_partial_correctness _ _ ?_ ?_;intro hQ i;have a:=λp=>z7.mk (i p);clear i;rintro _;exact V;intro sb hQ i131 i132;have j131:=λp=>z7.mk (i131 p);clear i131;have a:=λp=>z7.mk (i132 p);clear i132;rintro⟨_,_,_⟩;exact V
instance(p):z7 (sb p) (λr=>O.call 326 [U p] []=Z (Q r,[])):=⟨λr=>Jp.1 p r⟩
instance(p):z7 (hQ p) (λr=>match p with|(n,i,x)=>O.loop 326 0 ⟨[(1,W 0 0),(3,Y n),(4,Y i)],[(0,X x)],1⟩=Z (fG n x r)):=⟨λr=>Jp.2 p r⟩
instance(x):z7 (fD x) (λr=>O.call 298 [U x] []=Z (Q r,[])):=⟨by unfold fD;exact V⟩
instance(a):z7 (fH a) (λr=>O.call 310 [Y a] []=Z (L r,[])):=⟨by unfold fH;exact V⟩
@[go_sem] def Qt:((M)⊕(I))->Ex×St
 | .inl y=>(D,⟨[(2,Q y)],[],0⟩)
 | .inr y=>(T,⟨[(2,K)],[],0⟩)
instance:H jB λ(a,i) r=>O.loop 299 0 ⟨[(0,U a),(3,Y i)],[],0⟩=Z (Qt r):=F jB.partial_correctness λ_ _⟨_,_⟩=>V
instance(a):z7 (eS a) (λr=>O.call 299 [U a] []=Z (Q r,[])):=⟨by unfold eS;exact V⟩
instance(f):z7 (eT f) (λr=>O.call 264 [U f] []=Z (Q r,[])):=⟨by unfold eT;exact V⟩
instance:H k9 λ(s,i,l) r=>O.loop 327 0 ⟨[(0,L s),(3,P 0 l),(4,Y i)],[(0,B l)],1⟩=Z (T,⟨[(3,P 0 r)],[(0,B r)],1⟩):=F k9.partial_correctness λ_ _⟨_,_,_⟩=>V
instance(s):z7 (du s) (λr=>O.call 327 [L s] []=Z (U r,[])):=⟨by unfold du;exact V⟩
instance(fold s fuel):z7 (cN fold s fuel) (λr=>O.call 300 [Q fold,L s,Y fuel] []=Z (W 0 0,[(0,X r)])):=⟨by unfold cN;exact V⟩
theorem Qn:(∀ p r,kY p=Z r->O.call 348 [U p] []=Z (Y r,[]))/\(∀ p r,kO p=Z r->match p with|(n,i,x)=>O.loop 348 0 ⟨[(1,W 0 0),(3,Y n),(4,Y i)],[(0,X x)],1⟩=Z (T,⟨[(3,Y r)],[(0,X x)],1⟩)):=by refine kY.mutual_partial_correctness _ _ ?_ ?_;intro kO i;have a:=λp=>z7.mk (i p);clear i;rintro _;exact V;intro kY kO i155 i156;have j155:=λp=>z7.mk (i155 p);clear i155;have a:=λp=>z7.mk (i156 p);clear i156;rintro⟨_,_,_⟩;exact V
instance(p):z7 (kY p) (λr=>O.call 348 [U p] []=Z (Y r,[])):=⟨λr=>Qn.1 p r⟩
instance(p):z7 (kO p) (λr=>match p with|(n,i,x)=>O.loop 348 0 ⟨[(1,W 0 0),(3,Y n),(4,Y i)],[(0,X x)],1⟩=Z (T,⟨[(3,Y r)],[(0,X x)],1⟩)):=⟨λr=>Qn.2 p r⟩
instance:H bU λ(i,j,r_,x,t6,a) r=>O.loop 328 0 ⟨[(0,W 0 0),(2,Y i),(4,W 1 0),(6,W 2 0),(8,P 3 a),(9,Y j)],[(0,X r_),(1,X x),(2,X t6),(3,br a)],4⟩=Z (T,⟨[(0,W 0 0),(2,Y i),(4,W 1 0),(6,W 2 0),(8,P 3 r)],[(0,X r_),(1,X x),(2,X t6),(3,br r)],4⟩):=F bU.partial_correctness λ_ _⟨_,_,_,_,_,_⟩=>V
instance:H um λ(k,i,j,r_,a) r=>O.loop 374 0 ⟨[(0,W 0 0),(1,N (J k)),(2,Y i),(11,P 1 a),(12,Y j)],[(0,X r_),(1,B a)],2⟩=Z (T,⟨[(0,W 0 0),(1,N (J k)),(2,Y i),(11,P 1 r)],[(0,X r_),(1,B r)],2⟩):=F um.partial_correctness λ_ _⟨_,_,_,_,_⟩=>V
instance:H uK λ(k,i,parts,rest,g,j,r_) r=>O.loop 349 1 ⟨[(0,W 0 0),(1,N (J k)),(2,Y i),(3,U parts),(12,N (J rest)),(13,Y g),(14,Y j)],[(0,X r_)],1⟩=Z (T,⟨[(0,W 0 0),(2,Y i),(3,U parts),(12,N (J r))],[(0,X r_)],1⟩):=F uK.partial_correctness λ_ _⟨_,_,_,_,_,_,_⟩=>V
instance(c):z7 (cB c) (λr=>O.call 377 [L c] []=Z (Q r,[])):=⟨by unfold cB;exact V⟩
@[go_sem] def ZG:((M)⊕(I))->Ex×St
 | .inl y=>(D,⟨[(4,Q y)],[],0⟩)
 | .inr y=>(T,⟨[(4,K)],[],0⟩)
instance:H pd λ(rows,c,i) r=>O.loop 379 0 ⟨[(0,U rows),(1,L c),(5,Y i)],[],0⟩=Z (ZG r):=F pd.partial_correctness λ_ _⟨_,_,_⟩=>V
instance(rows c):z7 (iE rows c) (λr=>O.call 379 [U rows,L c] []=Z (Q r,[])):=⟨by unfold iE;exact V⟩
instance:H vC λ(i,b) r=>O.loop 369 0 ⟨[(3,P 0 b),(4,Y i)],[(0,B b)],1⟩=Z (T,⟨[(3,P 0 r)],[(0,B r)],1⟩):=F vC.partial_correctness λ_ _⟨_,_⟩=>V
instance(s):z7 (m9 s) (λr=>O.call 369 [L s] []=Z (L r,[])):=⟨by unfold m9;exact V⟩
instance:H yO λ(i,b) r=>O.loop 380 0 ⟨[(3,P 0 b),(4,Y i)],[(0,B b)],1⟩=Z (T,⟨[(3,P 0 r)],[(0,B r)],1⟩):=F yO.partial_correctness λ_ _⟨_,_⟩=>V
instance(s):z7 (aD s) (λr=>O.call 380 [L s] []=Z (L r,[])):=⟨by unfold aD;exact V⟩
instance(rows not fold c):z7 (Qj rows not fold c) (λr=>O.call 378 [U rows,Q not,Q fold,L c] []=Z (Q r,[])):=⟨by unfold Qj;exact V⟩
instance(x i b):z7 (tE x i b) (λr=>O.call 375 [W 0 0,U x,Y i] [(0,X b)]=Z (E [Y r.1,Q r.2],[(0,X b)])):=⟨by unfold tE;exact V⟩
@[go_sem] def sH:((R×(Sl qg)×M×qj)⊕(qj))->Ex×St
 | .inl y=>(D,⟨[(8,Y y.1),(9,U y.2.1),(10,Q y.2.2.1)],[(0,X y.2.2.2)],1⟩)
 | .inr y=>(T,⟨[(8,K),(9,K),(10,K)],[(0,X y)],1⟩)
theorem mM:(∀ p r,zp p=Z r->match p with|(k,i,parts,b)=>O.call 349 [W 0 0,N (J k),Y i,U parts] [(0,X b)]=Z (E [Y r.1,U r.2.1,Q r.2.2.1],[(0,X r.2.2.2)]))/\(∀ p r,bV p=Z r->match p with|(k,i,parts,b)=>O.call 365 [W 0 0,N (J k),Y i,U parts] [(0,X b)]=Z (E [Y r.1,U r.2.1,Q r.2.2.1],[(0,X r.2.2.2)]))/\(∀ p r,wJ p=Z r->match p with|(k,i,parts,g,j,r_)=>O.loop 349 3 ⟨[(0,W 0 0),(1,N (J k)),(2,Y i),(3,U parts),(15,Y g),(16,Y j)],[(0,X r_)],1⟩=Z (sH r))/\(∀ p r,w8 p=Z r->match p with|(k,i,parts,b)=>O.call 364 [W 0 0,N (J k),Y i,U parts] [(0,X b)]=Z (E [Y r.1,U r.2.1,Q r.2.2.1],[(0,X r.2.2.2)]))/\(∀ p r,jq p=Z r->match p with|(k,i,parts,b)=>O.call 374 [W 0 0,N (J k),Y i,U parts] [(0,X b)]=Z (E [Y r.1,U r.2.1,Q r.2.2.1],[(0,X r.2.2.2)])):=by refine zp.mutual_partial_correctness _ _ _ _ _ ?_ ?_ ?_ ?_ ?_;intro zp bV wJ w8 c i163 i162 i158;have a:=λp=>z7.mk (c p);clear c;have j163:=λp=>z7.mk (i163 p);clear i163;have d:=λp=>z7.mk (i162 p);clear i162;have j158:=λp=>z7.mk (i158 p);clear i158;rintro⟨_,_,_,_⟩;exact V;intro zp i;have a:=λp=>z7.mk (i p);clear i;rintro⟨_,_,_,_⟩;exact V;intro zp wJ c i162;have a:=λp=>z7.mk (c p);clear c;have d:=λp=>z7.mk (i162 p);clear i162;rintro⟨_,_,_,_,_,_⟩;exact V;intro zp jq c i159;have a:=λp=>z7.mk (c p);clear c;have j159:=λp=>z7.mk (i159 p);clear i159;rintro⟨_,_,_,_⟩;exact V;intro zp i;have a:=λp=>z7.mk (i p);clear i;rintro⟨_,_,_,_⟩;exact V
instance(p):z7 (zp p) (λr=>match p with|(k,i,parts,b)=>O.call 349 [W 0 0,N (J k),Y i,U parts] [(0,X b)]=Z (E [Y r.1,U r.2.1,Q r.2.2.1],[(0,X r.2.2.2)])):=⟨λr=>mM.1 p r⟩
instance(p):z7 (bV p) (λr=>match p with|(k,i,parts,b)=>O.call 365 [W 0 0,N (J k),Y i,U parts] [(0,X b)]=Z (E [Y r.1,U r.2.1,Q r.2.2.1],[(0,X r.2.2.2)])):=⟨λr=>mM.2.1 p r⟩
instance(p):z7 (wJ p) (λr=>match p with|(k,i,parts,g,j,r_)=>O.loop 349 3 ⟨[(0,W 0 0),(1,N (J k)),(2,Y i),(3,U parts),(15,Y g),(16,Y j)],[(0,X r_)],1⟩=Z (sH r)):=⟨λr=>mM.2.2.1 p r⟩
instance(p):z7 (w8 p) (λr=>match p with|(k,i,parts,b)=>O.call 364 [W 0 0,N (J k),Y i,U parts] [(0,X b)]=Z (E [Y r.1,U r.2.1,Q r.2.2.1],[(0,X r.2.2.2)])):=⟨λr=>mM.2.2.2.1 p r⟩
instance(p):z7 (jq p) (λr=>match p with|(k,i,parts,b)=>O.call 374 [W 0 0,N (J k),Y i,U parts] [(0,X b)]=Z (E [Y r.1,U r.2.1,Q r.2.2.1],[(0,X r.2.2.2)])):=⟨λr=>mM.2.2.2.2 p r⟩
instance(x i b):z7 (dx x i b) (λr=>O.call 328 [W 0 0,U x,Y i] [(0,X b)]=Z (E [U r.1,Q r.2.1],[(0,X r.2.2)])):=⟨by unfold dx;exact V⟩
@[go_sem] def dU (x:qI) (t6:qo):((M×qj×qo)⊕(qj))->Ex×St
 | .inl y=>(D,⟨[(6,W 2 0),(7,Q y.1)],[(0,X y.2.1),(1,X x),(2,X y.2.2)],3⟩)
 | .inr y=>(T,⟨[(6,W 2 0),(7,K)],[(0,X y),(1,X x),(2,X t6)],3⟩)
instance:H uk λ(i,r_,x,t6) r=>O.loop 301 0 ⟨[(0,W 0 0),(2,Y i),(4,W 1 0),(6,W 2 0)],[(0,X r_),(1,X x),(2,X t6)],3⟩=Z (dU x t6 r):=F uk.partial_correctness λ_ _⟨_,_,_,_⟩=>V
instance(x i b):z7 (mL x i b) (λr=>O.call 301 [W 0 0,U x,Y i] [(0,X b)]=Z (E [U r.1,Q r.2.1],[(0,X r.2.2)])):=⟨by unfold mL;exact V⟩
@[go_sem] def dy (r_:qj):((R)⊕(I))->Ex×St
 | .inl y=>(D,⟨[(4,Y y)],[(0,X r_)],1⟩)
 | .inr y=>(T,⟨[(4,K)],[(0,X r_)],1⟩)
instance:H wQ λ(qp,i,r_) r=>O.loop 302 0 ⟨[(0,W 0 0),(1,Y qp),(5,Y i)],[(0,X r_)],1⟩=Z (dy r_ r):=F wQ.partial_correctness λ_ _⟨_,_,_⟩=>V
instance(qp b):z7 (bX qp b) (λr=>O.call 302 [W 0 0,Y qp] [(0,X b)]=Z (Y r,[(0,X b)])):=⟨by unfold bX;exact V⟩
@[go_sem] def Qs (x:qI):(((Sl qo)×R×R×qj×(List qo))⊕(qj×(List qo)))->Ex×St
 | .inl y=>(D,⟨[(8,U y.1),(9,Y y.2.1),(10,Y y.2.2.1),(11,W 1 0),(12,P 2 y.2.2.2.2)],[(0,X x),(1,X y.2.2.2.1),(2,br y.2.2.2.2)],3⟩)
 | .inr y=>(T,⟨[(8,K),(9,K),(10,K),(11,W 1 0),(12,P 2 y.2)],[(0,X x),(1,X y.1),(2,br y.2)],3⟩)
instance:H pH λ(i,x,r_,out) r=>O.loop 265 0 ⟨[(4,W 0 0),(11,W 1 0),(12,P 2 out),(13,Y i)],[(0,X x),(1,X r_),(2,br out)],3⟩=Z (Qs x r):=F pH.partial_correctness λ_ _⟨_,_,_,_⟩=>V
instance(x fold s fuel):z7 (Qr x fold s fuel) (λr=>O.call 265 [U x,Q fold,L s,Y fuel] []=Z (E [U r.1,Y r.2.1,Y r.2.2],[])):=⟨by unfold Qr;exact V⟩
instance:H nF λ(s,i,f,m,parts) r=>O.loop 267 0 ⟨[(1,L s),(3,W 0 0),(5,W 1 0),(7,P 2 parts),(8,Y i)],[(0,X f),(1,X m),(2,B parts)],3⟩=Z (T,⟨[(3,W 0 0),(7,P 2 r)],[(0,X f),(1,X m),(2,B r)],3⟩):=F nF.partial_correctness λ_ _⟨_,_,_,_,_⟩=>V
instance(c):z7 (iJ c) (λr=>O.call 350 [N (C A (c.toNat:R))] []=Z (N (C A (r.toNat:R)),[])):=⟨by unfold iJ;exact V⟩
instance:H tY λ(i,b) r=>O.loop 329 1 ⟨[(6,P 0 b),(7,Y i)],[(0,B b)],1⟩=Z (T,⟨[(6,P 0 r)],[(0,B r)],1⟩):=F tY.partial_correctness λ_ _⟨_,_⟩=>V
instance(c):z7 (fJ c) (λr=>O.call 351 [N (C A (c.toNat:R))] []=Z (N (C A (r.toNat:R)),[])):=⟨by unfold fJ;exact V⟩
instance:H tZ λ(i,b) r=>O.loop 329 3 ⟨[(6,P 0 b),(8,Y i)],[(0,B b)],1⟩=Z (T,⟨[(6,P 0 r)],[(0,B r)],1⟩):=F tZ.partial_correctness λ_ _⟨_,_⟩=>V
instance(c):z7 (eI c) (λr=>O.call 376 [N (C A (c.toNat:R))] []=Z (Q r,[])):=⟨by unfold eI;exact V⟩
instance(c):z7 (iI c) (λr=>O.call 366 [N (C A (c.toNat:R))] []=Z (Q r,[])):=⟨by unfold iI;exact V⟩
instance:H kC λ(s,i,l) r=>O.loop 352 0 ⟨[(0,L s),(3,P 0 l),(4,Y i)],[(0,br l)],1⟩=Z (T,⟨[(3,P 0 r)],[(0,br r)],1⟩):=F kC.partial_correctness λ_ _⟨_,_,_⟩=>V
instance(s):z7 (aF s) (λr=>O.call 352 [L s] []=Z (U r,[])):=⟨by unfold aF;exact V⟩
instance:H gp λ(b,l,out,i,a) r=>O.loop 329 5 ⟨[(1,Y b),(9,U l),(10,L out),(11,Y i)],[(0,B a)],1⟩=Z (T,⟨[(10,L r)],[(0,B a)],1⟩):=F gp.partial_correctness λ_ _⟨_,_,_,_,_⟩=>V
instance(s a):z7 (fI s a) (λr=>O.call 329 [L s,Y a] []=Z (E [L r.1,Y r.2],[])):=⟨by unfold fI;exact V⟩
instance:H zL λ(a,parts,s,i) r=>O.loop 304 0 ⟨[(0,U a),(1,U parts),(5,L s),(6,Y i)],[],0⟩=Z (T,⟨[(5,L r)],[],0⟩):=F zL.partial_correctness λ_ _⟨_,_,_,_⟩=>V
instance(a parts):z7 (aG a parts) (λr=>O.call 304 [U a,U parts] []=Z (L r,[])):=⟨by unfold aG;exact V⟩
instance(f s m):z7 (eU f s m) (λr=>O.call 267 [U f,L s,U m] []=Z (L r,[])):=⟨by unfold eU;exact V⟩
end Go.Proofs.YtadahlbndbmdeaaGreat
