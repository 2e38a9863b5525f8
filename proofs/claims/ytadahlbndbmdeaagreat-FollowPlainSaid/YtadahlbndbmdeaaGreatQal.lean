/-
  What the machine's calls come to: the plain functions.
-/
import Derived.Test.YtadahlbndbmdeaaGreatQag
import Derived.Test.YtadahlbndbmdeaaGreatQah
import Derived.Test.YtadahlbndbmdeaaGreatQai
import Derived.Test.YtadahlbndbmdeaaGreatQaj
open Go.Gm renaming qq->Z,br->Y,qh->W,qP->V,vv->U,zN->R,w2->N,gW->M,bb->E,xT->C,gP->B
open Option renaming some->X
open _root_ renaming List->P,Int->I,Unit->H
open Go.Gm.AV renaming ptr->Q,undef->F,pv->z,xL->J
open Go.Gm.Ex renaming normal->L,ret->D
open Go.Gm.PV renaming sl->A
open Go.Gm.qD renaming box->T,xA->K
set_option linter.unusedSimpArgs false
set_option linter.unusedVariables false
set_option maxRecDepth 100000
namespace Go.Proofs.YtadahlbndbmdeaaGreat
open Go Go.Gm
set_option maxHeartbeats 4000000
@[go_sem] def l9 (t4:zQ) (f:zQ):((I×Bool×zQ×zQ)⊕(H))->Ex×St
 | .inl y=>(D,⟨[(4,Q 0 0),(5,W y.1),(6,R y.2.1)],[(0,E y.2.2.1),(1,E y.2.2.2)],2⟩)
 | .inr y=>(L,⟨[(4,Q 0 0),(5,F),(6,F)],[(0,E t4),(1,E f)],2⟩)
instance:C mb λ(s,end_,w,t4,f) r=>O.loop 270 1 ⟨[(0,V s),(4,Q 0 0),(8,W end_),(10,Q 1 0),(11,W w)],[(0,E t4),(1,E f)],2⟩=X (l9 t4 f r):=B mb.partial_correctness λ_ _⟨_,_,_,_,_⟩=>M
instance(s qp):z7 (iL s qp) (λr=>O.call 270 [V s,W qp] []=X (J [U r.1,W r.2.1,R r.2.2],[])):=⟨by unfold iL;exact M⟩
instance:C vD λ(s,qp,a) r=>O.loop 220 0 ⟨[(0,V s),(1,W qp),(7,Z 0 a)],[(0,Y a)],1⟩=X (L,⟨[(0,V s),(1,W r.1),(7,Z 0 r.2)],[(0,Y r.2)],1⟩):=B vD.partial_correctness λ_ _⟨_,_,_⟩=>M
instance(s qp):z7 (iK s qp) (λr=>O.call 220 [V s,W qp] []=X (J [U r.1,W r.2.1,R r.2.2],[])):=⟨by unfold iK;exact M⟩
@[go_sem] def fK:((Bool)⊕(H))->Ex×St
 | .inl y=>(D,⟨[(2,R y)],[],0⟩)
 | .inr y=>(L,⟨[(2,F)],[],0⟩)
theorem lN:(∀ p r,mN p=X r->O.call 169 [U p] []=X (R r,[]))/\(∀ p r,xb p=X r->match p with|(l,i)=>O.loop 169 0 ⟨[(0,U l),(3,W i)],[],0⟩=X (fK r))/\(∀ p r,wR p=X r->O.call 222 [U p] []=X (R r,[])):=by refine mN.mutual_partial_correctness _ _ _ ?_ ?_ ?_;intro xb i;have a:=λp=>z7.mk (i p);clear i;rintro _;exact M;intro xb wR i283 i289;have a:=λp=>z7.mk (i283 p);clear i283;have j289:=λp=>z7.mk (i289 p);clear i289;rintro⟨_,_⟩;exact M;intro mN i;have j282:=λp=>z7.mk (i p);clear i;rintro _;exact M
instance(p):z7 (mN p) (λr=>O.call 169 [U p] []=X (R r,[])):=⟨λr=>lN.1 p r⟩
instance(p):z7 (xb p) (λr=>match p with|(l,i)=>O.loop 169 0 ⟨[(0,U l),(3,W i)],[],0⟩=X (fK r)):=⟨λr=>lN.2.1 p r⟩
instance(p):z7 (wR p) (λr=>O.call 222 [U p] []=X (R r,[])):=⟨λr=>lN.2.2 p r⟩
instance(l):z7 (eV l) (λr=>O.call 112 [U l] []=X (R r,[])):=⟨by unfold eV;exact M⟩
instance(name):z7 (cP name) (λr=>O.call 225 [V name] []=X (R r,[])):=⟨by unfold cP;exact M⟩
instance:C yu λ(plain,qp,i,w,N,p,l,m,n,o,x,b,MY,a,A3,A4,A5,A6,A7,K3,K4,K5,K6,K7,K8,K9,t,q,k,j,h,g,f,e,d,c,M8,M9,Ma,Mb,Mc,Md,Me,y,v,u,s) r=>O.loop 226 0 ⟨[(0,Q 0 0),(3,R plain),(5,Q 5 0),(8,W qp),(9,Q 6 0),(10,W i)],[(0,T [U w,V N,V p,Z 2 m,Z 3 n,Z 4 o]),(1,bm l),(2,Y m),(3,Y n),(4,Y o),(5,T [W x,V b,W MY,R a,R A3,W A4,V A5,R A6,U A7,W K3,W K4,R K5,U K6,U K7,R K8,R K9,U t,Z 1 l]),(6,T [W q,V k,W j,R h,R g,R f,W e,V d,R c,U M8,W M9,W Ma,R Mb,U Mc,U Md,R Me,R y,Z 7 s,W v,W u]),(7,Y s)],8⟩=X (L,⟨[(0,Q 0 0),(3,R plain),(5,Q 5 0),(8,W qp),(9,Q 6 0)],[(0,T [U w,V N,V p,Z 2 m,Z 3 n,Z 4 o]),(1,bm l),(2,Y m),(3,Y n),(4,Y o),(5,T [W x,V b,W MY,R a,R A3,W A4,V A5,R A6,U A7,W K3,W K4,R K5,U K6,U K7,R K8,R K9,U t,Z 1 l]),(6,T [W q,V k,W j,R h,R g,R f,W e,V d,R c,U M8,W M9,W Ma,R Mb,U Mc,U Md,R Me,R y,Z 7 r,W v,W u]),(7,Y r)],8⟩):=B yu.partial_correctness λ_ _⟨_,_,_,_,_,_,_,_,_,_,_,_,_,_,_,_,_,_,_,_,_,_,_,_,_,_,_,_,_,_,_,_,_,_,_,_,_,_,_,_,_,_,_,_,_,_,_⟩=>M
instance:C j9 λ(plain,qp,i,w,N,m,j,k,l,x,n,h,g,f,e,d,c,b,a,M8,M9,y,v,u,t,s,q,p,o,d6) r=>O.loop 226 0 ⟨[(0,Q 0 0),(3,R plain),(5,Q 4 0),(8,W qp),(9,Q 5 0),(10,W i)],[(0,T [U w,V N,V m,Z 1 j,Z 2 k,Z 3 l]),(1,Y j),(2,Y k),(3,Y l),(4,E x),(5,T [W n,V h,W g,R f,R e,R d,W c,V b,R a,U M8,W M9,W y,R v,U u,U t,R s,R q,Z 6 d6,W p,W o]),(6,Y d6)],7⟩=X (L,⟨[(0,Q 0 0),(3,R plain),(5,Q 4 0),(8,W qp),(9,Q 5 0)],[(0,T [U w,V N,V m,Z 1 j,Z 2 k,Z 3 l]),(1,Y j),(2,Y k),(3,Y l),(4,E x),(5,T [W n,V h,W g,R f,R e,R d,W c,V b,R a,U M8,W M9,W y,R v,U u,U t,R s,R q,Z 6 r,W p,W o]),(6,Y r)],7⟩):=B j9.partial_correctness λ_ _⟨_,_,_,_,_,_,_,_,_,_,_,_,_,_,_,_,_,_,_,_,_,_,_,_,_,_,_,_,_,_⟩=>M
@[go_sem] def sI (b:(Sl qz)) (a:qa) (d:qa) (r_:(P qF)) (c:(P qa)):(((P qc)×(P I))⊕((Sl qz)×qa×qa×(P qc)×(P I)×(P qa)))->AV×qt
 | .inl y=>(J [],[(0,T [U b,V a,V d,Z 2 y.1,Z 3 y.2,Z 4 c]),(1,bm r_),(2,Y y.1),(3,Y y.2),(4,Y c)])
 | .inr y=>(J [],[(0,T [U y.1,V y.2.1,V y.2.2.1,Z 2 y.2.2.2.1,Z 3 y.2.2.2.2.1,Z 4 y.2.2.2.2.2]),(1,K),(2,Y y.2.2.2.1),(3,Y y.2.2.2.2.1),(4,Y y.2.2.2.2.2)])
theorem bM:(∀ p r,xC p=X r->match p with|(l,up,b,c,f,r_,a,d)=>O.call 173 [Q 0 0,U l,W up] [(0,T [U b,V c,V f,Z 1 r_,Z 2 a,Z 3 d]),(1,Y r_),(2,Y a),(3,Y d)]=X (J [],[(0,T [U r.1,V r.2.1,V r.2.2.1,Z 1 r.2.2.2.1,Z 2 r.2.2.2.2.1,Z 3 r.2.2.2.2.2]),(1,Y r.2.2.2.1),(2,Y r.2.2.2.2.1),(3,Y r.2.2.2.2.2)]))/\(∀ p r,zz p=X r->match p with|(l,up,i,w,N,q,m,n,o)=>O.loop 173 0 ⟨[(0,Q 0 0),(1,U l),(2,W up),(6,W i)],[(0,T [U w,V N,V q,Z 1 m,Z 2 n,Z 3 o]),(1,Y m),(2,Y n),(3,Y o)],4⟩=X (L,⟨[],[(0,T [U r.1,V r.2.1,V r.2.2.1,Z 1 r.2.2.2.1,Z 2 r.2.2.2.2.1,Z 3 r.2.2.2.2.2]),(1,Y r.2.2.2.1),(2,Y r.2.2.2.2.1),(3,Y r.2.2.2.2.2)],4⟩))/\(∀ p r,vO p=X r->match p with|(x,up,plain,b,c,f,r_,a,d)=>O.call 226 [Q 0 0,U x,W up,R plain] [(0,T [U b,V c,V f,Z 1 r_,Z 2 a,Z 3 d]),(1,Y r_),(2,Y a),(3,Y d)]=X (J [],[(0,T [U r.1,V r.2.1,V r.2.2.1,Z 1 r.2.2.2.1,Z 2 r.2.2.2.2.1,Z 3 r.2.2.2.2.2]),(1,Y r.2.2.2.1),(2,Y r.2.2.2.2.1),(3,Y r.2.2.2.2.2)]))/\(∀ p r,uL p=X r->match p with|(x,j,t,h,A3,A4,A5,A6,A7,K3,K4,K5,K6,y,v,u,s,up,plain,b,c,f,r_,a,d,k)=>O.call 226 [Q 0 0,AV.agg [W x,V j,W t,R h,R A3,W A4,V A5,R A6,U A7,W K3,W K4,R K5,U K6,U y,R v,R u,U s,Z 1 r_],W up,R plain] [(0,T [U b,V c,V f,Z 2 a,Z 3 d,Z 4 k]),(1,bm r_),(2,Y a),(3,Y d),(4,Y k)]=X (sI b c f r_ k r)):=by refine xC.mutual_partial_correctness _ _ _ _ ?_ ?_ ?_ ?_;intro zz i;have g:=λp=>z7.mk (i p);clear i;rintro⟨_,_,_,_,_,_,_,_⟩;exact M;intro xC zz vO uL i310 i311 i321 i317;have e:=λp=>z7.mk (i310 p);clear i310;have g:=λp=>z7.mk (i311 p);clear i311;have j321:=λp=>z7.mk (i321 p);clear i321;have j317:=λp=>z7.mk (i317 p);clear i317;rintro⟨_,_,_,_,_,_,_,_,_⟩;exact M;intro xC i;have e:=λp=>z7.mk (i p);clear i;rintro⟨_,_,_,_,_,_,_,_,_⟩;exact M;intro xC i;have e:=λp=>z7.mk (i p);clear i;rintro⟨_,_,_,_,_,_,_,_,_,_,_,_,_,_,_,_,_,_,_,_,_,_,_,_,_,_⟩;exact M
instance(p):z7 (xC p) (λr=>match p with|(l,up,b,c,e,r_,a,d)=>O.call 173 [Q 0 0,U l,W up] [(0,T [U b,V c,V e,Z 1 r_,Z 2 a,Z 3 d]),(1,Y r_),(2,Y a),(3,Y d)]=X (J [],[(0,T [U r.1,V r.2.1,V r.2.2.1,Z 1 r.2.2.2.1,Z 2 r.2.2.2.2.1,Z 3 r.2.2.2.2.2]),(1,Y r.2.2.2.1),(2,Y r.2.2.2.2.1),(3,Y r.2.2.2.2.2)])):=⟨λr=>bM.1 p r⟩
instance(p):z7 (zz p) (λr=>match p with|(l,up,i,w,N,d,a,b,c)=>O.loop 173 0 ⟨[(0,Q 0 0),(1,U l),(2,W up),(6,W i)],[(0,T [U w,V N,V d,Z 1 a,Z 2 b,Z 3 c]),(1,Y a),(2,Y b),(3,Y c)],4⟩=X (L,⟨[],[(0,T [U r.1,V r.2.1,V r.2.2.1,Z 1 r.2.2.2.1,Z 2 r.2.2.2.2.1,Z 3 r.2.2.2.2.2]),(1,Y r.2.2.2.1),(2,Y r.2.2.2.2.1),(3,Y r.2.2.2.2.2)],4⟩)):=⟨λr=>bM.2.1 p r⟩
instance(p):z7 (vO p) (λr=>match p with|(x,up,plain,b,c,e,r_,a,d)=>O.call 226 [Q 0 0,U x,W up,R plain] [(0,T [U b,V c,V e,Z 1 r_,Z 2 a,Z 3 d]),(1,Y r_),(2,Y a),(3,Y d)]=X (J [],[(0,T [U r.1,V r.2.1,V r.2.2.1,Z 1 r.2.2.2.1,Z 2 r.2.2.2.2.1,Z 3 r.2.2.2.2.2]),(1,Y r.2.2.2.1),(2,Y r.2.2.2.2.1),(3,Y r.2.2.2.2.2)])):=⟨λr=>bM.2.2.1 p r⟩
instance(p):z7 (uL p) (λr=>match p with|(x,e,j,d,y,w,v,u,t,s,q,o,n,m,l,k,i,up,plain,b,c,h,r_,a,g,f)=>O.call 226 [Q 0 0,AV.agg [W x,V e,W j,R d,R y,W w,V v,R u,U t,W s,W q,R o,U n,U m,R l,R k,U i,Z 1 r_],W up,R plain] [(0,T [U b,V c,V h,Z 2 a,Z 3 g,Z 4 f]),(1,bm r_),(2,Y a),(3,Y g),(4,Y f)]=X (sI b c h r_ f r)):=⟨λr=>bM.2.2.2 p r⟩
instance:C xc λ(l,up,i,w,N,d,a,b,c) r=>O.loop 173 0 ⟨[(0,Q 0 0),(1,U l),(2,W up),(6,W i)],[(0,T [U w,V N,V d,Z 1 a,Z 2 b,Z 3 c]),(1,Y a),(2,Y b),(3,Y c)],4⟩=X (L,⟨[],[(0,T [U r.1,V r.2.1,V r.2.2.1,Z 1 r.2.2.2.1,Z 2 r.2.2.2.2.1,Z 3 r.2.2.2.2.2]),(1,Y r.2.2.2.1),(2,Y r.2.2.2.2.1),(3,Y r.2.2.2.2.2)],4⟩):=B xc.partial_correctness λ_ _⟨_,_,_,_,_,_,_,_,_⟩=>M
instance(l up b a c):z7 (tH l up b a c) (λr=>O.call 173 [Q 0 0,U l,W up] [(0,T [U b,V a,V c,z (A true 0 []),z (A true 0 []),z (A true 0 [])])]=X (J [],[(0,T [U r.1,V r.2.1,V r.2.2.1,Z 1 r.2.2.2.1,Z 2 r.2.2.2.2.1,Z 3 r.2.2.2.2.2]),(1,Y r.2.2.2.1),(2,Y r.2.2.2.2.1),(3,Y r.2.2.2.2.2)])):=⟨by unfold tH;exact M⟩
@[go_sem] def sX (w:(Sl qz)) (N:qa) (d:qa) (a:(P qc)) (b:(P I)) (c:(P qa)):((I)⊕(H))->Ex×St
 | .inl y=>(D,⟨[(4,W y)],[(0,T [U w,V N,V d,Z 1 a,Z 2 b,Z 3 c]),(1,Y a),(2,Y b),(3,Y c)],4⟩)
 | .inr y=>(L,⟨[(4,F)],[(0,T [U w,V N,V d,Z 1 a,Z 2 b,Z 3 c]),(1,Y a),(2,Y b),(3,Y c)],4⟩)
instance:C j8 λ(n,i,w,N,d,a,b,c) r=>O.loop 228 0 ⟨[(0,Q 0 0),(1,W n),(5,W i)],[(0,T [U w,V N,V d,Z 1 a,Z 2 b,Z 3 c]),(1,Y a),(2,Y b),(3,Y c)],4⟩=X (sX w N d a b c r):=B j8.partial_correctness λ_ _⟨_,_,_,_,_,_,_,_⟩=>M
instance(n b c e r_ a d):z7 (vM n b c e r_ a d) (λr=>O.call 228 [Q 0 0,W n] [(0,T [U b,V c,V e,Z 1 r_,Z 2 a,Z 3 d]),(1,Y r_),(2,Y a),(3,Y d)]=X (W r,[(0,T [U b,V c,V e,Z 1 r_,Z 2 a,Z 3 d]),(1,Y r_),(2,Y a),(3,Y d)])):=⟨by unfold vM;exact M⟩
instance:C zJ λ(i,w,N,e,c,a,b,d) r=>O.loop 174 4 ⟨[(0,Q 0 0),(5,Z 4 d),(6,W i)],[(0,T [U w,V N,V e,Z 1 c,Z 2 a,Z 3 b]),(1,Y c),(2,Y a),(3,Y b),(4,Y d)],5⟩=X (L,⟨[],[(0,T [U w,V N,V e,Z 1 r.1,Z 2 a,Z 3 b]),(1,Y r.1),(2,Y a),(3,Y b),(4,Y r.2)],5⟩):=B zJ.partial_correctness λ_ _⟨_,_,_,_,_,_,_,_⟩=>M
instance(b c e r_ a d):z7 (nJ b c e r_ a d) (λr=>O.call 174 [Q 0 0] [(0,T [U b,V c,V e,Z 1 r_,Z 2 a,Z 3 d]),(1,Y r_),(2,Y a),(3,Y d)]=X (J [],[(0,T [U b,V c,V e,Z 1 r,Z 2 a,Z 3 d]),(1,Y r),(2,Y a),(3,Y d)])):=⟨by unfold nJ;exact M⟩
instance:C wY λ(d,i,w,N,e,a,b,c,ns) r=>O.loop 230 0 ⟨[(0,Q 0 0),(1,W d),(2,Z 4 ns),(7,W i)],[(0,T [U w,V N,V e,Z 1 a,Z 2 b,Z 3 c]),(1,Y a),(2,Y b),(3,Y c),(4,Y ns)],5⟩=X (L,⟨[(2,Z 4 r)],[(0,T [U w,V N,V e,Z 1 a,Z 2 b,Z 3 c]),(1,Y a),(2,Y b),(3,Y c),(4,Y r)],5⟩):=B wY.partial_correctness λ_ _⟨_,_,_,_,_,_,_,_,_⟩=>M
instance(d b c f r_ a e):z7 (sY d b c f r_ a e) (λr=>O.call 230 [Q 0 0,W d,z (A true 0 [])] [(0,T [U b,V c,V f,Z 1 r_,Z 2 a,Z 3 e]),(1,Y r_),(2,Y a),(3,Y e)]=X (Z 4 r,[(0,T [U b,V c,V f,Z 1 r_,Z 2 a,Z 3 e]),(1,Y r_),(2,Y a),(3,Y e),(4,Y r)])):=⟨by unfold sY;exact M⟩
instance:C jW λ(d,i,w,N,e,ns,a,b,c) r=>O.loop 230 0 ⟨[(0,Q 0 0),(1,W d),(2,Z 1 ns),(7,W i)],[(0,T [U w,V N,V e,Z 2 a,Z 3 b,Z 4 c]),(1,Y ns),(2,Y a),(3,Y b),(4,Y c)],5⟩=X (L,⟨[(2,Z 1 r)],[(0,T [U w,V N,V e,Z 2 a,Z 3 b,Z 4 c]),(1,Y r),(2,Y a),(3,Y b),(4,Y c)],5⟩):=B jW.partial_correctness λ_ _⟨_,_,_,_,_,_,_,_,_⟩=>M
instance(d b c g r_ a f e):z7 (tG d b c g r_ a f e) (λr=>O.call 230 [Q 0 0,W d,Z 1 r_] [(0,T [U b,V c,V g,Z 2 a,Z 3 f,Z 4 e]),(1,Y r_),(2,Y a),(3,Y f),(4,Y e)]=X (Z 1 r,[(0,T [U b,V c,V g,Z 2 a,Z 3 f,Z 4 e]),(1,Y r),(2,Y a),(3,Y f),(4,Y e)])):=⟨by unfold tG;exact M⟩
instance:C wS λ(i,k,w,N,d,a,b,c,wW) r=>O.loop 175 2 ⟨[(0,Q 0 0),(3,W i),(4,Z 4 wW),(5,W k)],[(0,T [U w,V N,V d,Z 1 a,Z 2 b,Z 3 c]),(1,Y a),(2,Y b),(3,Y c),(4,Y wW)],5⟩=X (L,⟨[(0,Q 0 0),(3,W i),(4,Z 4 r)],[(0,T [U w,V N,V d,Z 1 a,Z 2 b,Z 3 c]),(1,Y a),(2,Y b),(3,Y c),(4,Y r)],5⟩):=B wS.partial_correctness λ_ _⟨_,_,_,_,_,_,_,_,_⟩=>M
@[go_sem] def dz (w:(Sl qz)) (N:qa) (d:qa) (a:(P qc)) (b:(P I)) (c:(P qa)):((Bool)⊕(H))->Ex×St
 | .inl y=>(D,⟨[(2,R y)],[(0,T [U w,V N,V d,Z 1 a,Z 2 b,Z 3 c]),(1,Y a),(2,Y b),(3,Y c)],4⟩)
 | .inr y=>(L,⟨[(2,F)],[(0,T [U w,V N,V d,Z 1 a,Z 2 b,Z 3 c]),(1,Y a),(2,Y b),(3,Y c)],4⟩)
instance:C jw λ(i,w,N,d,a,b,c) r=>O.loop 175 0 ⟨[(0,Q 0 0),(3,W i)],[(0,T [U w,V N,V d,Z 1 a,Z 2 b,Z 3 c]),(1,Y a),(2,Y b),(3,Y c)],4⟩=X (dz w N d a b c r):=B jw.partial_correctness λ_ _⟨_,_,_,_,_,_,_⟩=>M
instance(b c e r_ a d):z7 (tJ b c e r_ a d) (λr=>O.call 175 [Q 0 0] [(0,T [U b,V c,V e,Z 1 r_,Z 2 a,Z 3 d]),(1,Y r_),(2,Y a),(3,Y d)]=X (R r,[(0,T [U b,V c,V e,Z 1 r_,Z 2 a,Z 3 d]),(1,Y r_),(2,Y a),(3,Y d)])):=⟨by unfold tJ;exact M⟩
instance:C gr λ(many,i,w,N,d,a,b,c) r=>O.loop 117 0 ⟨[(11,Q 0 0),(12,W many),(13,W i)],[(0,T [U w,V N,V d,Z 1 a,Z 2 b,Z 3 c]),(1,Y a),(2,Y b),(3,Y c)],4⟩=X (L,⟨[(11,Q 0 0),(12,W r)],[(0,T [U w,V N,V d,Z 1 a,Z 2 b,Z 3 c]),(1,Y a),(2,Y b),(3,Y c)],4⟩):=B gr.partial_correctness λ_ _⟨_,_,_,_,_,_,_,_⟩=>M
@[go_sem] def aK (a:(P I)) (b:(P qa)):((I)⊕(H))->Ex×St
 | .inl y=>(D,⟨[(4,W y)],[(0,T [Z 1 a,Z 2 b]),(1,Y a),(2,Y b)],3⟩)
 | .inr y=>(L,⟨[(4,F)],[(0,T [Z 1 a,Z 2 b]),(1,Y a),(2,Y b)],3⟩)
instance:C yr λ(n,i,a,b) r=>O.loop 275 0 ⟨[(0,Q 0 0),(1,W n),(5,W i)],[(0,T [Z 1 a,Z 2 b]),(1,Y a),(2,Y b)],3⟩=X (aK a b r):=B yr.partial_correctness λ_ _⟨_,_,_,_⟩=>M
instance(n r_ a):z7 (sW n r_ a) (λr=>O.call 275 [Q 0 0,W n] [(0,T [Z 1 r_,Z 2 a]),(1,Y r_),(2,Y a)]=X (W r,[(0,T [Z 1 r_,Z 2 a]),(1,Y r_),(2,Y a)])):=⟨by unfold sW;exact M⟩
instance:C yI λ(s,zero,i,f,a,h,b,c,d,e,d6,g,stops) r=>O.loop 117 2 ⟨[(15,V s),(17,Z 8 stops),(19,R zero),(20,W i)],[(0,T [U f,V a,V h,Z 1 b,Z 2 c,Z 3 d]),(1,Y b),(2,Y c),(3,Y d),(4,T [Z 5 e,Z 6 d6]),(5,Y e),(6,Y d6),(7,bm g),(8,Y stops)],9⟩=X (L,⟨[(15,V s),(17,Z 8 stops),(19,R r)],[(0,T [U f,V a,V h,Z 1 b,Z 2 c,Z 3 d]),(1,Y b),(2,Y c),(3,Y d),(4,T [Z 5 e,Z 6 d6]),(5,Y e),(6,Y d6),(7,bm g),(8,Y stops)],9⟩):=B yI.partial_correctness λ_ _⟨_,_,_,_,_,_,_,_,_,_,_,_,_⟩=>M
instance:C uQ λ(es,g,i,qp,k,f,t6,b,w,N,d,e,s,c,wW,a,h) r=>O.loop 72 4 ⟨[(6,Q 1 0),(10,U es),(11,Z 3 b),(24,Q 4 0),(25,Q 9 0),(26,W g),(27,W i),(28,W qp),(29,Q 11 0),(30,W k)],[(0,E f),(1,E t6),(2,K),(3,Y b),(4,T [V w,U N,Z 7 d,Z 8 e.l]),(5,K),(6,K),(7,bm d),(8,so [1,1] 1 (ro 1 jf) e),(9,T [W s,Z 10 c]),(10,Y c),(11,T [W wW,W a,Z 12 h]),(12,Y h)],13⟩=X (L,⟨[(6,Q 1 0),(10,U es),(11,Z 3 b),(24,Q 4 0),(25,Q 9 0),(26,W g),(27,W i),(29,Q 11 0)],[(0,E f),(1,E t6),(2,K),(3,Y b),(4,T [V w,U N,Z 7 d,Z 8 e.l]),(5,K),(6,K),(7,bm d),(8,so [1,1] 1 (ro 1 jf) e),(9,T [W s,Z 10 c]),(10,Y c),(11,T [W wW,W a,Z 12 r]),(12,Y r)],13⟩):=B uQ.partial_correctness λ_ _⟨_,_,_,_,_,_,_,_,_,_,_,_,_,_,_,_,_⟩=>M
instance:C uP λ(es,f,i,d,t6,c,w,N,a,b,s,e) r=>O.loop 72 2 ⟨[(6,Q 1 0),(10,U es),(11,Z 3 c),(24,Q 4 0),(25,Q 9 0),(26,W f),(27,W i)],[(0,E d),(1,E t6),(2,K),(3,Y c),(4,T [V w,U N,Z 7 a,Z 8 b.l]),(5,K),(6,K),(7,bm a),(8,so [1,1] 1 (ro 1 jf) b),(9,T [W s,Z 10 e]),(10,Y e)],11⟩=X (L,⟨[(6,Q 1 0),(24,Q 4 0),(25,Q 9 0)],[(0,E d),(1,E t6),(2,K),(3,Y c),(4,T [V w,U N,Z 7 a,Z 8 b.l]),(5,K),(6,K),(7,bm a),(8,so [1,1] 1 (ro 1 jf) b),(9,T [W s,Z 10 r]),(10,Y r)],11⟩):=B uP.partial_correctness λ_ _⟨_,_,_,_,_,_,_,_,_,_,_,_⟩=>M
instance:C jd λ(is,ns,zero,i,k) r=>O.loop 118 2 ⟨[(0,U is),(3,U ns),(4,R zero),(5,W i),(6,W k)],[],0⟩=X (L,⟨[(0,U is),(3,U r.1),(4,R r.2),(5,W i)],[],0⟩):=B jd.partial_correctness λ_ _⟨_,_,_,_,_⟩=>M
instance:C yv λ(is,ns,zero,i) r=>O.loop 118 0 ⟨[(0,U is),(3,U ns),(4,R zero),(5,W i)],[],0⟩=X (L,⟨[(3,U r.1),(4,R r.2)],[],0⟩):=B yv.partial_correctness λ_ _⟨_,_,_,_⟩=>M
instance(is):z7 (me is) (λr=>O.call 118 [U is] []=X (U r,[])):=⟨by unfold me;exact M⟩
instance(s b c r_ a):z7 (mR s b c r_ a) (λr=>O.call 119 [Q 0 0,U s] [(0,T [V b,U c,Z 1 r_,Z 2 a.l]),(1,bm r_),(2,so [1,1] 1 (ro 1 jf) a)]=X (J [],[(0,T [V b,U c,Z 1 r.1,Z 2 r.2.l]),(1,bm r.1),(2,so [1,1] 1 (ro 1 jf) r.2)])):=⟨by unfold mR;exact M⟩
instance:C bD λ(n,k,a,i,st,t4,s,l) r=>O.loop 120 0 ⟨[(1,W n),(2,Q 1 0),(4,Q 2 0),(6,W k),(7,Q 3 0),(8,U a),(9,Z 4 l),(10,W i)],[(0,K),(1,E st),(2,E t4),(3,E s),(4,Y l)],5⟩=X (L,⟨[(1,W n),(2,Q 1 0),(4,Q 2 0),(6,W k),(7,Q 3 0),(9,Z 4 r)],[(0,K),(1,E st),(2,E t4),(3,E s),(4,Y r)],5⟩):=B bD.partial_correctness λ_ _⟨_,_,_,_,_,_,_,_⟩=>M
instance(st a n r_):z7 (rR st a n r_) (λr=>O.call 120 [AV.agg [V st,U a,Z 0 r_],W n] [(0,bm r_)]=X (J [U r.1,W r.2],[(0,K)])):=⟨by unfold rR;exact M⟩
instance(a b):z7 (cR a b) (λr=>O.call 179 [W a,W b] []=X (R r,[])):=⟨by unfold cR;exact M⟩
@[go_sem] def lh:((I×Bool)⊕(H))->Ex×St
 | .inl y=>(D,⟨[(4,W y.1),(5,R y.2)],[],0⟩)
 | .inr y=>(L,⟨[(4,F),(5,F)],[],0⟩)
instance:C md λ(cur,ns,i) r=>O.loop 121 0 ⟨[(0,W cur),(6,U ns),(7,W i)],[],0⟩=X (lh r):=B md.partial_correctness λ_ _⟨_,_,_⟩=>M
end Go.Proofs.YtadahlbndbmdeaaGreat
