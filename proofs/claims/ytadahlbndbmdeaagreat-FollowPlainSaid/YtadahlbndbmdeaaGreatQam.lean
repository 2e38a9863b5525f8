/-
  What the machine's calls come to: the plain functions.
-/
import Derived.Test.YtadahlbndbmdeaaGreatQag
import Derived.Test.YtadahlbndbmdeaaGreatQah
open Go.Gm renaming qh->Y,vv->X,gW->W,bm->Q,qq->P,bb->N
open Option renaming some->Z
open _root_ renaming Int->M,Unit->J,List->I
open Go.Gm.AV renaming ptr->R,undef->H,pv->V,xL->K
open Go.Gm.Ex renaming normal->T,ret->F
open Go.Gm.PV renaming fn->U
open List renaming length_set->L
set_option linter.unusedSimpArgs false
set_option linter.unusedVariables false
set_option maxRecDepth 100000
namespace Go.Proofs.YtadahlbndbmdeaaGreat
open Go Go.Gm
set_option maxHeartbeats 4000000
instance(st):z7 (fN st) (λr=>O.call 122 [X st] []=Z (X r,[])):=⟨by unfold fN;exact W⟩
instance:xT yx λ(n,k,a,i,st,t4,s,l) r=>O.loop 120 0 ⟨[(1,Y n),(2,R 0 0),(4,R 1 0),(6,Y k),(7,R 2 0),(8,X a),(9,P 3 l),(10,Y i)],[(0,N st),(1,N t4),(2,N s),(3,br l)],4⟩=Z (T,⟨[(1,Y n),(2,R 0 0),(4,R 1 0),(6,Y k),(7,R 2 0),(9,P 3 r)],[(0,N st),(1,N t4),(2,N s),(3,br r)],4⟩):=gP yx.partial_correctness λ_ _⟨_,_,_,_,_,_,_,_⟩=>W
instance(st n):z7 (mi st n) (λr=>O.call 120 [X st,Y n] []=Z (K [X r.1,Y r.2],[])):=⟨by unfold mi;exact W⟩
instance(st):z7 (aO st) (λr=>O.call 75 [X st] []=Z (K [X r.1,Y r.2],[])):=⟨by unfold aO;exact W⟩
instance:xT jH λ(k,n,has,a,found,j,st,t4,s,es) r=>O.loop 76 2 ⟨[(1,Y k),(2,R 0 0),(4,R 1 0),(6,Y n),(7,R 2 0),(8,P 3 es),(9,zN has),(10,Y a),(11,zN found),(12,Y j)],[(0,N st),(1,N t4),(2,N s),(3,br es)],4⟩=Z (T,⟨[(1,Y k),(2,R 0 0),(4,R 1 0),(6,Y n),(7,R 2 0),(8,P 3 r.2),(9,zN r.1),(10,Y a)],[(0,N st),(1,N t4),(2,N s),(3,br r.2)],4⟩):=gP jH.partial_correctness λ_ _⟨_,_,_,_,_,_,_,_,_,_⟩=>W
instance:xT uN λ(k,n,has,a,st,t4,s,es) r=>O.loop 76 0 ⟨[(1,Y k),(2,R 0 0),(4,R 1 0),(6,Y n),(7,R 2 0),(8,P 3 es),(9,zN has),(10,Y a)],[(0,N st),(1,N t4),(2,N s),(3,br es)],4⟩=Z (T,⟨[(2,R 0 0),(4,R 1 0),(6,Y n),(7,R 2 0),(8,P 3 r.2),(9,zN r.1)],[(0,N st),(1,N t4),(2,N s),(3,br r.2)],4⟩):=gP uN.partial_correctness λ_ _⟨_,_,_,_,_,_,_,_⟩=>W
instance(x n):z7 (Qa x n) (λr=>O.call 20 [Y x,Y n] []=Z (Y r,[])):=⟨by unfold Qa;exact W⟩
instance:xT nY λ(n,es,i,out) r=>O.loop 8 0 ⟨[(0,Y n),(1,X es),(5,P 0 out),(6,Y i)],[(0,br out)],1⟩=Z (T,⟨[(5,P 0 r)],[(0,br r)],1⟩):=gP nY.partial_correctness λ_ _⟨_,_,_,_⟩=>W
instance(n es):z7 (ir n es) (λr=>O.call 8 [Y n,X es] []=Z (X r,[])):=⟨by unfold ir;exact W⟩
instance(a b):z7 (gB a b) (λr=>O.call 43 [X a,X b] []=Z (zN r,[])):=⟨by unfold gB;exact W⟩
@[go_sem] def ek (k:M) (a:(Sl qr)) (b:M) (i6:M) (s:qb) (qp:qg) (c:qr):((M)⊕(J))->Ex×St
 | .inl y=>(F,⟨[(2,R 0 0),(3,R 1 0),(4,Y k),(5,Y y),(11,X a),(12,Y b),(13,Y i6)],[(0,N s),(1,N qp),(2,N c)],3⟩)
 | .inr y=>(T,⟨[(2,R 0 0),(3,R 1 0),(4,H),(5,H),(11,X a),(12,Y b),(13,Y i6)],[(0,N s),(1,N qp),(2,N c)],3⟩)
instance:xT vX λ(k,a,b,i6,d,t20,e,s,qp,c) r=>O.loop 21 2 ⟨[(2,R 0 0),(3,R 1 0),(6,Y k),(11,X a),(12,Y b),(13,Y i6),(19,X d),(20,Y t20),(21,Y e)],[(0,N s),(1,N qp),(2,N c)],3⟩=Z (ek k a b i6 s qp c r):=gP vX.partial_correctness λ_ _⟨_,_,_,_,_,_,_,_,_,_⟩=>W
@[go_sem] def ej (s:qb) (qp:qg):((M×M)⊕(J))->Ex×St
 | .inl y=>(F,⟨[(4,Y y.1),(5,Y y.2)],[(0,N s),(1,N qp)],2⟩)
 | .inr y=>(T,⟨[(4,H),(5,H)],[(0,N s),(1,N qp)],2⟩)
instance:xT uD λ(a,b,i6,s,qp) r=>O.loop 21 0 ⟨[(2,R 0 0),(3,R 1 0),(11,X a),(12,Y b),(13,Y i6)],[(0,N s),(1,N qp)],2⟩=Z (ej s qp r):=gP uD.partial_correctness λ_ _⟨_,_,_,_,_⟩=>W
instance(s qp):z7 (di s qp) (λr=>O.call 21 [X s,X qp] []=Z (K [Y r.1,Y r.2],[])):=⟨by unfold di;exact W⟩
@[go_sem] def eo (s:qb):((Bool)⊕(J))->Ex×St
 | .inl y=>(F,⟨[(4,zN y)],[(0,N s)],1⟩)
 | .inr y=>(T,⟨[(4,H)],[(0,N s)],1⟩)
instance:xT uE λ(t9,b,a,s) r=>O.loop 9 0 ⟨[(2,R 0 0),(9,X t9),(10,Y b),(11,Y a)],[(0,N s)],1⟩=Z (eo s r):=gP uE.partial_correctness λ_ _⟨_,_,_,_⟩=>W
instance(s es):z7 (kU s es) (λr=>O.call 9 [X s,X es] []=Z (zN r,[])):=⟨by unfold kU;exact W⟩
@[go_sem] def sS (wW:(Sl qf)) (st:qv):((Bool)⊕(J))->Ex×St
 | .inl y=>(F,⟨[(4,zN y),(5,R 0 0),(6,X wW)],[(0,N st)],1⟩)
 | .inr y=>(T,⟨[(4,H),(5,R 0 0),(6,X wW)],[(0,N st)],1⟩)
instance:xT kB λ(wW,i,st) r=>O.loop 3 0 ⟨[(5,R 0 0),(6,X wW),(7,Y i)],[(0,N st)],1⟩=Z (sS wW st r):=gP kB.partial_correctness λ_ _⟨_,_,_⟩=>W
instance(s n):z7 (tN s n) (λr=>O.call 44 [X s,Y n] []=Z (zN r,[])):=⟨by unfold tN;exact W⟩
@[go_sem] def oQ (n:M) (es:(Sl qf)):((M)⊕(J))->Ex×St
 | .inl y=>(F,⟨[(0,Y n),(1,X es),(4,Y y)],[],0⟩)
 | .inr y=>(T,⟨[(0,Y n),(1,X es),(4,H)],[],0⟩)
instance:xT nU λ(n,es,t7,t8,t9) r=>O.loop 22 0 ⟨[(0,Y n),(1,X es),(7,X t7),(8,Y t8),(9,Y t9)],[],0⟩=Z (oQ n es r):=gP nU.partial_correctness λ_ _⟨_,_,_,_,_⟩=>W
instance:xT uz λ(t6,t7,t8,out) r=>O.loop 46 0 ⟨[(3,P 0 out),(6,X t6),(7,Y t7),(8,Y t8)],[(0,br out)],1⟩=Z (T,⟨[(3,P 0 r)],[(0,br r)],1⟩):=gP uz.partial_correctness λ_ _⟨_,_,_,_⟩=>W
instance(es):z7 (de es) (λr=>O.call 46 [X es] []=Z (X r,[])):=⟨by unfold de;exact W⟩
@[go_sem] def dL:(((Sl qg))⊕((I qg)))->AV×qt
 | .inl y=>(X y,[])
 | .inr y=>(P 0 y,[(0,Q y)])
instance(s):z7 (tn s) (λr=>O.call 77 [X s] []=Z (dL r)):=⟨by unfold tn;exact W⟩
instance(data n c a b):z7 (jh data n c a b) (λr=>O.loop 124 0 ⟨[(0,X data),(1,Y n),(2,V (U 79)),(6,Y c),(7,Y a),(8,Y b)],[],0⟩=Z (T,⟨[(0,X data),(1,Y n),(2,V (U 79)),(6,Y c),(7,Y a)],[],0⟩)):=⟨by unfold jh;exact W⟩
instance(data a b i):z7 (xr data a b i) (λr=>O.loop 180 0 ⟨[(0,X data),(1,Y a),(2,Y b),(3,V (U 79)),(8,Y i)],[],0⟩=Z (T,⟨[],[],0⟩)):=⟨by unfold xr;exact W⟩
instance(data a b):z7 (xD data a b) (λr=>O.call 180 [X data,Y a,Y b,V (U 79)] []=Z (K [],[])):=⟨by unfold xD;exact W⟩
instance(data n a):z7 (ji data n a) (λr=>O.loop 124 2 ⟨[(0,X data),(1,Y n),(2,V (U 79)),(6,Y a)],[],0⟩=Z (T,⟨[],[],0⟩)):=⟨by unfold ji;exact W⟩
instance(data n):z7 (jx data n) (λr=>O.call 124 [X data,Y n,V (U 79)] []=Z (K [],[])):=⟨by unfold jx;exact W⟩
instance(x):z7 (xt x) (λr=>O.call 78 [X x,V (U 79)] []=Z (K [],[])):=⟨by unfold xt;exact W⟩
instance(wW b a c):z7 (ah wW b a c) (λr=>O.loop 45 0 ⟨[(3,X wW),(10,X b),(11,Y a),(12,Y c)],[],0⟩=Z (T,⟨[(2,H)],[],0⟩)):=⟨by unfold ah;exact W⟩
instance(n c a b data):z7 (xW n c a b data) (λr=>O.loop 124 0 ⟨[(0,P 0 data),(1,Y n),(2,V (U 79)),(6,Y c),(7,Y a),(8,Y b)],[(0,Q data)],1⟩=Z (T,⟨[(0,P 0 data),(1,Y n),(2,V (U 79)),(6,Y c),(7,Y a)],[(0,Q data)],1⟩)):=⟨by unfold xW;exact W⟩
instance(x):z7 (sN x) (λr=>O.call 56 [Y x] []=Z (zN r,[])):=⟨by unfold sN;exact W⟩
instance(x y):z7 (jG x y) (λr=>O.call 33 [Y x,Y y] []=Z (Y r,[])):=⟨by unfold jG;exact W⟩
@[go_sem] def oR (zero:M) (t6:(I M)):((M)⊕(J))->Ex×St
 | .inl y=>(F,⟨[(2,Y y),(3,Y zero)],[(0,Q t6)],1⟩)
 | .inr y=>(T,⟨[(2,H),(3,Y zero)],[(0,Q t6)],1⟩)
instance:xT nV λ(zero,t7,t8,t6) r=>O.loop 32 0 ⟨[(3,Y zero),(6,P 0 t6),(7,Y t7),(8,Y t8)],[(0,Q t6)],1⟩=Z (oR zero t6 r):=gP nV.partial_correctness λ_ _⟨_,_,_,_⟩=>W
instance(r_):z7 (rD r_) (λr=>O.call 32 [P 0 r_] [(0,Q r_)]=Z (Y r,[(0,Q r_)])):=⟨by unfold rD;exact W⟩
instance(a b):z7 (ly a b) (λr=>O.call 79 [X a,X b] []=Z (Y r,[])):=⟨by unfold ly;exact W⟩
theorem kv: ∀p r,qY p=Z r->r.length=p.2.2.2.2.length/\O.loop 180 2 ⟨[(0,P 0 p.2.2.2.2),(1,Y p.1),(2,Y p.2.1),(3,V (U 79)),(8,Y p.2.2.1),(9,Y p.2.2.2.1)],[(0,Q p.2.2.2.2)],1⟩=Z (T,⟨[(0,P 0 r),(1,Y p.1),(2,Y p.2.1),(3,V (U 79)),(8,Y p.2.2.1)],[(0,Q r)],1⟩):=by refine qY.partial_correctness _ ?_;rintro qY c ⟨a,b,i,j,data⟩ r;dsimp only;apply it<;>intro h1;{(refine bw qg.enc λx3 h2 f1 f2 f3=>?_;refine bw qg.enc λx5 h4 f4 f5 f6=>?_;refine bs λv7 d=>?_;have f7:=z7.ok _ d;try simp only[en.down,zV,zR,zT,zS]at f7);apply it<;>intro h8;{(refine bw qg.enc λJv h9 f8 f9 f10=>?_;try simp only[en.down,zV,zR,zT,zS]at f8 f9 f10);(try simp only[L]at f10);(intro h;obtain⟨e,f11⟩:=c _ _ h;clear h;try simp only[en.down,zV,zR,zT,zS]at f11);clear c;exact⟨by first|rfl|(simp only[L,e];done),fL GC.h⟩};rintro⟨⟩;clear c;exact⟨by first|rfl|(simp only[L];done),fL GC.h⟩};rintro⟨⟩;clear c;exact⟨by first|rfl|(simp only[L];done),fL GC.h⟩
instance(p):z7 (qY p) (λr=>r.length=p.2.2.2.2.length/\O.loop 180 2 ⟨[(0,P 0 p.2.2.2.2),(1,Y p.1),(2,Y p.2.1),(3,V (U 79)),(8,Y p.2.2.1),(9,Y p.2.2.2.1)],[(0,Q p.2.2.2.2)],1⟩=Z (T,⟨[(0,P 0 r),(1,Y p.1),(2,Y p.2.1),(3,V (U 79)),(8,Y p.2.2.1)],[(0,Q r)],1⟩)):=⟨λr=>kv p r⟩
theorem ku: ∀p r,qX p=Z r->r.length=p.2.2.2.length/\O.loop 180 0 ⟨[(0,P 0 p.2.2.2),(1,Y p.1),(2,Y p.2.1),(3,V (U 79)),(8,Y p.2.2.1)],[(0,Q p.2.2.2)],1⟩=Z (T,⟨[],[(0,Q r)],1⟩):=by refine qX.partial_correctness _ ?_;rintro qX c ⟨a,b,i,data⟩ r;dsimp only;apply it<;>intro h1;{(refine bs λv3 e=>?_;obtain⟨d,f1⟩:=kv _ _ e;try simp only[L]at d);(try simp only[en.down,zV,zR,zT,zS,d]at f1);(try simp only[d]at f1);(intro h;obtain⟨ip,f2⟩:=c _ _ h;clear h;try simp only[en.down,zV,zR,zT,zS,d]at f2);(try simp only[d]at f2);clear c;exact⟨by first|rfl|(simp only[L,ip,d];done),fL GC.h⟩};rintro⟨⟩;clear c;exact⟨by first|rfl|(simp only[L];done),fL GC.h⟩
instance(p):z7 (qX p) (λr=>r.length=p.2.2.2.length/\O.loop 180 0 ⟨[(0,P 0 p.2.2.2),(1,Y p.1),(2,Y p.2.1),(3,V (U 79)),(8,Y p.2.2.1)],[(0,Q p.2.2.2)],1⟩=Z (T,⟨[],[(0,Q r)],1⟩)):=⟨λr=>ku p r⟩
theorem kT{a b r_ r}(h:zM a b r_=Z r):r.length=r_.length/\O.call 180 [P 0 r_,Y a,Y b,V (U 79)] [(0,Q r_)]=Z (K [],[(0,Q r)]):=by
 revert h;unfold zM;refine bs λv2 d=>?_;obtain⟨c,f1⟩:=ku _ _ d;try simp only[L]at c
 try simp only[en.down,zV,zR,zT,zS,c]at f1
 try simp only[c]at f1
 rintro⟨⟩;exact⟨by first|rfl|(simp only[L,c];done),fF GC.h⟩
instance(a:M)(b:M)(r_:(I qg)):z7 (zM a b r_) (λr=>r.length=r_.length/\O.call 180 [P 0 r_,Y a,Y b,V (U 79)] [(0,Q r_)]=Z (K [],[(0,Q r)])):=⟨λr=>kT (r:=r)⟩
instance(n a data):z7 (xX n a data) (λr=>O.loop 124 2 ⟨[(0,P 0 data),(1,Y n),(2,V (U 79)),(6,Y a)],[(0,Q data)],1⟩=Z (T,⟨[],[(0,Q data)],1⟩)):=⟨by unfold xX;exact W⟩
theorem vT{n r_ r}(h:xu n r_=Z r):r.length=r_.length/\O.call 124 [P 0 r_,Y n,V (U 79)] [(0,Q r_)]=Z (K [],[(0,Q r)]):=by
 revert h;unfold xu;refine bs λv2 c=>?_;have f1:=z7.ok _ c;try simp only[en.down,zV,zR,zT,zS]at f1
 refine bs λv4 b=>?_;obtain⟨ip,f2⟩:=kT b;try simp only[L]at ip
 try simp only[en.down,zV,zR,zT,zS,ip]at f2
 refine bs λv6 a=>?_;have f3:=z7.ok _ a;try simp only[en.down,zV,zR,zT,zS,ip]at f3
 try simp only[ip]at f1 f2 f3
 rintro⟨⟩;exact⟨by first|rfl|(simp only[L,ip];done),fF fn124.h⟩
instance(n:M)(r_:(I qg)):z7 (xu n r_) (λr=>r.length=r_.length/\O.call 124 [P 0 r_,Y n,V (U 79)] [(0,Q r_)]=Z (K [],[(0,Q r)])):=⟨λr=>vT (r:=r)⟩
theorem mV{r_ r}(h:zI r_=Z r):r.length=r_.length/\O.call 78 [P 0 r_,V (U 79)] [(0,Q r_)]=Z (K [],[(0,Q r)]):=by
 revert h;unfold zI;refine bs λv2 b=>?_;obtain⟨a,f1⟩:=vT b;try simp only[L]at a
 try simp only[en.down,zV,zR,zT,zS,a]at f1
 try simp only[a]at f1
 rintro⟨⟩;exact⟨by first|rfl|(simp only[L,a];done),fF fn78.h⟩
instance(r_:(I qg)):z7 (zI r_) (λr=>r.length=r_.length/\O.call 78 [P 0 r_,V (U 79)] [(0,Q r_)]=Z (K [],[(0,Q r)])):=⟨λr=>mV (r:=r)⟩
@[go_sem] def ez (wW:(I qg)):((Bool)⊕(J))->Ex×St
 | .inl y=>(F,⟨[(2,zN y)],[(0,Q wW)],1⟩)
 | .inr y=>(T,⟨[(2,H)],[(0,Q wW)],1⟩)
instance:xT vZ λ(a,b,wW) r=>O.loop 45 0 ⟨[(3,P 0 wW),(10,P 0 wW),(11,Y a),(12,Y b)],[(0,Q wW)],1⟩=Z (ez wW r):=gP vZ.partial_correctness λ_ _⟨_,_,_⟩=>W
instance(l):z7 (oA l) (λr=>O.call 45 [X l] []=Z (zN r,[])):=⟨by unfold oA;exact W⟩
instance(s):z7 (tQ s) (λr=>O.call 57 [X s] []=Z (Y r,[])):=⟨by unfold tQ;exact W⟩
instance:xT uy λ(n,t7,t8,t9) r=>O.loop 47 0 ⟨[(0,Y n),(7,X t7),(8,Y t8),(9,Y t9)],[],0⟩=Z (T,⟨[(0,Y r)],[],0⟩):=gP uy.partial_correctness λ_ _⟨_,_,_,_⟩=>W
instance(n es):z7 (eF n es) (λr=>O.call 47 [Y n,X es] []=Z (Y r,[])):=⟨by unfold eF;exact W⟩
instance(n es):z7 (cx n es) (λr=>O.call 22 [Y n,X es] []=Z (Y r,[])):=⟨by unfold cx;exact W⟩
@[go_sem] def dK:(((Sl qf))⊕((I qf)))->AV×qt
 | .inl y=>(X y,[])
 | .inr y=>(P 0 y,[(0,Q y)])
instance(s):z7 (tj s) (λr=>O.call 29 [X s] []=Z (dK r)):=⟨by unfold tj;exact W⟩
instance(data n c a b):z7 (xU data n c a b) (λr=>O.loop 55 0 ⟨[(0,X data),(1,Y n),(2,V (U 31)),(6,Y c),(7,Y a),(8,Y b)],[],0⟩=Z (T,⟨[(0,X data),(1,Y n),(2,V (U 31)),(6,Y c),(7,Y a)],[],0⟩)):=⟨by unfold xU;exact W⟩
instance(data a b i):z7 (xg data a b i) (λr=>O.loop 91 0 ⟨[(0,X data),(1,Y a),(2,Y b),(3,V (U 31)),(8,Y i)],[],0⟩=Z (T,⟨[],[],0⟩)):=⟨by unfold xg;exact W⟩
instance(data a b):z7 (xy data a b) (λr=>O.call 91 [X data,Y a,Y b,V (U 31)] []=Z (K [],[])):=⟨by unfold xy;exact W⟩
instance(data n a):z7 (xV data n a) (λr=>O.loop 55 2 ⟨[(0,X data),(1,Y n),(2,V (U 31)),(6,Y a)],[],0⟩=Z (T,⟨[],[],0⟩)):=⟨by unfold xV;exact W⟩
instance(data n):z7 (jn data n) (λr=>O.call 55 [X data,Y n,V (U 31)] []=Z (K [],[])):=⟨by unfold jn;exact W⟩
instance(x):z7 (xl x) (λr=>O.call 30 [X x,V (U 31)] []=Z (K [],[])):=⟨by unfold xl;exact W⟩
instance(n c a b data):z7 (xF n c a b data) (λr=>O.loop 55 0 ⟨[(0,P 0 data),(1,Y n),(2,V (U 31)),(6,Y c),(7,Y a),(8,Y b)],[(0,Q data)],1⟩=Z (T,⟨[(0,P 0 data),(1,Y n),(2,V (U 31)),(6,Y c),(7,Y a)],[(0,Q data)],1⟩)):=⟨by unfold xF;exact W⟩
instance(a b):z7 (fW a b) (λr=>O.call 31 [X a,X b] []=Z (Y r,[])):=⟨by unfold fW;exact W⟩
theorem kc: ∀p r,qW p=Z r->r.length=p.2.2.2.2.length/\O.loop 91 2 ⟨[(0,P 0 p.2.2.2.2),(1,Y p.1),(2,Y p.2.1),(3,V (U 31)),(8,Y p.2.2.1),(9,Y p.2.2.2.1)],[(0,Q p.2.2.2.2)],1⟩=Z (T,⟨[(0,P 0 r),(1,Y p.1),(2,Y p.2.1),(3,V (U 31)),(8,Y p.2.2.1)],[(0,Q r)],1⟩):=by refine qW.partial_correctness _ ?_;rintro qW c ⟨a,b,i,j,data⟩ r;dsimp only;apply it<;>intro h1;{(refine bw qf.enc λx3 h2 f1 f2 f3=>?_;refine bw qf.enc λx5 h4 f4 f5 f6=>?_;refine bs λv7 d=>?_;have f7:=z7.ok _ d;try simp only[en.down,zV,zR,zT,zS]at f7);apply it<;>intro h8;{(refine bw qf.enc λJv h9 f8 f9 f10=>?_;try simp only[en.down,zV,zR,zT,zS]at f8 f9 f10);(try simp only[L]at f10);(intro h;obtain⟨e,f11⟩:=c _ _ h;clear h;try simp only[en.down,zV,zR,zT,zS]at f11);clear c;exact⟨by first|rfl|(simp only[L,e];done),fL Ol.h⟩};rintro⟨⟩;clear c;exact⟨by first|rfl|(simp only[L];done),fL Ol.h⟩};rintro⟨⟩;clear c;exact⟨by first|rfl|(simp only[L];done),fL Ol.h⟩
instance(p):z7 (qW p) (λr=>r.length=p.2.2.2.2.length/\O.loop 91 2 ⟨[(0,P 0 p.2.2.2.2),(1,Y p.1),(2,Y p.2.1),(3,V (U 31)),(8,Y p.2.2.1),(9,Y p.2.2.2.1)],[(0,Q p.2.2.2.2)],1⟩=Z (T,⟨[(0,P 0 r),(1,Y p.1),(2,Y p.2.1),(3,V (U 31)),(8,Y p.2.2.1)],[(0,Q r)],1⟩)):=⟨λr=>kc p r⟩
instance(n a data):z7 (xG n a data) (λr=>O.loop 55 2 ⟨[(0,P 0 data),(1,Y n),(2,V (U 31)),(6,Y a)],[(0,Q data)],1⟩=Z (T,⟨[],[(0,Q data)],1⟩)):=⟨by unfold xG;exact W⟩
instance(s qp a t20 b out):z7 (cl s qp a t20 b out) (λr=>O.loop 10 0 ⟨[(0,qP s),(7,P 0 out),(8,Y qp),(19,X a),(20,Y t20),(21,Y b)],[(0,br out)],1⟩=Z (T,⟨[(0,qP s),(7,P 0 out),(8,Y qp)],[(0,br out)],1⟩)):=⟨by unfold cl;exact W⟩
instance:xT jK λ(s,qp,t20,b,a,out) r=>O.loop 10 0 ⟨[(0,qP s),(7,P 1 out),(8,Y qp),(19,P 0 a),(20,Y t20),(21,Y b)],[(0,Q a),(1,br out)],2⟩=Z (T,⟨[(0,qP s),(7,P 1 r.2),(8,Y r.1)],[(0,Q a),(1,br r.2)],2⟩):=gP jK.partial_correctness λ_ _⟨_,_,_,_,_,_⟩=>W
end Go.Proofs.YtadahlbndbmdeaaGreat
