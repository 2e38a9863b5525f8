/-
  What the machine's calls come to: the plain functions.
-/
import Derived.Test.YtadahlbndbmdeaaGreatQag
open Go.Gm renaming qh->Y,qP->X,qq->W,gW->V,bb->U,br->R,vv->Q,bm->N,xT->K,gP->J,zN->I
open Option renaming some->Z
open _root_ renaming Int->M,Unit->F,List->E,Bool->D
open Go.Gm.AV renaming ptr->T,undef->C,pv->z,xL->H
open Go.Gm.Ex renaming normal->P,ret->B
open Go.Gm.PV renaming int->A
open Go.Gm.qD renaming box->L
open Go.IntKind renaming u8->v
set_option linter.unusedSimpArgs false
set_option linter.unusedVariables false
set_option maxRecDepth 100000
namespace Go.Proofs.YtadahlbndbmdeaaGreat
open Go Go.Gm
set_option maxHeartbeats 4000000
instance(m a b):z7 (iH m a b) (λr=>O.call 303 [T 0 0,Q m,I a] [(0,U b)]=Z (H [Q r.1,Y r.2.1,I r.2.2.1,Y r.2.2.2],[(0,U b)])):=⟨by unfold iH;exact V⟩
instance(a):z7 (eX a) (λr=>O.call 212 [Y a] []=Z (I r,[])):=⟨by unfold eX;exact V⟩
instance:K yW λ(s,i,l) r=>O.loop 215 0 ⟨[(0,X s),(3,W 0 l),(4,Y i)],[(0,N l)],1⟩=Z (P,⟨[(3,W 0 r)],[(0,N r)],1⟩):=J yW.partial_correctness λ_ _⟨_,_,_⟩=>V
instance(s):z7 (rS s) (λr=>O.call 215 [X s] []=Z (Q r,[])):=⟨by unfold rS;exact V⟩
instance(s line):z7 (bF s line) (λr=>O.call 155 [X s,Y line] []=Z (H [Y r.1,Y r.2],[])):=⟨by unfold bF;exact V⟩
instance(t a):z7 (mH t a) (λr=>O.call 213 [Q t,Y a] []=Z (Y r,[])):=⟨by unfold mH;exact V⟩
instance(s line):z7 (dG s line) (λr=>O.call 156 [X s,Y line] []=Z (H [Y r.1,Y r.2],[])):=⟨by unfold dG;exact V⟩
instance(s):z7 (XW s) (λr=>O.call 158 [X s] []=Z (Y r,[])):=⟨by unfold XW;exact V⟩
theorem Mw{c r}(h:gN c=Z r):O.call 159 [z (A v (c.toNat:M))] []=Z (I r,[]):=by revert h;unfold gN;refine VQ ?_ ?_;{rintro(⟨b,a,i,d,g,f,e⟩|⟨b,a,i,d,g,f,e⟩|⟨b,a,i,d,g,f,e⟩|⟨b,a,i,d,g,f,e⟩|⟨b,a,i,d,g,f,e⟩|⟨b,a,i,d,g,f,e⟩|⟨b,a,i,d,g,f,e⟩|⟨b,a,i,d,g,f,e⟩|⟨b,a,i,d,g,f,e⟩|⟨b,a,i,d,g,f,e⟩|⟨b,a,i,d,g,f,e⟩|⟨b,a,i,d,g,f,e⟩|⟨b,a,i,d,g,f,e⟩|⟨b,a,i,d,g,f,e⟩|⟨b,a,i,d,g,f,e⟩);all_goals rintro⟨⟩;exact fF fn159.h};rintro(⟨b,a,i,d,g,f,e⟩|⟨b,a,i,d,g,f,e⟩|⟨b,a,i,d,g,f,e⟩|⟨b,a,i,d,g,f,e⟩|⟨b,a,i,d,g,f,e⟩|⟨b,a,i,d,g,f,e⟩|⟨b,a,i,d,g,f,e⟩|⟨b,a,i,d,g,f,e⟩);all_goals rintro⟨⟩;exact fF fn159.h
instance(c:UInt8):z7 (gN c) (λr=>O.call 159 [z (A v (c.toNat:M))] []=Z (I r,[])):=⟨λr=>Mw (r:=r)⟩
instance:K pZ λ(s,qp) r=>O.loop 105 5 ⟨[(0,X s),(1,Y qp)],[],0⟩=Z (P,⟨[(0,X s),(1,Y r)],[],0⟩):=J pZ.partial_correctness λ_ _⟨_,_⟩=>V
instance:K ta λ(s,qp) r=>O.loop 105 7 ⟨[(0,X s),(1,Y qp)],[],0⟩=Z (P,⟨[(1,Y r)],[],0⟩):=J ta.partial_correctness λ_ _⟨_,_⟩=>V
instance:K pX λ(s,qp) r=>O.loop 105 1 ⟨[(0,X s),(1,Y qp)],[],0⟩=Z (P,⟨[(0,X s),(1,Y r)],[],0⟩):=J pX.partial_correctness λ_ _⟨_,_⟩=>V
instance:K pY λ(s,qp) r=>O.loop 105 3 ⟨[(0,X s),(1,Y qp)],[],0⟩=Z (P,⟨[(1,Y r)],[],0⟩):=J pY.partial_correctness λ_ _⟨_,_⟩=>V
instance:K uJ λ(u,i,es) r=>O.loop 68 2 ⟨[(14,Q u),(15,W 1 es),(16,Y i)],[(0,qD.xA),(1,R es)],2⟩=Z (P,⟨[(15,W 1 r)],[(0,qD.xA),(1,R r)],2⟩):=J uJ.partial_correctness λ_ _⟨_,_,_⟩=>V
instance:K bY λ(s,qp,n,end_) r=>O.loop 217 0 ⟨[(0,X s),(1,Y qp),(7,Y n),(8,Y end_)],[],0⟩=Z (P,⟨[(0,X s),(1,Y qp),(7,Y r.1),(8,Y r.2)],[],0⟩):=J bY.partial_correctness λ_ _⟨_,_,_,_⟩=>V
instance(s qp):z7 (pI s qp) (λr=>O.call 217 [X s,Y qp] []=Z (H [Y r.1,Y r.2.1,I r.2.2],[])):=⟨by unfold pI;exact V⟩
instance:K jP λ(qp,end_,r_,a,b) r=>O.loop 218 0 ⟨[(0,T 0 0),(1,Y qp),(7,Y end_)],[(0,L [X r_,W 1 a,W 2 b]),(1,N a),(2,N b)],3⟩=Z (P,⟨[(0,T 0 0),(1,Y qp),(7,Y r)],[(0,L [X r_,W 1 a,W 2 b]),(1,N a),(2,N b)],3⟩):=J jP.partial_correctness λ_ _⟨_,_,_,_,_⟩=>V
instance(s qp a):z7 (cD s qp a) (λr=>O.call 167 [X s,Y qp,I a] []=Z (I r,[])):=⟨by unfold cD;exact V⟩
instance:K zA λ(qp,c,r_,a,b,l,text) r=>O.loop 110 0 ⟨[(0,T 0 0),(1,Y qp),(2,I c),(8,W 3 l),(9,W 4 text)],[(0,L [X r_,W 1 a,W 2 b]),(1,N a),(2,N b),(3,R l),(4,R text)],5⟩=Z (P,⟨[(0,T 0 0),(1,Y r.1),(2,I c),(8,W 3 r.2.1),(9,W 4 r.2.2)],[(0,L [X r_,W 1 a,W 2 b]),(1,N a),(2,N b),(3,R r.2.1),(4,R r.2.2)],5⟩):=J zA.partial_correctness λ_ _⟨_,_,_,_,_,_,_⟩=>V
instance:K kP λ(l,i,out) r=>O.loop 168 0 ⟨[(0,Q l),(3,W 0 out),(4,Y i)],[(0,R out)],1⟩=Z (P,⟨[(3,W 0 r)],[(0,R r)],1⟩):=J kP.partial_correctness λ_ _⟨_,_,_⟩=>V
instance(l):z7 (iP l) (λr=>O.call 168 [Q l] []=Z (Q r,[])):=⟨by unfold iP;exact V⟩
instance(qp c b r_ a):z7 (yo qp c b r_ a) (λr=>O.call 110 [T 0 0,Y qp,I c] [(0,L [X b,W 1 r_,W 2 a]),(1,N r_),(2,N a)]=Z (H [Q r.1,Y r.2],[(0,L [X b,W 1 r_,W 2 a]),(1,N r_),(2,N a)])):=⟨by unfold yo;exact V⟩
instance:K yP λ(s,k,t4,b) r=>O.loop 165 0 ⟨[(0,X s),(4,T 0 0),(7,W 1 b),(8,Y k)],[(0,U t4),(1,R b)],2⟩=Z (P,⟨[(0,X s),(4,T 0 0),(7,W 1 r.2),(8,Y r.1)],[(0,U t4),(1,R r.2)],2⟩):=J yP.partial_correctness λ_ _⟨_,_,_,_⟩=>V
instance(b):z7 (jc b) (λr=>O.call 305 [T 0 0] [(0,U b)]=Z (X r,[(0,U b)])):=⟨by unfold jc;exact V⟩
instance(c b):z7 (qO c b) (λr=>O.call 308 [T 0 0,X c] [(0,U b)]=Z (I r.1,[(0,U r.2)])):=⟨by unfold qO;exact V⟩
instance(c):z7 (cM c) (λr=>O.call 370 [z (A v (c.toNat:M))] []=Z (H [Q r.1,I r.2],[])):=⟨by unfold cM;exact V⟩
instance(c):z7 (yG c) (λr=>O.call 371 [X c] []=Z (H [X r.1,I r.2],[])):=⟨by unfold yG;exact V⟩
instance(b):z7 (ui b) (λr=>O.call 367 [T 0 0] [(0,U b)]=Z (H [Q r.1,X r.2.1,I r.2.2.1],[(0,U r.2.2.2)])):=⟨by unfold ui;exact V⟩
@[go_sem] def su (t2:qI) (x:qI):((M×qd×qI×(E zf))⊕(qd×(E zf)))->Ex×St
 | .inl y=>(B,⟨[(2,T 1 0),(3,Y y.1),(4,T 2 0),(5,W 3 y.2.2.2)],[(0,U y.2.1),(1,U y.2.2.1),(2,U x),(3,R y.2.2.2)],4⟩)
 | .inr y=>(P,⟨[(2,T 1 0),(3,C),(4,T 2 0),(5,W 3 y.2)],[(0,U y.1),(1,U t2),(2,U x),(3,R y.2)],4⟩)
instance:K zX λ(r_,t2,x,rows) r=>O.loop 353 0 ⟨[(0,T 0 0),(2,T 1 0),(4,T 2 0),(5,W 3 rows)],[(0,U r_),(1,U t2),(2,U x),(3,R rows)],4⟩=Z (su t2 x r):=J zX.partial_correctness λ_ _⟨_,_,_,_⟩=>V
instance:K gX λ(rows,s,i,k,r_) r=>O.loop 368 2 ⟨[(0,Q rows),(3,Q s),(4,Y i),(5,T 0 0),(6,Y k)],[(0,U r_)],1⟩=Z (P,⟨[(0,Q rows),(3,Q s),(4,Y i),(5,T 0 0),(6,Y r)],[(0,U r_)],1⟩):=J gX.partial_correctness λ_ _⟨_,_,_,_,_⟩=>V
instance:K vJ λ(s,i,out) r=>O.loop 368 4 ⟨[(3,Q s),(7,W 0 out),(8,Y i)],[(0,R out)],1⟩=Z (P,⟨[(7,W 0 r)],[(0,R r)],1⟩):=J vJ.partial_correctness λ_ _⟨_,_,_⟩=>V
instance:K kZ λ(n,many,r_) r=>O.loop 355 0 ⟨[(0,T 0 0),(4,Y n),(5,Y many)],[(0,U r_)],1⟩=Z (P,⟨[(4,Y r.1),(5,Y r.2.1)],[(0,U r.2.2)],1⟩):=J kZ.partial_correctness λ_ _⟨_,_,_⟩=>V
instance(b):z7 (vU b) (λr=>O.call 355 [T 0 0] [(0,U b)]=Z (H [Y r.1,I r.2.1],[(0,U r.2.2)])):=⟨by unfold vU;exact V⟩
instance(x b):z7 (wP x b) (λr=>O.call 331 [T 0 0,Q x] [(0,U b)]=Z (H [Q r.1,Y r.2.1],[(0,U r.2.2)])):=⟨by unfold wP;exact V⟩
instance:K yF λ(kind,a,i,l) r=>O.loop 332 0 ⟨[(0,Y kind),(1,Q a),(5,W 0 l),(6,Y i)],[(0,R l)],1⟩=Z (P,⟨[(5,W 0 r)],[(0,R r)],1⟩):=J yF.partial_correctness λ_ _⟨_,_,_,_⟩=>V
instance(kind a):z7 (fE kind a) (λr=>O.call 332 [Y kind,Q a] []=Z (Q r,[])):=⟨by unfold fE;exact V⟩
instance(a):z7 (Qo a) (λr=>O.call 307 [Q a] []=Z (Q r,[])):=⟨by unfold Qo;exact V⟩
instance(a):z7 (Qm a) (λr=>O.call 309 [Q a] []=Z (Q r,[])):=⟨by unfold Qm;exact V⟩
instance(s qp colon):z7 (cC s qp colon) (λr=>O.call 271 [X s,Y qp,I colon] []=Z (I r,[])):=⟨by unfold cC;exact V⟩
instance:K ba λ(s,qp,stop,b) r=>O.loop 311 0 ⟨[(0,X s),(1,Y qp),(2,z (A v (stop.toNat:M))),(9,W 0 b)],[(0,R b)],1⟩=Z (P,⟨[(0,X s),(1,Y r.1),(9,W 0 r.2)],[(0,R r.2)],1⟩):=J ba.partial_correctness λ_ _⟨_,_,_,_⟩=>V
instance(s qp stop):z7 (nD s qp stop) (λr=>O.call 311 [X s,Y qp,z (A v (stop.toNat:M))] []=Z (H [X r.1,Y r.2.1,I r.2.2],[])):=⟨by unfold nD;exact V⟩
instance(c r_):z7 (rM c r_) (λr=>O.call 272 [W 0 r_,z (A v (c.toNat:M))] [(0,R r_)]=Z (W 0 r,[(0,R r)])):=⟨by unfold rM;exact V⟩
@[go_sem] def iN (s:qa) (t4:zG) (a:(E UInt8)) (b:qI):((M×D×M×zG×zG)⊕(M×zG))->Ex×St
 | .inl y=>(B,⟨[(0,X s),(4,T 0 0),(5,Y y.1),(6,I y.2.1),(12,Y y.2.2.1),(14,T 3 0)],[(0,U y.2.2.2.1),(1,R a),(2,U b),(3,U y.2.2.2.2)],4⟩)
 | .inr y=>(P,⟨[(0,X s),(4,T 0 0),(5,C),(6,C),(12,Y y.1),(14,T 3 0)],[(0,U t4),(1,R a),(2,U b),(3,U y.2)],4⟩)
instance:K yQ λ(s,end_,t4,a,b,f) r=>O.loop 165 2 ⟨[(0,X s),(4,T 0 0),(12,Y end_),(14,T 3 0)],[(0,U t4),(1,R a),(2,U b),(3,U f)],4⟩=Z (iN s t4 a b r):=J yQ.partial_correctness λ_ _⟨_,_,_,_,_,_⟩=>V
instance:K jQ λ(qp,r_,a,b,l,text) r=>O.loop 166 0 ⟨[(0,T 0 0),(1,Y qp),(6,W 3 l),(7,W 4 text)],[(0,L [X r_,W 1 a,W 2 b]),(1,N a),(2,N b),(3,R l),(4,R text)],5⟩=Z (P,⟨[(0,T 0 0),(1,Y r.1),(6,W 3 r.2.1),(7,W 4 r.2.2)],[(0,L [X r_,W 1 a,W 2 b]),(1,N a),(2,N b),(3,R r.2.1),(4,R r.2.2)],5⟩):=J jQ.partial_correctness λ_ _⟨_,_,_,_,_,_⟩=>V
instance(qp b r_ a):z7 (nI qp b r_ a) (λr=>O.call 166 [T 0 0,Y qp] [(0,L [X b,W 1 r_,W 2 a]),(1,N r_),(2,N a)]=Z (H [Q r.1,Y r.2],[(0,L [X b,W 1 r_,W 2 a]),(1,N r_),(2,N a)])):=⟨by unfold nI;exact V⟩
theorem Xv:(∀ p r,pJ p=Z r->O.call 111 [Q p] []=Z (Y r,[]))/\(∀ p r,vE p=Z r->match p with|(l,n,i)=>O.loop 111 0 ⟨[(0,Q l),(3,Y n),(4,Y i)],[],0⟩=Z (P,⟨[(3,Y r)],[],0⟩)):=by refine pJ.mutual_partial_correctness _ _ ?_ ?_;intro vE i;have a:=λp=>z7.mk (i p);clear i;rintro _;exact V;intro pJ vE i278 i279;have j278:=λp=>z7.mk (i278 p);clear i278;have a:=λp=>z7.mk (i279 p);clear i279;rintro⟨_,_,_⟩;exact V
instance(p):z7 (pJ p) (λr=>O.call 111 [Q p] []=Z (Y r,[])):=⟨λr=>Xv.1 p r⟩
instance(p):z7 (vE p) (λr=>match p with|(l,n,i)=>O.loop 111 0 ⟨[(0,Q l),(3,Y n),(4,Y i)],[],0⟩=Z (P,⟨[(3,Y r)],[],0⟩)):=⟨λr=>Xv.2 p r⟩
@[go_sem] def l8 (a:qI) (b:qI):((D)⊕(F))->Ex×St
 | .inl y=>(B,⟨[(2,T 0 0),(3,T 1 0),(4,I y)],[(0,U a),(1,U b)],2⟩)
 | .inr y=>(P,⟨[(2,T 0 0),(3,T 1 0),(4,C)],[(0,U a),(1,U b)],2⟩)
instance:K sV λ(i,a,b) r=>O.loop 273 0 ⟨[(2,T 0 0),(3,T 1 0),(5,Y i)],[(0,U a),(1,U b)],2⟩=Z (l8 a b r):=J sV.partial_correctness λ_ _⟨_,_,_⟩=>V
@[go_sem] def dv (a:qI) (b:qI):((D)⊕(F))->Ex×St
 | .inl y=>(B,⟨[(4,I y)],[(0,U a),(1,U b)],2⟩)
 | .inr y=>(P,⟨[(4,C)],[(0,U a),(1,U b)],2⟩)
theorem Xu:(∀ p r,rL p=Z r->match p with|(a,b)=>O.call 273 [Q a,Q b] []=Z (I r,[]))/\(∀ p r,ma p=Z r->match p with|(i,a,b)=>O.loop 273 2 ⟨[(2,T 0 0),(3,T 1 0),(6,Y i)],[(0,U a),(1,U b)],2⟩=Z (dv a b r)):=by refine rL.mutual_partial_correctness _ _ ?_ ?_;intro ma i;have c:=λp=>z7.mk (i p);clear i;rintro⟨_,_⟩;exact V;intro rL ma i285 i287;have j285:=λp=>z7.mk (i285 p);clear i285;have c:=λp=>z7.mk (i287 p);clear i287;rintro⟨_,_,_⟩;exact V
instance(p):z7 (rL p) (λr=>match p with|(a,b)=>O.call 273 [Q a,Q b] []=Z (I r,[])):=⟨λr=>Xu.1 p r⟩
instance(p):z7 (ma p) (λr=>match p with|(i,a,b)=>O.loop 273 2 ⟨[(2,T 0 0),(3,T 1 0),(6,Y i)],[(0,U a),(1,U b)],2⟩=Z (dv a b r)):=⟨λr=>Xu.2 p r⟩
@[go_sem] def dV (a:zG) (b:zG):((D)⊕(F))->Ex×St
 | .inl y=>(B,⟨[(4,I y)],[(0,U a),(1,U b)],2⟩)
 | .inr y=>(P,⟨[(4,C)],[(0,U a),(1,U b)],2⟩)
instance:K nG λ(i,a,b) r=>O.loop 221 0 ⟨[(2,T 0 0),(3,T 1 0),(5,Y i)],[(0,U a),(1,U b)],2⟩=Z (dV a b r):=J nG.partial_correctness λ_ _⟨_,_,_⟩=>V
instance(a b):z7 (bf a b) (λr=>O.call 221 [Q a,Q b] []=Z (I r,[])):=⟨by unfold bf;exact V⟩
@[go_sem] def Qu:((qa×D)⊕(F))->Ex×St
 | .inl y=>(B,⟨[(4,X y.1),(5,I y.2)],[],0⟩)
 | .inr y=>(P,⟨[(4,C),(5,C)],[],0⟩)
instance:K yH λ(name,env,i) r=>O.loop 113 0 ⟨[(0,X name),(1,Q env),(6,Y i)],[],0⟩=Z (Qu r):=J yH.partial_correctness λ_ _⟨_,_,_⟩=>V
instance(name env):z7 (gH name env) (λr=>O.call 113 [X name,Q env] []=Z (H [X r.1,I r.2],[])):=⟨by unfold gH;exact V⟩
instance:K bh λ(s,env,line,a,b,e,f,c,out,d) r=>O.loop 114 0 ⟨[(0,X s),(2,Q env),(9,W 3 out),(10,Y line),(16,Y a),(17,Y b)],[(0,U e),(1,U f),(2,N c),(3,N out),(4,N d)],5⟩=Z (P,⟨[(0,X s),(2,Q env),(9,W 3 out),(10,Y line),(16,Y r),(17,Y b)],[(0,U e),(1,U f),(2,N c),(3,N out),(4,N d)],5⟩):=J bh.partial_correctness λ_ _⟨_,_,_,_,_,_,_,_,_,_⟩=>V
instance:K bj λ(s,env,line,a,b,e,f,c,out,d) r=>O.loop 114 2 ⟨[(0,X s),(2,Q env),(9,W 3 out),(10,Y line),(16,Y a),(17,Y b)],[(0,U e),(1,U f),(2,N c),(3,N out),(4,N d)],5⟩=Z (P,⟨[(0,X s),(2,Q env),(9,W 3 out),(10,Y line),(16,Y a),(17,Y r)],[(0,U e),(1,U f),(2,N c),(3,N out),(4,N d)],5⟩):=J bj.partial_correctness λ_ _⟨_,_,_,_,_,_,_,_,_,_⟩=>V
instance:K bT λ(n,s,a) r=>O.loop 170 0 ⟨[(0,Y n),(3,X s)],[(0,N a)],1⟩=Z (P,⟨[(3,X r)],[(0,N a)],1⟩):=J bT.partial_correctness λ_ _⟨_,_,_⟩=>V
instance(n):z7 (w7 n) (λr=>O.call 170 [Y n] []=Z (X r,[])):=⟨by unfold w7;exact V⟩
instance:K mc λ(s,c,k) r=>O.loop 171 0 ⟨[(0,X s),(1,z (A v (c.toNat:M))),(5,Y k)],[],0⟩=Z (P,⟨[(5,Y r)],[],0⟩):=J mc.partial_correctness λ_ _⟨_,_,_⟩=>V
instance(s c):z7 (vL s c) (λr=>O.call 171 [X s,z (A v (c.toNat:M))] []=Z (Y r,[])):=⟨by unfold vL;exact V⟩
instance:K yp λ(s,env,line,a,b,d,e,c,out) r=>O.loop 114 0 ⟨[(0,X s),(2,Q env),(9,W 3 out),(10,Y line),(16,Y a),(17,Y b)],[(0,U d),(1,U e),(2,N c),(3,N out)],4⟩=Z (P,⟨[(0,X s),(2,Q env),(9,W 3 out),(10,Y line),(16,Y r),(17,Y b)],[(0,U d),(1,U e),(2,N c),(3,N out)],4⟩):=J yp.partial_correctness λ_ _⟨_,_,_,_,_,_,_,_,_⟩=>V
instance:K yq λ(s,env,line,a,b,d,e,c,out) r=>O.loop 114 2 ⟨[(0,X s),(2,Q env),(9,W 3 out),(10,Y line),(16,Y a),(17,Y b)],[(0,U d),(1,U e),(2,N c),(3,N out)],4⟩=Z (P,⟨[(0,X s),(2,Q env),(9,W 3 out),(10,Y line),(16,Y a),(17,Y r)],[(0,U d),(1,U e),(2,N c),(3,N out)],4⟩):=J yq.partial_correctness λ_ _⟨_,_,_,_,_,_,_,_,_⟩=>V
instance:K yV λ(s,qG,qp) r=>O.loop 116 0 ⟨[(0,X s),(6,Y qG),(8,Y qp)],[],0⟩=Z (P,⟨[(0,X s),(6,Y qG),(8,Y r)],[],0⟩):=J yV.partial_correctness λ_ _⟨_,_,_⟩=>V
instance(s line):z7 (aQ s line) (λr=>O.call 116 [X s,Y line] []=Z (H [X r.1,Y r.2],[])):=⟨by unfold aQ;exact V⟩
instance:K jg λ(s,lead,unit,behind,i,b) r=>O.loop 224 0 ⟨[(0,X s),(1,X lead),(2,X unit),(7,W 0 b),(8,I behind),(9,Y i)],[(0,R b)],1⟩=Z (P,⟨[(7,W 0 r)],[(0,R r)],1⟩):=J jg.partial_correctness λ_ _⟨_,_,_,_,_,_⟩=>V
instance(s lead unit):z7 (pf s lead unit) (λr=>O.call 224 [X s,X lead,X unit] []=Z (X r,[])):=⟨by unfold pf;exact V⟩
instance(f b c e r_ a d):z7 (xN f b c e r_ a d) (λr=>O.call 223 [T 0 0,Q f] [(0,L [Q b,X c,X e,W 1 r_,W 2 a,W 3 d]),(1,R r_),(2,R a),(3,R d)]=Z (H [],[(0,L [Q b,X c,X e,W 1 r,W 2 a,W 3 d]),(1,R r),(2,R a),(3,R d)])):=⟨by unfold xN;exact V⟩
@[go_sem] def iR:((D)⊕(F))->Ex×St
 | .inl y=>(B,⟨[(2,I y)],[],0⟩)
 | .inr y=>(P,⟨[(2,C)],[],0⟩)
instance:K bg λ(name,l,i) r=>O.loop 225 0 ⟨[(0,X name),(3,Q l),(4,Y i)],[],0⟩=Z (iR r):=J bg.partial_correctness λ_ _⟨_,_,_⟩=>V
@[go_sem] def cQ (name:qa) (w:(Sl qz)) (w2:qa) (d:qa) (a:(E qc)) (b:(E M)) (c:(E qa)):((M)⊕(F))->Ex×St
 | .inl y=>(B,⟨[(0,T 0 0),(1,X name),(4,Y y)],[(0,L [Q w,X w2,X d,W 1 a,W 2 b,W 3 c]),(1,R a),(2,R b),(3,R c)],4⟩)
 | .inr y=>(P,⟨[(0,T 0 0),(1,X name),(4,C)],[(0,L [Q w,X w2,X d,W 1 a,W 2 b,W 3 c]),(1,R a),(2,R b),(3,R c)],4⟩)
instance:K wk λ(name,i,w,w2,d,a,b,c) r=>O.loop 227 0 ⟨[(0,T 0 0),(1,X name),(5,Y i)],[(0,L [Q w,X w2,X d,W 1 a,W 2 b,W 3 c]),(1,R a),(2,R b),(3,R c)],4⟩=Z (cQ name w w2 d a b c r):=J wk.partial_correctness λ_ _⟨_,_,_,_,_,_,_,_⟩=>V
instance(name b c e r_ a d):z7 (gI name b c e r_ a d) (λr=>O.call 227 [T 0 0,X name] [(0,L [Q b,X c,X e,W 1 r_,W 2 a,W 3 d]),(1,R r_),(2,R a),(3,R d)]=Z (Y r.1,[(0,L [Q b,X c,X e,W 1 r_,W 2 a,W 3 r.2]),(1,R r_),(2,R a),(3,R r.2)])):=⟨by unfold gI;exact V⟩
@[go_sem] def iT (l:(E M)):((D)⊕(F))->Ex×St
 | .inl y=>(B,⟨[(4,I y)],[(0,R l)],1⟩)
 | .inr y=>(P,⟨[(4,C)],[(0,R l)],1⟩)
instance:K bk λ(n,i,l) r=>O.loop 229 0 ⟨[(0,W 0 l),(1,Y n),(5,Y i)],[(0,R l)],1⟩=Z (iT l r):=J bk.partial_correctness λ_ _⟨_,_,_⟩=>V
instance(n r_):z7 (gu n r_) (λr=>O.call 229 [W 0 r_,Y n] [(0,R r_)]=Z (I r,[(0,R r_)])):=⟨by unfold gu;exact V⟩
instance:K kD λ(most,i,w,w2,d,a,b,c) r=>O.loop 174 0 ⟨[(0,T 0 0),(2,Y most),(3,Y i)],[(0,L [Q w,X w2,X d,W 1 a,W 2 b,W 3 c]),(1,R a),(2,R b),(3,R c)],4⟩=Z (P,⟨[(0,T 0 0),(2,Y r)],[(0,L [Q w,X w2,X d,W 1 a,W 2 b,W 3 c]),(1,R a),(2,R b),(3,R c)],4⟩):=J kD.partial_correctness λ_ _⟨_,_,_,_,_,_,_,_⟩=>V
instance:K jR λ(most,i,w,w2,d,c,a,b) r=>O.loop 174 2 ⟨[(0,T 0 0),(2,Y most),(4,Y i)],[(0,L [Q w,X w2,X d,W 1 c,W 2 a,W 3 b]),(1,R c),(2,R a),(3,R b)],4⟩=Z (P,⟨[(0,T 0 0)],[(0,L [Q w,X w2,X d,W 1 r,W 2 a,W 3 b]),(1,R r),(2,R a),(3,R b)],4⟩):=J jR.partial_correctness λ_ _⟨_,_,_,_,_,_,_,_⟩=>V
end Go.Proofs.YtadahlbndbmdeaaGreat
