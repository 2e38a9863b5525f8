/-
  What the machine's calls come to: the plain functions.
-/
import Derived.Test.YtmllebdamdnhoaaGreatAaf
import Derived.Test.YtmllebdamdnhoaaGreatAag
import Derived.Test.YtmllebdamdnhoaaGreatAah
set_option linter.unusedSimpArgs false
set_option linter.unusedVariables false
set_option maxRecDepth 100000
namespace Go.Proofs.YtmllebdamdnhoaaGreat
open Go Go.Gm
set_option maxHeartbeats 4000000
instance(qO to qk b b_2 xT r_ r_2 jh mm ag r_6):ze (uZ qO to qk b b_2 xT r_ r_2 jh mm ag r_6) (fun r=>O.call 172 [AV.ptr 0 0,AV.ptr 1 0,AV.pv (PV.sl true 0 []),qp 2 r_,qm qO,qm to,qm qk] [(0,qD.box [vv b,qL b_2,qL xT,qp 3 r_2,qp 4 jh,qp 5 mm]),(1,qD.box [qp 6 ag,qp 7 r_6]),(2,bm r_),(3,br r_2),(4,br jh),(5,br mm),(6,br ag),(7,br r_6)]=some (AV.xS [qp 8 r.2.2.2.2.2.2.2.2.2.2,qm r.1],[(0,qD.box [vv r.2.1,qL r.2.2.1,qL r.2.2.2.1,qp 3 r.2.2.2.2.2.1,qp 4 r.2.2.2.2.2.2.1,qp 5 r.2.2.2.2.2.2.2.1]),(1,qD.box [qp 6 r.2.2.2.2.2.2.2.2.1,qp 7 r.2.2.2.2.2.2.2.2.2.1]),(2,bm r.2.2.2.2.1),(3,br r.2.2.2.2.2.1),(4,br r.2.2.2.2.2.2.1),(5,br r.2.2.2.2.2.2.2.1),(6,br r.2.2.2.2.2.2.2.2.1),(7,br r.2.2.2.2.2.2.2.2.2.1),(8,br r.2.2.2.2.2.2.2.2.2.2)])):=⟨by unfold uZ;exact gW⟩
instance:xq wC fun(s,zero,i,fw,b0_2,Sg,zb,qR,zT,oL,pE,eR,stops) r=>O.loop 114 2 ⟨[(15,qL s),(17,qp 8 stops),(19,zt zero),(20,qm i)],[(0,qD.box [vv fw,qL b0_2,qL Sg,qp 1 zb,qp 2 qR,qp 3 zT]),(1,br zb),(2,br qR),(3,br zT),(4,qD.box [qp 5 oL,qp 6 pE]),(5,br oL),(6,br pE),(7,bm eR),(8,br stops)],9⟩=some (Ex.normal,⟨[(15,qL s),(17,qp 8 stops),(19,zt r)],[(0,qD.box [vv fw,qL b0_2,qL Sg,qp 1 zb,qp 2 qR,qp 3 zT]),(1,br zb),(2,br qR),(3,br zT),(4,qD.box [qp 5 oL,qp 6 pE]),(5,br oL),(6,br pE),(7,bm eR),(8,br stops)],9⟩):=gP wC.partial_correctness fun _ _⟨_,_,_,_,_,_,_,_,_,_,_,_,_⟩=>gW
instance(l env lead unit):ze (d9 l env lead unit) (fun r=>O.call 114 [vv l,vv env,qL lead,qL unit] []=some (AV.xS [qL r.1,vv r.2.1,qm r.2.2],[])):=⟨by unfold d9;exact gW⟩
@[go_sem] def sP (st:qr) (t6:qr):((Int×qr×(List qo)×(List (Sl qu)))⊕((List qo)×(List (Sl qu))))->Ex×St
 | .inl y=>(Ex.ret,⟨[(3,AV.ptr 0 0),(6,AV.ptr 1 0),(7,qm y.1),(10,qp 2 y.2.2.1),(11,qp 3 y.2.2.2)],[(0,bb st),(1,bb y.2.1),(2,br y.2.2.1),(3,br y.2.2.2)],4⟩)
 | .inr y=>(Ex.normal,⟨[(3,AV.ptr 0 0),(6,AV.ptr 1 0),(7,AV.undef),(10,qp 2 y.1),(11,qp 3 y.2)],[(0,bb st),(1,bb t6),(2,br y.1),(3,br y.2)],4⟩)
instance:xq vC fun(l,env,unit,i,st,t6,es,uR) r=>O.loop 62 0 ⟨[(1,vv l),(2,vv env),(3,AV.ptr 0 0),(6,AV.ptr 1 0),(8,qL unit),(10,qp 2 es),(11,qp 3 uR),(12,qm i)],[(0,bb st),(1,bb t6),(2,br es),(3,br uR)],4⟩=some (sP st t6 r):=gP vC.partial_correctness fun _ _⟨_,_,_,_,_,_,_,_⟩=>gW
instance:xq vE fun(es,fO,i,qk,k,fw,t6,uR,w,w2,eR,UH,s,pD,w6,in_2,Cu) r=>O.loop 62 4 ⟨[(6,AV.ptr 1 0),(10,vv es),(11,qp 3 uR),(24,AV.ptr 4 0),(25,AV.ptr 9 0),(26,qm fO),(27,qm i),(28,qm qk),(29,AV.ptr 11 0),(30,qm k)],[(0,bb fw),(1,bb t6),(2,qD.xf),(3,br uR),(4,qD.box [qL w,vv w2,qp 7 eR,qp 8 UH.l]),(5,qD.xf),(6,qD.xf),(7,bm eR),(8,nW [1,1] 1 (ng 1 zX) UH),(9,qD.box [qm s,qp 10 pD]),(10,br pD),(11,qD.box [qm w6,qm in_2,qp 12 Cu]),(12,br Cu)],13⟩=some (Ex.normal,⟨[(6,AV.ptr 1 0),(10,vv es),(11,qp 3 uR),(24,AV.ptr 4 0),(25,AV.ptr 9 0),(26,qm fO),(27,qm i),(29,AV.ptr 11 0)],[(0,bb fw),(1,bb t6),(2,qD.xf),(3,br uR),(4,qD.box [qL w,vv w2,qp 7 eR,qp 8 UH.l]),(5,qD.xf),(6,qD.xf),(7,bm eR),(8,nW [1,1] 1 (ng 1 zX) UH),(9,qD.box [qm s,qp 10 pD]),(10,br pD),(11,qD.box [qm w6,qm in_2,qp 12 r]),(12,br r)],13⟩):=gP vE.partial_correctness fun _ _⟨_,_,_,_,_,_,_,_,_,_,_,_,_,_,_,_,_⟩=>gW
instance:xq vD fun(es,fO,i,fw,t6,uR,w,w2,eR,UH,s,pD) r=>O.loop 62 2 ⟨[(6,AV.ptr 1 0),(10,vv es),(11,qp 3 uR),(24,AV.ptr 4 0),(25,AV.ptr 9 0),(26,qm fO),(27,qm i)],[(0,bb fw),(1,bb t6),(2,qD.xf),(3,br uR),(4,qD.box [qL w,vv w2,qp 7 eR,qp 8 UH.l]),(5,qD.xf),(6,qD.xf),(7,bm eR),(8,nW [1,1] 1 (ng 1 zX) UH),(9,qD.box [qm s,qp 10 pD]),(10,br pD)],11⟩=some (Ex.normal,⟨[(6,AV.ptr 1 0),(24,AV.ptr 4 0),(25,AV.ptr 9 0)],[(0,bb fw),(1,bb t6),(2,qD.xf),(3,br uR),(4,qD.box [qL w,vv w2,qp 7 eR,qp 8 UH.l]),(5,qD.xf),(6,qD.xf),(7,bm eR),(8,nW [1,1] 1 (ng 1 zX) UH),(9,qD.box [qm s,qp 10 r]),(10,br r)],11⟩):=gP vD.partial_correctness fun _ _⟨_,_,_,_,_,_,_,_,_,_,_,_⟩=>gW
instance:xq zV fun(is,ns,zero,i,k) r=>O.loop 115 2 ⟨[(0,vv is),(3,vv ns),(4,zt zero),(5,qm i),(6,qm k)],[],0⟩=some (Ex.normal,⟨[(0,vv is),(3,vv r.1),(4,zt r.2),(5,qm i)],[],0⟩):=gP zV.partial_correctness fun _ _⟨_,_,_,_,_⟩=>gW
instance:xq wm fun(is,ns,zero,i) r=>O.loop 115 0 ⟨[(0,vv is),(3,vv ns),(4,zt zero),(5,qm i)],[],0⟩=some (Ex.normal,⟨[(3,vv r.1),(4,zt r.2)],[],0⟩):=gP wm.partial_correctness fun _ _⟨_,_,_,_⟩=>gW
instance(is):ze (uH is) (fun r=>O.call 115 [vv is] []=some (vv r,[])):=⟨by unfold uH;exact gW⟩
instance(s b b_2 r_ r_2):ze (hJ s b b_2 r_ r_2) (fun r=>O.call 116 [AV.ptr 0 0,vv s] [(0,qD.box [qL b,vv b_2,qp 1 r_,qp 2 r_2.l]),(1,bm r_),(2,nW [1,1] 1 (ng 1 zX) r_2)]=some (AV.xS [],[(0,qD.box [qL b,vv b_2,qp 1 r.1,qp 2 r.2.l]),(1,bm r.1),(2,nW [1,1] 1 (ng 1 zX) r.2)])):=⟨by unfold hJ;exact gW⟩
instance:xq yO fun(n,k,sp,i,st,t4,s,l) r=>O.loop 117 0 ⟨[(1,qm n),(2,AV.ptr 1 0),(4,AV.ptr 2 0),(6,qm k),(7,AV.ptr 3 0),(8,vv sp),(9,qp 4 l),(10,qm i)],[(0,qD.xf),(1,bb st),(2,bb t4),(3,bb s),(4,br l)],5⟩=some (Ex.normal,⟨[(1,qm n),(2,AV.ptr 1 0),(4,AV.ptr 2 0),(6,qm k),(7,AV.ptr 3 0),(9,qp 4 r)],[(0,qD.xf),(1,bb st),(2,bb t4),(3,bb s),(4,br r)],5⟩):=gP yO.partial_correctness fun _ _⟨_,_,_,_,_,_,_,_⟩=>gW
instance(st st2 n r_):ze (nC st st2 n r_) (fun r=>O.call 117 [AV.agg [qL st,vv st2,qp 0 r_],qm n] [(0,bm r_)]=some (AV.xS [vv r.1,qm r.2],[(0,qD.xf)])):=⟨by unfold nC;exact gW⟩
instance(st l env):ze (tc st l env) (fun r=>O.call 62 [vv st,vv l,vv env] []=some (AV.xS [vv r.1,qm r.2],[])):=⟨by unfold tc;exact gW⟩
instance(a b):ze (pw a b) (fun r=>O.call 174 [qm a,qm b] []=some (zt r,[])):=⟨by unfold pw;exact gW⟩
@[go_sem] def fc:((Int×Bool)⊕(Unit))->Ex×St
 | .inl y=>(Ex.ret,⟨[(4,qm y.1),(5,zt y.2)],[],0⟩)
 | .inr y=>(Ex.normal,⟨[(4,AV.undef),(5,AV.undef)],[],0⟩)
instance:xq uG fun(cur,ns,i) r=>O.loop 118 0 ⟨[(0,qm cur),(6,vv ns),(7,qm i)],[],0⟩=some (fc r):=gP uG.partial_correctness fun _ _⟨_,_,_⟩=>gW
instance(cur is):ze (db cur is) (fun r=>O.call 118 [qm cur,vv is] []=some (AV.xS [qm r.1,zt r.2],[])):=⟨by unfold db;exact gW⟩
instance(st):ze (rm st) (fun r=>O.call 119 [vv st] []=some (vv r,[])):=⟨by unfold rm;exact gW⟩
instance:xq wq fun(n,k,sp,i,st,t4,s,l) r=>O.loop 117 0 ⟨[(1,qm n),(2,AV.ptr 0 0),(4,AV.ptr 1 0),(6,qm k),(7,AV.ptr 2 0),(8,vv sp),(9,qp 3 l),(10,qm i)],[(0,bb st),(1,bb t4),(2,bb s),(3,br l)],4⟩=some (Ex.normal,⟨[(1,qm n),(2,AV.ptr 0 0),(4,AV.ptr 1 0),(6,qm k),(7,AV.ptr 2 0),(9,qp 3 r)],[(0,bb st),(1,bb t4),(2,bb s),(3,br r)],4⟩):=gP wq.partial_correctness fun _ _⟨_,_,_,_,_,_,_,_⟩=>gW
instance(st n):ze (uL st n) (fun r=>O.call 117 [vv st,qm n] []=some (AV.xS [vv r.1,qm r.2],[])):=⟨by unfold uL;exact gW⟩
instance(st):ze (dj st) (fun r=>O.call 63 [vv st] []=some (AV.xS [vv r.1,qm r.2],[])):=⟨by unfold dj;exact gW⟩
@[go_sem] def fe:((Int×Bool)⊕(Unit))->Ex×St
 | .inl y=>(Ex.ret,⟨[(4,qm y.1),(5,zt y.2)],[],0⟩)
 | .inr y=>(Ex.normal,⟨[(4,AV.undef),(5,AV.undef)],[],0⟩)
instance:xq uI fun(cur,ns,i) r=>O.loop 120 0 ⟨[(0,qm cur),(6,vv ns),(7,qm i)],[],0⟩=some (fe r):=gP uI.partial_correctness fun _ _⟨_,_,_⟩=>gW
instance(cur is):ze (dc cur is) (fun r=>O.call 120 [qm cur,vv is] []=some (AV.xS [qm r.1,zt r.2],[])):=⟨by unfold dc;exact gW⟩
instance(st):ze (dm st) (fun r=>O.call 64 [vv st] []=some (AV.xS [vv r.1,qm r.2],[])):=⟨by unfold dm;exact gW⟩
instance(st):ze (so st) (fun r=>O.call 65 [vv st] []=some (AV.xS [vv r.1,qm r.2],[])):=⟨by unfold so;exact gW⟩
instance:xq xC fun(k,n,has,a,found,j,st,t4,s,es) r=>O.loop 66 2 ⟨[(1,qm k),(2,AV.ptr 0 0),(4,AV.ptr 1 0),(6,qm n),(7,AV.ptr 2 0),(8,qp 3 es),(9,zt has),(10,qm a),(11,zt found),(12,qm j)],[(0,bb st),(1,bb t4),(2,bb s),(3,br es)],4⟩=some (Ex.normal,⟨[(1,qm k),(2,AV.ptr 0 0),(4,AV.ptr 1 0),(6,qm n),(7,AV.ptr 2 0),(8,qp 3 r.2),(9,zt r.1),(10,qm a)],[(0,bb st),(1,bb t4),(2,bb s),(3,br r.2)],4⟩):=gP xC.partial_correctness fun _ _⟨_,_,_,_,_,_,_,_,_,_⟩=>gW
instance:xq vB fun(k,n,has,a,st,t4,s,es) r=>O.loop 66 0 ⟨[(1,qm k),(2,AV.ptr 0 0),(4,AV.ptr 1 0),(6,qm n),(7,AV.ptr 2 0),(8,qp 3 es),(9,zt has),(10,qm a)],[(0,bb st),(1,bb t4),(2,bb s),(3,br es)],4⟩=some (Ex.normal,⟨[(2,AV.ptr 0 0),(4,AV.ptr 1 0),(6,qm n),(7,AV.ptr 2 0),(8,qp 3 r.2),(9,zt r.1)],[(0,bb st),(1,bb t4),(2,bb s),(3,br r.2)],4⟩):=gP vB.partial_correctness fun _ _⟨_,_,_,_,_,_,_,_⟩=>gW
instance(st k):ze (ta st k) (fun r=>O.call 66 [vv st,qm k] []=some (AV.xS [vv r.1,qm r.2],[])):=⟨by unfold ta;exact gW⟩
instance(o b b_2 xT W2 r_ r_2):ze (yP o b b_2 xT W2 r_ r_2) (fun r=>O.call 37 [AV.ptr 0 0,vv o] [(0,qD.box [qL b,vv b_2,vv xT,vv W2,qp 1 r_.l,qp 2 r_2.l]),(1,bN r_),(2,bN r_2)]=some (AV.xS [vv r.1,zt r.2.1,qm r.2.2],[(0,qD.box [qL b,vv b_2,vv xT,vv W2,qp 1 r_.l,qp 2 r_2.l]),(1,bN r_),(2,bN r_2)])):=⟨by unfold yP;exact gW⟩
@[go_sem] def sq (W2:(Sl qt)) (r_:(Sl qr)) (r_2:(Sl qr)):((Int×qa×(Sl qx)×(Sl qc)×(Sl qt))⊕((Int×qa×(Sl qx)×(Sl qc)×(Sl qr)×(Sl qr))⊕((Int×qa×(Sl qx)×(Sl qc)×(Sl qr)×(Sl qr))⊕(Int×qa×(Sl qx)×(Sl qc)×(Sl qr)))))->AV×qn
 | .inl y=>(qm y.1,[(0,qD.box [qL y.2.1,vv y.2.2.1,vv y.2.2.2.1,vv y.2.2.2.2,qp 1 r_.l,qp 2 r_2.l]),(1,bN r_),(2,bN r_2)])
 | .inr (.inl y)=>(qm y.1,[(0,qD.box [qL y.2.1,vv y.2.2.1,vv y.2.2.2.1,vv W2,qp 3 y.2.2.2.2.2.l,qp 2 y.2.2.2.2.1.l]),(1,qD.xf),(2,bN y.2.2.2.2.1),(3,bN y.2.2.2.2.2)])
 | .inr (.inr (.inl y))=>(qm y.1,[(0,qD.box [qL y.2.1,vv y.2.2.1,vv y.2.2.2.1,vv W2,qp 1 y.2.2.2.2.1.l,qp 3 y.2.2.2.2.2.l]),(1,bN y.2.2.2.2.1),(2,qD.xf),(3,bN y.2.2.2.2.2)])
 | .inr (.inr (.inr y))=>(qm y.1,[(0,qD.box [qL y.2.1,vv y.2.2.1,vv y.2.2.2.1,vv W2,qp 3 y.2.2.2.2.l,AV.pv (PV.sl true 0 [])]),(1,bN r_),(2,bN r_2),(3,bN y.2.2.2.2)])
instance(o b b_2 xT W2 r_ r_2):ze (hQ o b b_2 xT W2 r_ r_2) (fun r=>O.call 18 [AV.ptr 0 0,vv o] [(0,qD.box [qL b,vv b_2,vv xT,vv W2,qp 1 r_.l,qp 2 r_2.l]),(1,bN r_),(2,bN r_2)]=some (sq W2 r_ r_2 r)):=⟨by unfold hQ;exact gW⟩
instance:xq ky fun(os,i,t2,m,m2,m3,m4,qR,zT) r=>O.loop 7 0 ⟨[(0,vv os),(2,AV.ptr 0 0),(3,AV.ptr 1 0),(5,qm i)],[(0,bb t2),(1,qD.box [qL m,vv m2,vv m3,vv m4,qp 2 qR.l,qp 3 zT.l]),(2,bN qR),(3,bN zT)],4⟩=some (Ex.normal,⟨[(2,AV.ptr 0 0),(3,AV.ptr 1 0)],[(0,bb t2),(1,qD.box [qL r.1,vv r.2.1,vv r.2.2.1,vv r.2.2.2.1,qp 2 r.2.2.2.2.1.l,qp 3 r.2.2.2.2.2.l]),(2,bN r.2.2.2.2.1),(3,bN r.2.2.2.2.2)],4⟩):=gP ky.partial_correctness fun _ _⟨_,_,_,_,_,_,_,_,_⟩=>gW
instance(os):ze (cG os) (fun r=>O.call 7 [vv os] []=some (vv r,[])):=⟨by unfold cG;exact gW⟩
instance(x n):ze (pO x n) (fun r=>O.call 21 [qm x,qm n] []=some (qm r,[])):=⟨by unfold pO;exact gW⟩
instance:xq uA fun(n,es,i,out) r=>O.loop 19 0 ⟨[(0,qm n),(1,vv es),(5,qp 0 out),(6,qm i)],[(0,br out)],1⟩=some (Ex.normal,⟨[(5,qp 0 r)],[(0,br r)],1⟩):=gP uA.partial_correctness fun _ _⟨_,_,_,_⟩=>gW
instance(n es):ze (cH n es) (fun r=>O.call 19 [qm n,vv es] []=some (vv r,[])):=⟨by unfold cH;exact gW⟩
instance:xq kT fun(es,sp,qk,i,fw,oH,out) r=>O.loop 8 0 ⟨[(1,vv es),(6,vv sp),(7,qp 2 out),(8,qm qk),(9,qm i)],[(0,bb fw),(1,bb oH),(2,br out)],3⟩=some (Ex.normal,⟨[(7,qp 2 r)],[(0,bb fw),(1,bb oH),(2,br r)],3⟩):=gP kT.partial_correctness fun _ _⟨_,_,_,_,_,_,_⟩=>gW
instance(st es):ze (pP st es) (fun r=>O.call 8 [vv st,vv es] []=some (vv r,[])):=⟨by unfold pP;exact gW⟩
instance(a b):ze (fm a b) (fun r=>O.call 22 [vv a,vv b] []=some (zt r,[])):=⟨by unfold fm;exact gW⟩
@[go_sem] def sL (k:Int) (KL:(Sl qw)) (N5:Int) (Us:Int) (s:qc) (qk:ql) (Zw:qw):((Int)⊕(Unit))->Ex×St
 | .inl y=>(Ex.ret,⟨[(2,AV.ptr 0 0),(3,AV.ptr 1 0),(4,qm k),(5,qm y),(11,vv KL),(12,qm N5),(13,qm Us)],[(0,bb s),(1,bb qk),(2,bb Zw)],3⟩)
 | .inr y=>(Ex.normal,⟨[(2,AV.ptr 0 0),(3,AV.ptr 1 0),(4,AV.undef),(5,AV.undef),(11,vv KL),(12,qm N5),(13,qm Us)],[(0,bb s),(1,bb qk),(2,bb Zw)],3⟩)
instance:xq jZ fun(k,KL,N5,Us,t19,t20,t21,s,qk,Zw) r=>O.loop 9 2 ⟨[(2,AV.ptr 0 0),(3,AV.ptr 1 0),(6,qm k),(11,vv KL),(12,qm N5),(13,qm Us),(19,vv t19),(20,qm t20),(21,qm t21)],[(0,bb s),(1,bb qk),(2,bb Zw)],3⟩=some (sL k KL N5 Us s qk Zw r):=gP jZ.partial_correctness fun _ _⟨_,_,_,_,_,_,_,_,_,_⟩=>gW
@[go_sem] def sK (s:qc) (qk:ql):((Int×Int)⊕(Unit))->Ex×St
 | .inl y=>(Ex.ret,⟨[(4,qm y.1),(5,qm y.2)],[(0,bb s),(1,bb qk)],2⟩)
 | .inr y=>(Ex.normal,⟨[(4,AV.undef),(5,AV.undef)],[(0,bb s),(1,bb qk)],2⟩)
instance:xq kR fun(KL,N5,Us,s,qk) r=>O.loop 9 0 ⟨[(2,AV.ptr 0 0),(3,AV.ptr 1 0),(11,vv KL),(12,qm N5),(13,qm Us)],[(0,bb s),(1,bb qk)],2⟩=some (sK s qk r):=gP kR.partial_correctness fun _ _⟨_,_,_,_,_⟩=>gW
instance(s qk):ze (gA s qk) (fun r=>O.call 9 [vv s,vv qk] []=some (AV.xS [qm r.1,qm r.2],[])):=⟨by unfold gA;exact gW⟩
@[go_sem] def sM (s:qc):((Bool)⊕(Unit))->Ex×St
 | .inl y=>(Ex.ret,⟨[(4,zt y)],[(0,bb s)],1⟩)
 | .inr y=>(Ex.normal,⟨[(4,AV.undef)],[(0,bb s)],1⟩)
instance:xq kS fun(t9,t10,KL,s) r=>O.loop 11 0 ⟨[(2,AV.ptr 0 0),(9,vv t9),(10,qm t10),(11,qm KL)],[(0,bb s)],1⟩=some (sM s r):=gP kS.partial_correctness fun _ _⟨_,_,_,_⟩=>gW
instance(s es):ze (nM s es) (fun r=>O.call 11 [vv s,vv es] []=some (zt r,[])):=⟨by unfold nM;exact gW⟩
@[go_sem] def pd (es:(Sl qo)) (w6:(Sl qo)) (i:Int) (qk:ql) (st:qr) (s:qc):((Bool)⊕(Unit))->Ex×St
 | .inl y=>(Ex.ret,⟨[(2,vv es),(4,AV.ptr 0 0),(6,zt y),(7,AV.ptr 1 0),(8,vv w6),(9,qm i)],[(0,bb qk),(1,bb st),(2,bb s)],3⟩)
 | .inr y=>(Ex.normal,⟨[(2,vv es),(4,AV.ptr 0 0),(6,AV.undef),(7,AV.ptr 1 0),(8,vv w6),(9,qm i)],[(0,bb qk),(1,bb st),(2,bb s)],3⟩)
instance:xq jL fun(es,w6,i,k,qk,st,s) r=>O.loop 3 2 ⟨[(2,vv es),(4,AV.ptr 0 0),(7,AV.ptr 1 0),(8,vv w6),(9,qm i),(10,AV.ptr 2 0),(15,qm k)],[(0,bb qk),(1,bb st),(2,bb s)],3⟩=some (pd es w6 i qk st s r):=gP jL.partial_correctness fun _ _⟨_,_,_,_,_,_,_⟩=>gW
@[go_sem] def pa (qk:ql) (st:qr):((Bool)⊕(Unit))->Ex×St
 | .inl y=>(Ex.ret,⟨[(6,zt y)],[(0,bb qk),(1,bb st)],2⟩)
 | .inr y=>(Ex.normal,⟨[(6,AV.undef)],[(0,bb qk),(1,bb st)],2⟩)
instance:xq jK fun(es,w6,i,qk,st) r=>O.loop 3 0 ⟨[(2,vv es),(4,AV.ptr 0 0),(7,AV.ptr 1 0),(8,vv w6),(9,qm i)],[(0,bb qk),(1,bb st)],2⟩=some (pa qk st r):=gP jK.partial_correctness fun _ _⟨_,_,_,_,_⟩=>gW
instance oK(os qk es):ze (yg os qk es) (fun r=>O.call 3 [vv os,vv qk,vv es] []=some (zt r,[])):=⟨by unfold yg;exact gW⟩
end Go.Proofs.YtmllebdamdnhoaaGreat
