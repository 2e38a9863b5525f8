/-
  What the machine's calls come to: the plain functions.
-/
import Derived.Test.YtmllebdamdnhoaaGreatAah
import Derived.Test.YtmllebdamdnhoaaGreatAai
import Derived.Test.YtmllebdamdnhoaaGreatAaj
set_option linter.unusedSimpArgs false
set_option linter.unusedVariables false
set_option maxRecDepth 100000
namespace Go.Proofs.YtmllebdamdnhoaaGreat
open Go Go.Gm
set_option maxHeartbeats 4000000
instance(qO to qk b b_2 xT r_ r_2 jh ml ae r_6):ze (uZ qO to qk b b_2 xT r_ r_2 jh ml ae r_6) (fun r=>O.call 172 [AV.ptr 0 0,AV.ptr 1 0,AV.pv (PV.sl true 0 []),qp 2 r_,qm qO,qm to,qm qk] [(0,qC.box [vv b,qL b_2,qL xT,qp 3 r_2,qp 4 jh,qp 5 ml]),(1,qC.box [qp 6 ae,qp 7 r_6]),(2,bm r_),(3,br r_2),(4,br jh),(5,br ml),(6,br ae),(7,br r_6)]=some (AV.xS [qp 8 r.2.2.2.2.2.2.2.2.2.2,qm r.1],[(0,qC.box [vv r.2.1,qL r.2.2.1,qL r.2.2.2.1,qp 3 r.2.2.2.2.2.1,qp 4 r.2.2.2.2.2.2.1,qp 5 r.2.2.2.2.2.2.2.1]),(1,qC.box [qp 6 r.2.2.2.2.2.2.2.2.1,qp 7 r.2.2.2.2.2.2.2.2.2.1]),(2,bm r.2.2.2.2.1),(3,br r.2.2.2.2.2.1),(4,br r.2.2.2.2.2.2.1),(5,br r.2.2.2.2.2.2.2.1),(6,br r.2.2.2.2.2.2.2.2.1),(7,br r.2.2.2.2.2.2.2.2.2.1),(8,br r.2.2.2.2.2.2.2.2.2.2)])):=⟨by unfold uZ;exact gW⟩
instance:xq wC fun(s,zero,i,fu,b0_2,Sc,zb,qR,zT,oK,pD,eQ,stops) r=>O.loop 114 2 ⟨[(15,qL s),(17,qp 8 stops),(19,zt zero),(20,qm i)],[(0,qC.box [vv fu,qL b0_2,qL Sc,qp 1 zb,qp 2 qR,qp 3 zT]),(1,br zb),(2,br qR),(3,br zT),(4,qC.box [qp 5 oK,qp 6 pD]),(5,br oK),(6,br pD),(7,bm eQ),(8,br stops)],9⟩=some (Ex.normal,⟨[(15,qL s),(17,qp 8 stops),(19,zt r)],[(0,qC.box [vv fu,qL b0_2,qL Sc,qp 1 zb,qp 2 qR,qp 3 zT]),(1,br zb),(2,br qR),(3,br zT),(4,qC.box [qp 5 oK,qp 6 pD]),(5,br oK),(6,br pD),(7,bm eQ),(8,br stops)],9⟩):=gP wC.partial_correctness fun _ _⟨_,_,_,_,_,_,_,_,_,_,_,_,_⟩=>gW
instance(l env lead unit):ze (d8 l env lead unit) (fun r=>O.call 114 [vv l,vv env,qL lead,qL unit] []=some (AV.xS [qL r.1,vv r.2.1,qm r.2.2],[])):=⟨by unfold d8;exact gW⟩
@[go_sem] def sO (st:qr) (t6:qr):((Int×qr×(List qo)×(List (Sl qu)))⊕((List qo)×(List (Sl qu))))->Ex×St
 | .inl y=>(Ex.ret,⟨[(3,AV.ptr 0 0),(6,AV.ptr 1 0),(7,qm y.1),(10,qp 2 y.2.2.1),(11,qp 3 y.2.2.2)],[(0,bb st),(1,bb y.2.1),(2,br y.2.2.1),(3,br y.2.2.2)],4⟩)
 | .inr y=>(Ex.normal,⟨[(3,AV.ptr 0 0),(6,AV.ptr 1 0),(7,AV.undef),(10,qp 2 y.1),(11,qp 3 y.2)],[(0,bb st),(1,bb t6),(2,br y.1),(3,br y.2)],4⟩)
instance:xq vC fun(l,env,unit,i,st,t6,es,uR) r=>O.loop 62 0 ⟨[(1,vv l),(2,vv env),(3,AV.ptr 0 0),(6,AV.ptr 1 0),(8,qL unit),(10,qp 2 es),(11,qp 3 uR),(12,qm i)],[(0,bb st),(1,bb t6),(2,br es),(3,br uR)],4⟩=some (sO st t6 r):=gP vC.partial_correctness fun _ _⟨_,_,_,_,_,_,_,_⟩=>gW
instance:xq vE fun(es,fN,i,qk,k,fu,t6,uR,w,w2,eQ,UF,s,pC,w6,in_2,Cq) r=>O.loop 62 4 ⟨[(6,AV.ptr 1 0),(10,vv es),(11,qp 3 uR),(24,AV.ptr 4 0),(25,AV.ptr 9 0),(26,qm fN),(27,qm i),(28,qm qk),(29,AV.ptr 11 0),(30,qm k)],[(0,bb fu),(1,bb t6),(2,qC.xf),(3,br uR),(4,qC.box [qL w,vv w2,qp 7 eQ,qp 8 UF.l]),(5,qC.xf),(6,qC.xf),(7,bm eQ),(8,nV [1,1] 1 (ng 1 zX) UF),(9,qC.box [qm s,qp 10 pC]),(10,br pC),(11,qC.box [qm w6,qm in_2,qp 12 Cq]),(12,br Cq)],13⟩=some (Ex.normal,⟨[(6,AV.ptr 1 0),(10,vv es),(11,qp 3 uR),(24,AV.ptr 4 0),(25,AV.ptr 9 0),(26,qm fN),(27,qm i),(29,AV.ptr 11 0)],[(0,bb fu),(1,bb t6),(2,qC.xf),(3,br uR),(4,qC.box [qL w,vv w2,qp 7 eQ,qp 8 UF.l]),(5,qC.xf),(6,qC.xf),(7,bm eQ),(8,nV [1,1] 1 (ng 1 zX) UF),(9,qC.box [qm s,qp 10 pC]),(10,br pC),(11,qC.box [qm w6,qm in_2,qp 12 r]),(12,br r)],13⟩):=gP vE.partial_correctness fun _ _⟨_,_,_,_,_,_,_,_,_,_,_,_,_,_,_,_,_⟩=>gW
instance:xq vD fun(es,fN,i,fu,t6,uR,w,w2,eQ,UF,s,pC) r=>O.loop 62 2 ⟨[(6,AV.ptr 1 0),(10,vv es),(11,qp 3 uR),(24,AV.ptr 4 0),(25,AV.ptr 9 0),(26,qm fN),(27,qm i)],[(0,bb fu),(1,bb t6),(2,qC.xf),(3,br uR),(4,qC.box [qL w,vv w2,qp 7 eQ,qp 8 UF.l]),(5,qC.xf),(6,qC.xf),(7,bm eQ),(8,nV [1,1] 1 (ng 1 zX) UF),(9,qC.box [qm s,qp 10 pC]),(10,br pC)],11⟩=some (Ex.normal,⟨[(6,AV.ptr 1 0),(24,AV.ptr 4 0),(25,AV.ptr 9 0)],[(0,bb fu),(1,bb t6),(2,qC.xf),(3,br uR),(4,qC.box [qL w,vv w2,qp 7 eQ,qp 8 UF.l]),(5,qC.xf),(6,qC.xf),(7,bm eQ),(8,nV [1,1] 1 (ng 1 zX) UF),(9,qC.box [qm s,qp 10 r]),(10,br r)],11⟩):=gP vD.partial_correctness fun _ _⟨_,_,_,_,_,_,_,_,_,_,_,_⟩=>gW
instance:xq zV fun(is,ns,zero,i,k) r=>O.loop 115 2 ⟨[(0,vv is),(3,vv ns),(4,zt zero),(5,qm i),(6,qm k)],[],0⟩=some (Ex.normal,⟨[(0,vv is),(3,vv r.1),(4,zt r.2),(5,qm i)],[],0⟩):=gP zV.partial_correctness fun _ _⟨_,_,_,_,_⟩=>gW
instance:xq wm fun(is,ns,zero,i) r=>O.loop 115 0 ⟨[(0,vv is),(3,vv ns),(4,zt zero),(5,qm i)],[],0⟩=some (Ex.normal,⟨[(3,vv r.1),(4,zt r.2)],[],0⟩):=gP wm.partial_correctness fun _ _⟨_,_,_,_⟩=>gW
instance(is):ze (uH is) (fun r=>O.call 115 [vv is] []=some (vv r,[])):=⟨by unfold uH;exact gW⟩
instance(s b b_2 r_ r_2):ze (hJ s b b_2 r_ r_2) (fun r=>O.call 116 [AV.ptr 0 0,vv s] [(0,qC.box [qL b,vv b_2,qp 1 r_,qp 2 r_2.l]),(1,bm r_),(2,nV [1,1] 1 (ng 1 zX) r_2)]=some (AV.xS [],[(0,qC.box [qL b,vv b_2,qp 1 r.1,qp 2 r.2.l]),(1,bm r.1),(2,nV [1,1] 1 (ng 1 zX) r.2)])):=⟨by unfold hJ;exact gW⟩
instance:xq yO fun(n,k,sp,i,st,t4,s,l) r=>O.loop 117 0 ⟨[(1,qm n),(2,AV.ptr 1 0),(4,AV.ptr 2 0),(6,qm k),(7,AV.ptr 3 0),(8,vv sp),(9,qp 4 l),(10,qm i)],[(0,qC.xf),(1,bb st),(2,bb t4),(3,bb s),(4,br l)],5⟩=some (Ex.normal,⟨[(1,qm n),(2,AV.ptr 1 0),(4,AV.ptr 2 0),(6,qm k),(7,AV.ptr 3 0),(9,qp 4 r)],[(0,qC.xf),(1,bb st),(2,bb t4),(3,bb s),(4,br r)],5⟩):=gP yO.partial_correctness fun _ _⟨_,_,_,_,_,_,_,_⟩=>gW
instance(st st2 n r_):ze (nC st st2 n r_) (fun r=>O.call 117 [AV.agg [qL st,vv st2,qp 0 r_],qm n] [(0,bm r_)]=some (AV.xS [vv r.1,qm r.2],[(0,qC.xf)])):=⟨by unfold nC;exact gW⟩
instance(st l env):ze (ta st l env) (fun r=>O.call 62 [vv st,vv l,vv env] []=some (AV.xS [vv r.1,qm r.2],[])):=⟨by unfold ta;exact gW⟩
instance(a b):ze (pt a b) (fun r=>O.call 174 [qm a,qm b] []=some (zt r,[])):=⟨by unfold pt;exact gW⟩
@[go_sem] def dZ:((Int×Bool)⊕(Unit))->Ex×St
 | .inl y=>(Ex.ret,⟨[(4,qm y.1),(5,zt y.2)],[],0⟩)
 | .inr y=>(Ex.normal,⟨[(4,AV.undef),(5,AV.undef)],[],0⟩)
instance:xq uG fun(cur,ns,i) r=>O.loop 118 0 ⟨[(0,qm cur),(6,vv ns),(7,qm i)],[],0⟩=some (dZ r):=gP uG.partial_correctness fun _ _⟨_,_,_⟩=>gW
instance(cur is):ze (da cur is) (fun r=>O.call 118 [qm cur,vv is] []=some (AV.xS [qm r.1,zt r.2],[])):=⟨by unfold da;exact gW⟩
instance(st):ze (rk st) (fun r=>O.call 119 [vv st] []=some (vv r,[])):=⟨by unfold rk;exact gW⟩
instance:xq wq fun(n,k,sp,i,st,t4,s,l) r=>O.loop 117 0 ⟨[(1,qm n),(2,AV.ptr 0 0),(4,AV.ptr 1 0),(6,qm k),(7,AV.ptr 2 0),(8,vv sp),(9,qp 3 l),(10,qm i)],[(0,bb st),(1,bb t4),(2,bb s),(3,br l)],4⟩=some (Ex.normal,⟨[(1,qm n),(2,AV.ptr 0 0),(4,AV.ptr 1 0),(6,qm k),(7,AV.ptr 2 0),(9,qp 3 r)],[(0,bb st),(1,bb t4),(2,bb s),(3,br r)],4⟩):=gP wq.partial_correctness fun _ _⟨_,_,_,_,_,_,_,_⟩=>gW
instance(st n):ze (uL st n) (fun r=>O.call 117 [vv st,qm n] []=some (AV.xS [vv r.1,qm r.2],[])):=⟨by unfold uL;exact gW⟩
instance(st):ze (di st) (fun r=>O.call 63 [vv st] []=some (AV.xS [vv r.1,qm r.2],[])):=⟨by unfold di;exact gW⟩
@[go_sem] def fc:((Int×Bool)⊕(Unit))->Ex×St
 | .inl y=>(Ex.ret,⟨[(4,qm y.1),(5,zt y.2)],[],0⟩)
 | .inr y=>(Ex.normal,⟨[(4,AV.undef),(5,AV.undef)],[],0⟩)
instance:xq uI fun(cur,ns,i) r=>O.loop 120 0 ⟨[(0,qm cur),(6,vv ns),(7,qm i)],[],0⟩=some (fc r):=gP uI.partial_correctness fun _ _⟨_,_,_⟩=>gW
instance(cur is):ze (db cur is) (fun r=>O.call 120 [qm cur,vv is] []=some (AV.xS [qm r.1,zt r.2],[])):=⟨by unfold db;exact gW⟩
instance(st):ze (dj st) (fun r=>O.call 64 [vv st] []=some (AV.xS [vv r.1,qm r.2],[])):=⟨by unfold dj;exact gW⟩
instance(st):ze (sm st) (fun r=>O.call 65 [vv st] []=some (AV.xS [vv r.1,qm r.2],[])):=⟨by unfold sm;exact gW⟩
instance:xq xC fun(k,n,has,a,found,j,st,t4,s,es) r=>O.loop 66 2 ⟨[(1,qm k),(2,AV.ptr 0 0),(4,AV.ptr 1 0),(6,qm n),(7,AV.ptr 2 0),(8,qp 3 es),(9,zt has),(10,qm a),(11,zt found),(12,qm j)],[(0,bb st),(1,bb t4),(2,bb s),(3,br es)],4⟩=some (Ex.normal,⟨[(1,qm k),(2,AV.ptr 0 0),(4,AV.ptr 1 0),(6,qm n),(7,AV.ptr 2 0),(8,qp 3 r.2),(9,zt r.1),(10,qm a)],[(0,bb st),(1,bb t4),(2,bb s),(3,br r.2)],4⟩):=gP xC.partial_correctness fun _ _⟨_,_,_,_,_,_,_,_,_,_⟩=>gW
instance:xq vB fun(k,n,has,a,st,t4,s,es) r=>O.loop 66 0 ⟨[(1,qm k),(2,AV.ptr 0 0),(4,AV.ptr 1 0),(6,qm n),(7,AV.ptr 2 0),(8,qp 3 es),(9,zt has),(10,qm a)],[(0,bb st),(1,bb t4),(2,bb s),(3,br es)],4⟩=some (Ex.normal,⟨[(2,AV.ptr 0 0),(4,AV.ptr 1 0),(6,qm n),(7,AV.ptr 2 0),(8,qp 3 r.2),(9,zt r.1)],[(0,bb st),(1,bb t4),(2,bb s),(3,br r.2)],4⟩):=gP vB.partial_correctness fun _ _⟨_,_,_,_,_,_,_,_⟩=>gW
instance(st k):ze (t8 st k) (fun r=>O.call 66 [vv st,qm k] []=some (AV.xS [vv r.1,qm r.2],[])):=⟨by unfold t8;exact gW⟩
instance(o b b_2 xT W0 r_ r_2):ze (yP o b b_2 xT W0 r_ r_2) (fun r=>O.call 37 [AV.ptr 0 0,vv o] [(0,qC.box [qL b,vv b_2,vv xT,vv W0,qp 1 r_.l,qp 2 r_2.l]),(1,bN r_),(2,bN r_2)]=some (AV.xS [vv r.1,zt r.2.1,qm r.2.2],[(0,qC.box [qL b,vv b_2,vv xT,vv W0,qp 1 r_.l,qp 2 r_2.l]),(1,bN r_),(2,bN r_2)])):=⟨by unfold yP;exact gW⟩
@[go_sem] def so (W0:(Sl qt)) (r_:(Sl qr)) (r_2:(Sl qr)):((Int×qa×(Sl qx)×(Sl qc)×(Sl qt))⊕((Int×qa×(Sl qx)×(Sl qc)×(Sl qr)×(Sl qr))⊕((Int×qa×(Sl qx)×(Sl qc)×(Sl qr)×(Sl qr))⊕(Int×qa×(Sl qx)×(Sl qc)×(Sl qr)))))->AV×qn
 | .inl y=>(qm y.1,[(0,qC.box [qL y.2.1,vv y.2.2.1,vv y.2.2.2.1,vv y.2.2.2.2,qp 1 r_.l,qp 2 r_2.l]),(1,bN r_),(2,bN r_2)])
 | .inr (.inl y)=>(qm y.1,[(0,qC.box [qL y.2.1,vv y.2.2.1,vv y.2.2.2.1,vv W0,qp 3 y.2.2.2.2.2.l,qp 2 y.2.2.2.2.1.l]),(1,qC.xf),(2,bN y.2.2.2.2.1),(3,bN y.2.2.2.2.2)])
 | .inr (.inr (.inl y))=>(qm y.1,[(0,qC.box [qL y.2.1,vv y.2.2.1,vv y.2.2.2.1,vv W0,qp 1 y.2.2.2.2.1.l,qp 3 y.2.2.2.2.2.l]),(1,bN y.2.2.2.2.1),(2,qC.xf),(3,bN y.2.2.2.2.2)])
 | .inr (.inr (.inr y))=>(qm y.1,[(0,qC.box [qL y.2.1,vv y.2.2.1,vv y.2.2.2.1,vv W0,qp 3 y.2.2.2.2.l,AV.pv (PV.sl true 0 [])]),(1,bN r_),(2,bN r_2),(3,bN y.2.2.2.2)])
instance(o b b_2 xT W0 r_ r_2):ze (hQ o b b_2 xT W0 r_ r_2) (fun r=>O.call 18 [AV.ptr 0 0,vv o] [(0,qC.box [qL b,vv b_2,vv xT,vv W0,qp 1 r_.l,qp 2 r_2.l]),(1,bN r_),(2,bN r_2)]=some (so W0 r_ r_2 r)):=⟨by unfold hQ;exact gW⟩
instance:xq ky fun(os,i,t2,m,m2,m3,m4,qR,zT) r=>O.loop 7 0 ⟨[(0,vv os),(2,AV.ptr 0 0),(3,AV.ptr 1 0),(5,qm i)],[(0,bb t2),(1,qC.box [qL m,vv m2,vv m3,vv m4,qp 2 qR.l,qp 3 zT.l]),(2,bN qR),(3,bN zT)],4⟩=some (Ex.normal,⟨[(2,AV.ptr 0 0),(3,AV.ptr 1 0)],[(0,bb t2),(1,qC.box [qL r.1,vv r.2.1,vv r.2.2.1,vv r.2.2.2.1,qp 2 r.2.2.2.2.1.l,qp 3 r.2.2.2.2.2.l]),(2,bN r.2.2.2.2.1),(3,bN r.2.2.2.2.2)],4⟩):=gP ky.partial_correctness fun _ _⟨_,_,_,_,_,_,_,_,_⟩=>gW
instance(os):ze (cF os) (fun r=>O.call 7 [vv os] []=some (vv r,[])):=⟨by unfold cF;exact gW⟩
instance(x n):ze (pN x n) (fun r=>O.call 21 [qm x,qm n] []=some (qm r,[])):=⟨by unfold pN;exact gW⟩
instance:xq uA fun(n,es,i,out) r=>O.loop 19 0 ⟨[(0,qm n),(1,vv es),(5,qp 0 out),(6,qm i)],[(0,br out)],1⟩=some (Ex.normal,⟨[(5,qp 0 r)],[(0,br r)],1⟩):=gP uA.partial_correctness fun _ _⟨_,_,_,_⟩=>gW
instance(n es):ze (cG n es) (fun r=>O.call 19 [qm n,vv es] []=some (vv r,[])):=⟨by unfold cG;exact gW⟩
instance:xq kT fun(es,sp,qk,i,fu,oG,out) r=>O.loop 8 0 ⟨[(1,vv es),(6,vv sp),(7,qp 2 out),(8,qm qk),(9,qm i)],[(0,bb fu),(1,bb oG),(2,br out)],3⟩=some (Ex.normal,⟨[(7,qp 2 r)],[(0,bb fu),(1,bb oG),(2,br r)],3⟩):=gP kT.partial_correctness fun _ _⟨_,_,_,_,_,_,_⟩=>gW
instance(st es):ze (pO st es) (fun r=>O.call 8 [vv st,vv es] []=some (vv r,[])):=⟨by unfold pO;exact gW⟩
instance(a b):ze (fj a b) (fun r=>O.call 22 [vv a,vv b] []=some (zt r,[])):=⟨by unfold fj;exact gW⟩
@[go_sem] def sK (k:Int) (KJ:(Sl qw)) (N2:Int) (Uq:Int) (s:qc) (qk:ql) (Zu:qw):((Int)⊕(Unit))->Ex×St
 | .inl y=>(Ex.ret,⟨[(2,AV.ptr 0 0),(3,AV.ptr 1 0),(4,qm k),(5,qm y),(11,vv KJ),(12,qm N2),(13,qm Uq)],[(0,bb s),(1,bb qk),(2,bb Zu)],3⟩)
 | .inr y=>(Ex.normal,⟨[(2,AV.ptr 0 0),(3,AV.ptr 1 0),(4,AV.undef),(5,AV.undef),(11,vv KJ),(12,qm N2),(13,qm Uq)],[(0,bb s),(1,bb qk),(2,bb Zu)],3⟩)
instance:xq jZ fun(k,KJ,N2,Uq,t19,t20,t21,s,qk,Zu) r=>O.loop 9 2 ⟨[(2,AV.ptr 0 0),(3,AV.ptr 1 0),(6,qm k),(11,vv KJ),(12,qm N2),(13,qm Uq),(19,vv t19),(20,qm t20),(21,qm t21)],[(0,bb s),(1,bb qk),(2,bb Zu)],3⟩=some (sK k KJ N2 Uq s qk Zu r):=gP jZ.partial_correctness fun _ _⟨_,_,_,_,_,_,_,_,_,_⟩=>gW
@[go_sem] def sJ (s:qc) (qk:ql):((Int×Int)⊕(Unit))->Ex×St
 | .inl y=>(Ex.ret,⟨[(4,qm y.1),(5,qm y.2)],[(0,bb s),(1,bb qk)],2⟩)
 | .inr y=>(Ex.normal,⟨[(4,AV.undef),(5,AV.undef)],[(0,bb s),(1,bb qk)],2⟩)
instance:xq kR fun(KJ,N2,Uq,s,qk) r=>O.loop 9 0 ⟨[(2,AV.ptr 0 0),(3,AV.ptr 1 0),(11,vv KJ),(12,qm N2),(13,qm Uq)],[(0,bb s),(1,bb qk)],2⟩=some (sJ s qk r):=gP kR.partial_correctness fun _ _⟨_,_,_,_,_⟩=>gW
instance(s qk):ze (gA s qk) (fun r=>O.call 9 [vv s,vv qk] []=some (AV.xS [qm r.1,qm r.2],[])):=⟨by unfold gA;exact gW⟩
@[go_sem] def sL (s:qc):((Bool)⊕(Unit))->Ex×St
 | .inl y=>(Ex.ret,⟨[(4,zt y)],[(0,bb s)],1⟩)
 | .inr y=>(Ex.normal,⟨[(4,AV.undef)],[(0,bb s)],1⟩)
instance:xq kS fun(t9,t10,KJ,s) r=>O.loop 11 0 ⟨[(2,AV.ptr 0 0),(9,vv t9),(10,qm t10),(11,qm KJ)],[(0,bb s)],1⟩=some (sL s r):=gP kS.partial_correctness fun _ _⟨_,_,_,_⟩=>gW
instance(s es):ze (nL s es) (fun r=>O.call 11 [vv s,vv es] []=some (zt r,[])):=⟨by unfold nL;exact gW⟩
@[go_sem] def pa (es:(Sl qo)) (w6:(Sl qo)) (i:Int) (qk:ql) (st:qr) (s:qc):((Bool)⊕(Unit))->Ex×St
 | .inl y=>(Ex.ret,⟨[(2,vv es),(4,AV.ptr 0 0),(6,zt y),(7,AV.ptr 1 0),(8,vv w6),(9,qm i)],[(0,bb qk),(1,bb st),(2,bb s)],3⟩)
 | .inr y=>(Ex.normal,⟨[(2,vv es),(4,AV.ptr 0 0),(6,AV.undef),(7,AV.ptr 1 0),(8,vv w6),(9,qm i)],[(0,bb qk),(1,bb st),(2,bb s)],3⟩)
instance:xq jL fun(es,w6,i,k,qk,st,s) r=>O.loop 3 2 ⟨[(2,vv es),(4,AV.ptr 0 0),(7,AV.ptr 1 0),(8,vv w6),(9,qm i),(10,AV.ptr 2 0),(15,qm k)],[(0,bb qk),(1,bb st),(2,bb s)],3⟩=some (pa es w6 i qk st s r):=gP jL.partial_correctness fun _ _⟨_,_,_,_,_,_,_⟩=>gW
@[go_sem] def mZ (qk:ql) (st:qr):((Bool)⊕(Unit))->Ex×St
 | .inl y=>(Ex.ret,⟨[(6,zt y)],[(0,bb qk),(1,bb st)],2⟩)
 | .inr y=>(Ex.normal,⟨[(6,AV.undef)],[(0,bb qk),(1,bb st)],2⟩)
instance:xq jK fun(es,w6,i,qk,st) r=>O.loop 3 0 ⟨[(2,vv es),(4,AV.ptr 0 0),(7,AV.ptr 1 0),(8,vv w6),(9,qm i)],[(0,bb qk),(1,bb st)],2⟩=some (mZ qk st r):=gP jK.partial_correctness fun _ _⟨_,_,_,_,_⟩=>gW
instance oJ(os qk es):ze (yg os qk es) (fun r=>O.call 3 [vv os,vv qk,vv es] []=some (zt r,[])):=⟨by unfold yg;exact gW⟩
end Go.Proofs.YtmllebdamdnhoaaGreat
