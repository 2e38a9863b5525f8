/-
  What the machine's calls come to: the plain functions.
-/
import Derived.Test.YtmllebdamdnhoaaGreatAah
set_option linter.unusedSimpArgs false
set_option linter.unusedVariables false
set_option maxRecDepth 100000
namespace Go.Proofs.YtmllebdamdnhoaaGreat
open Go Go.Gm
set_option maxHeartbeats 4000000
instance(x i b):ze (bF x i b) (fun r=>O.call 374 [AV.ptr 0 0,vv x,qm i] [(0,bb b)]=some (AV.xS [qm r.1,zt r.2],[(0,bb b)])):=⟨by unfold bF;exact gW⟩
@[go_sem] def mh:((Int×(Sl ql)×Bool×qf)⊕(qf))->Ex×St
 | .inl y=>(Ex.ret,⟨[(8,qm y.1),(9,vv y.2.1),(10,zt y.2.2.1)],[(0,bb y.2.2.2)],1⟩)
 | .inr y=>(Ex.normal,⟨[(8,AV.undef),(9,AV.undef),(10,AV.undef)],[(0,bb y)],1⟩)
theorem uW:(∀ p r,qV p=some r->match p with|(k,i,parts,b)=>O.call 348 [AV.ptr 0 0,AV.pv (qe.rP k),qm i,vv parts] [(0,bb b)]=some (AV.xS [qm r.1,vv r.2.1,zt r.2.2.1],[(0,bb r.2.2.2)]))/\(∀ p r,yY p=some r->match p with|(k,i,parts,b)=>O.call 364 [AV.ptr 0 0,AV.pv (qe.rP k),qm i,vv parts] [(0,bb b)]=some (AV.xS [qm r.1,vv r.2.1,zt r.2.2.1],[(0,bb r.2.2.2)]))/\(∀ p r,k8 p=some r->match p with|(k,i,parts,g,j,r_)=>O.loop 348 3 ⟨[(0,AV.ptr 0 0),(1,AV.pv (qe.rP k)),(2,qm i),(3,vv parts),(15,qm g),(16,qm j)],[(0,bb r_)],1⟩=some (mh r))/\(∀ p r,jF p=some r->match p with|(k,i,parts,b)=>O.call 363 [AV.ptr 0 0,AV.pv (qe.rP k),qm i,vv parts] [(0,bb b)]=some (AV.xS [qm r.1,vv r.2.1,zt r.2.2.1],[(0,bb r.2.2.2)]))/\(∀ p r,xj p=some r->match p with|(k,i,parts,b)=>O.call 373 [AV.ptr 0 0,AV.pv (qe.rP k),qm i,vv parts] [(0,bb b)]=some (AV.xS [qm r.1,vv r.2.1,zt r.2.2.1],[(0,bb r.2.2.2)])):=by
 refine qV.mutual_partial_correctness _ _ _ _ _ ?_ ?_ ?_ ?_ ?_
 ·intro qV yY k8 jF G8 i163 Et i158;have j157:=fun p=>ze.mk (G8 p);clear G8;have j163:=fun p=>ze.mk (i163 p);clear i163;have j162:=fun p=>ze.mk (Et p);clear Et;have j158:=fun p=>ze.mk (i158 p);clear i158;rintro⟨_,_,_,_⟩;exact gW
 ·intro qV i;have j157:=fun p=>ze.mk (i p);clear i;rintro⟨_,_,_,_⟩;exact gW
 ·intro qV k8 G8 Et;have j157:=fun p=>ze.mk (G8 p);clear G8;have j162:=fun p=>ze.mk (Et p);clear Et;rintro⟨_,_,_,_,_,_⟩;exact gW
 ·intro qV xj G8 i159;have j157:=fun p=>ze.mk (G8 p);clear G8;have j159:=fun p=>ze.mk (i159 p);clear i159;rintro⟨_,_,_,_⟩;exact gW
 intro qV i;have j157:=fun p=>ze.mk (i p);clear i;rintro⟨_,_,_,_⟩;exact gW
instance(p):ze (qV p) (fun r=>match p with|(k,i,parts,b)=>O.call 348 [AV.ptr 0 0,AV.pv (qe.rP k),qm i,vv parts] [(0,bb b)]=some (AV.xS [qm r.1,vv r.2.1,zt r.2.2.1],[(0,bb r.2.2.2)])):=⟨fun r=>uW.1 p r⟩
instance(p):ze (yY p) (fun r=>match p with|(k,i,parts,b)=>O.call 364 [AV.ptr 0 0,AV.pv (qe.rP k),qm i,vv parts] [(0,bb b)]=some (AV.xS [qm r.1,vv r.2.1,zt r.2.2.1],[(0,bb r.2.2.2)])):=⟨fun r=>uW.2.1 p r⟩
instance(p):ze (k8 p) (fun r=>match p with|(k,i,parts,g,j,r_)=>O.loop 348 3 ⟨[(0,AV.ptr 0 0),(1,AV.pv (qe.rP k)),(2,qm i),(3,vv parts),(15,qm g),(16,qm j)],[(0,bb r_)],1⟩=some (mh r)):=⟨fun r=>uW.2.2.1 p r⟩
instance(p):ze (jF p) (fun r=>match p with|(k,i,parts,b)=>O.call 363 [AV.ptr 0 0,AV.pv (qe.rP k),qm i,vv parts] [(0,bb b)]=some (AV.xS [qm r.1,vv r.2.1,zt r.2.2.1],[(0,bb r.2.2.2)])):=⟨fun r=>uW.2.2.2.1 p r⟩
instance(p):ze (xj p) (fun r=>match p with|(k,i,parts,b)=>O.call 373 [AV.ptr 0 0,AV.pv (qe.rP k),qm i,vv parts] [(0,bb b)]=some (AV.xS [qm r.1,vv r.2.1,zt r.2.2.1],[(0,bb r.2.2.2)])):=⟨fun r=>uW.2.2.2.2 p r⟩
instance(x i b):ze (pV x i b) (fun r=>O.call 327 [AV.ptr 0 0,vv x,qm i] [(0,bb b)]=some (AV.xS [vv r.1,zt r.2.1],[(0,bb r.2.2)])):=⟨by unfold pV;exact gW⟩
@[go_sem] def tD (x:qE) (t6:qh):((Bool×qf×qh)⊕(qf))->Ex×St
 | .inl y=>(Ex.ret,⟨[(6,AV.ptr 2 0),(7,zt y.1)],[(0,bb y.2.1),(1,bb x),(2,bb y.2.2)],3⟩)
 | .inr y=>(Ex.normal,⟨[(6,AV.ptr 2 0),(7,AV.undef)],[(0,bb y),(1,bb x),(2,bb t6)],3⟩)
instance:xq wZ fun(i,r_,x,t6) r=>O.loop 300 0 ⟨[(0,AV.ptr 0 0),(2,qm i),(4,AV.ptr 1 0),(6,AV.ptr 2 0)],[(0,bb r_),(1,bb x),(2,bb t6)],3⟩=some (tD x t6 r):=gP wZ.partial_correctness fun _ _⟨_,_,_,_⟩=>gW
instance(x i b):ze (uV x i b) (fun r=>O.call 300 [AV.ptr 0 0,vv x,qm i] [(0,bb b)]=some (AV.xS [vv r.1,zt r.2.1],[(0,bb r.2.2)])):=⟨by unfold uV;exact gW⟩
@[go_sem] def pW (r_:qf):((Int)⊕(Unit))->Ex×St
 | .inl y=>(Ex.ret,⟨[(4,qm y)],[(0,bb r_)],1⟩)
 | .inr y=>(Ex.normal,⟨[(4,AV.undef)],[(0,bb r_)],1⟩)
instance:xq ke fun(qk,i,r_) r=>O.loop 301 0 ⟨[(0,AV.ptr 0 0),(1,qm qk),(5,qm i)],[(0,bb r_)],1⟩=some (pW r_ r):=gP ke.partial_correctness fun _ _⟨_,_,_⟩=>gW
instance(qk b):ze (yZ qk b) (fun r=>O.call 301 [AV.ptr 0 0,qm qk] [(0,bb b)]=some (qm r,[(0,bb b)])):=⟨by unfold yZ;exact gW⟩
@[go_sem] def av (x:qE):(((Sl qh)×Int×Int×qf×(List qh))⊕(qf×(List qh)))->Ex×St
 | .inl y=>(Ex.ret,⟨[(8,vv y.1),(9,qm y.2.1),(10,qm y.2.2.1),(11,AV.ptr 1 0),(12,qp 2 y.2.2.2.2)],[(0,bb x),(1,bb y.2.2.2.1),(2,br y.2.2.2.2)],3⟩)
 | .inr y=>(Ex.normal,⟨[(8,AV.undef),(9,AV.undef),(10,AV.undef),(11,AV.ptr 1 0),(12,qp 2 y.2)],[(0,bb x),(1,bb y.1),(2,br y.2)],3⟩)
instance:xq gM fun(i,x,r_,out) r=>O.loop 262 0 ⟨[(4,AV.ptr 0 0),(11,AV.ptr 1 0),(12,qp 2 out),(13,qm i)],[(0,bb x),(1,bb r_),(2,br out)],3⟩=some (av x r):=gP gM.partial_correctness fun _ _⟨_,_,_,_⟩=>gW
instance(x fold s fuel):ze (au x fold s fuel) (fun r=>O.call 262 [vv x,zt fold,qL s,qm fuel] []=some (AV.xS [vv r.1,qm r.2.1,qm r.2.2],[])):=⟨by unfold au;exact gW⟩
instance:xq uj fun(s,i,f,m,parts) r=>O.loop 264 0 ⟨[(1,qL s),(3,AV.ptr 0 0),(5,AV.ptr 1 0),(7,qp 2 parts),(8,qm i)],[(0,bb f),(1,bb m),(2,bm parts)],3⟩=some (Ex.normal,⟨[(3,AV.ptr 0 0),(7,qp 2 r)],[(0,bb f),(1,bb m),(2,bm r)],3⟩):=gP uj.partial_correctness fun _ _⟨_,_,_,_,_⟩=>gW
instance(c):ze (cW c) (fun r=>O.call 349 [AV.pv (PV.int IntKind.u8 (c.toNat:Int))] []=some (AV.pv (PV.int IntKind.u8 (r.toNat:Int)),[])):=⟨by unfold cW;exact gW⟩
instance:xq bR fun(i,b) r=>O.loop 328 1 ⟨[(6,qp 0 b),(7,qm i)],[(0,bm b)],1⟩=some (Ex.normal,⟨[(6,qp 0 r)],[(0,bm r)],1⟩):=gP bR.partial_correctness fun _ _⟨_,_⟩=>gW
instance(c):ze (ri c) (fun r=>O.call 350 [AV.pv (PV.int IntKind.u8 (c.toNat:Int))] []=some (AV.pv (PV.int IntKind.u8 (r.toNat:Int)),[])):=⟨by unfold ri;exact gW⟩
instance:xq bS fun(i,b) r=>O.loop 328 3 ⟨[(6,qp 0 b),(8,qm i)],[(0,bm b)],1⟩=some (Ex.normal,⟨[(6,qp 0 r)],[(0,bm r)],1⟩):=gP bS.partial_correctness fun _ _⟨_,_⟩=>gW
instance(c):ze (sS c) (fun r=>O.call 375 [AV.pv (PV.int IntKind.u8 (c.toNat:Int))] []=some (zt r,[])):=⟨by unfold sS;exact gW⟩
instance(c):ze (cV c) (fun r=>O.call 365 [AV.pv (PV.int IntKind.u8 (c.toNat:Int))] []=some (zt r,[])):=⟨by unfold cV;exact gW⟩
instance:xq jl fun(s,i,l) r=>O.loop 351 0 ⟨[(0,qL s),(3,qp 0 l),(4,qm i)],[(0,br l)],1⟩=some (Ex.normal,⟨[(3,qp 0 r)],[(0,br r)],1⟩):=gP jl.partial_correctness fun _ _⟨_,_,_⟩=>gW
instance(s):ze (sa s) (fun r=>O.call 351 [qL s] []=some (vv r,[])):=⟨by unfold sa;exact gW⟩
instance:xq vY fun(w7,l,out,i,Xt) r=>O.loop 328 5 ⟨[(1,qm w7),(9,vv l),(10,qL out),(11,qm i)],[(0,bm Xt)],1⟩=some (Ex.normal,⟨[(10,qL r)],[(0,bm Xt)],1⟩):=gP vY.partial_correctness fun _ _⟨_,_,_,_,_⟩=>gW
instance(s w7):ze (rh s w7) (fun r=>O.call 328 [qL s,qm w7] []=some (AV.xS [qL r.1,qm r.2],[])):=⟨by unfold rh;exact gW⟩
instance:xq zh fun(fs,parts,s,i) r=>O.loop 303 0 ⟨[(0,vv fs),(1,vv parts),(5,qL s),(6,qm i)],[],0⟩=some (Ex.normal,⟨[(5,qL r)],[],0⟩):=gP zh.partial_correctness fun _ _⟨_,_,_,_⟩=>gW
instance(fs parts):ze (sb fs parts) (fun r=>O.call 303 [vv fs,vv parts] []=some (qL r,[])):=⟨by unfold sb;exact gW⟩
instance(f s m):ze (ch f s m) (fun r=>O.call 264 [vv f,qL s,vv m] []=some (qL r,[])):=⟨by unfold ch;exact gW⟩
@[go_sem] def cZ (s:qa) (left:Int) (f:zf):((qa×Int×Int×qa×Int)⊕(qa×Int))->Ex×St
 | .inl y=>(Ex.ret,⟨[(1,qL s),(6,qL y.1),(7,qm y.2.1),(8,qm y.2.2.1),(10,qm left),(14,qL y.2.2.2.1),(15,qm y.2.2.2.2)],[(0,bb f)],1⟩)
 | .inr y=>(Ex.normal,⟨[(1,qL s),(6,AV.undef),(7,AV.undef),(8,AV.undef),(10,qm left),(14,qL y.1),(15,qm y.2)],[(0,bb f)],1⟩)
instance:xq yB fun(s,ms,left,out,qk,i,f) r=>O.loop 207 0 ⟨[(1,qL s),(3,AV.ptr 0 0),(9,vv ms),(10,qm left),(14,qL out),(15,qm qk),(16,qm i)],[(0,bb f)],1⟩=some (cZ s left f r):=gP yB.partial_correctness fun _ _⟨_,_,_,_,_,_,_⟩=>gW
instance(m ok_ b):ze (cU m ok_ b) (fun r=>O.call 302 [AV.ptr 0 0,vv m,zt ok_] [(0,bb b)]=some (AV.xS [vv r.1,qm r.2.1,zt r.2.2.1,qm r.2.2.2],[(0,bb b)])):=⟨by unfold cU;exact gW⟩
instance(x fold s qk fuel):ze (cT x fold s qk fuel) (fun r=>O.call 263 [vv x,zt fold,qL s,qm qk,qm fuel] []=some (AV.xS [vv r.1,qm r.2.1,zt r.2.2.1,qm r.2.2.2],[])):=⟨by unfold cT;exact gW⟩
@[go_sem] def sc (s:qa) (left:Int) (f:zf) (oG:qh) (qR:(List qh)) (ms:(List qh)):((qa×Int×Int×qa×Int)⊕(qa×Int))->Ex×St
 | .inl y=>(Ex.ret,⟨[(1,qL s),(6,qL y.1),(7,qm y.2.1),(8,qm y.2.2.1),(10,qm left),(14,qL y.2.2.2.1),(15,qm y.2.2.2.2)],[(0,bb f),(1,bb oG),(2,bm qR),(3,bm ms)],4⟩)
 | .inr y=>(Ex.normal,⟨[(1,qL s),(6,AV.undef),(7,AV.undef),(8,AV.undef),(10,qm left),(14,qL y.1),(15,qm y.2)],[(0,bb f),(1,bb oG),(2,bm qR),(3,bm ms)],4⟩)
instance:xq wc fun(s,left,out,qk,i,f,oG,qR,ms) r=>O.loop 207 0 ⟨[(1,qL s),(3,AV.ptr 0 0),(9,qp 3 ms),(10,qm left),(14,qL out),(15,qm qk),(16,qm i)],[(0,bb f),(1,bb oG),(2,bm qR),(3,bm ms)],4⟩=some (sc s left f oG qR ms r):=gP wc.partial_correctness fun _ _⟨_,_,_,_,_,_,_,_,_⟩=>gW
instance(f s fuel):ze (ui f s fuel) (fun r=>O.call 207 [vv f,qL s,qm fuel] []=some (AV.xS [qL r.1,qm r.2.1,qm r.2.2],[])):=⟨by unfold ui;exact gW⟩
@[go_sem] def ma (DB:qw):((Int×qa×(Sl qx)×(List qc)×(Sl (Sl (Sl Int))))⊕(qa×(Sl qx)×(List qc)×(Sl (Sl (Sl Int)))))->Ex×St
 | .inl y=>(Ex.ret,⟨[(8,qm y.1)],[(0,qC.box [qL y.2.1,vv y.2.2.1,qp 1 y.2.2.2.1,qp 2 y.2.2.2.2.l]),(1,bm y.2.2.2.1),(2,nV [1,1] 1 (ng 1 zX) y.2.2.2.2),(3,bb DB),(4,qC.xf),(5,qC.xf),(6,qC.xf)],7⟩)
 | .inr y=>(Ex.normal,⟨[(8,AV.undef)],[(0,qC.box [qL y.1,vv y.2.1,qp 1 y.2.2.1,qp 2 y.2.2.2.l]),(1,bm y.2.2.1),(2,nV [1,1] 1 (ng 1 zX) y.2.2.2),(3,bb DB),(4,qC.xf),(5,qC.xf),(6,qC.xf)],7⟩)
instance:xq zd fun(i,a,n,t,j,w,w2,zb,qR,DB) r=>O.loop 146 4 ⟨[(0,AV.ptr 0 0),(1,qm i),(2,qm a),(3,qm n),(14,qL t),(15,qm j)],[(0,qC.box [qL w,vv w2,qp 1 zb,qp 2 qR.l]),(1,bm zb),(2,nV [1,1] 1 (ng 1 zX) qR),(3,bb DB),(4,qC.xf),(5,qC.xf),(6,qC.xf)],7⟩=some (ma DB r):=gP zd.partial_correctness fun _ _⟨_,_,_,_,_,_,_,_,_,_⟩=>gW
instance(i a n b b_2 r_ r_2):ze (yM i a n b b_2 r_ r_2) (fun r=>O.call 146 [AV.ptr 0 0,qm i,qm a,qm n] [(0,qC.box [qL b,vv b_2,qp 1 r_,qp 2 r_2.l]),(1,bm r_),(2,nV [1,1] 1 (ng 1 zX) r_2)]=some (qm r.1,[(0,qC.box [qL r.2.1,vv r.2.2.1,qp 1 r.2.2.2.1,qp 2 r.2.2.2.2.l]),(1,bm r.2.2.2.1),(2,nV [1,1] 1 (ng 1 zX) r.2.2.2.2)])):=⟨by unfold yM;exact gW⟩
@[go_sem] def m9 (i:Int) (a:Int):((Int×qa×(Sl qx)×(List qc)×(Sl (Sl (Sl Int))))⊕(qa×(Sl qx)×(List qc)×(Sl (Sl (Sl Int)))))->Ex×St
 | .inl y=>(Ex.ret,⟨[(0,AV.ptr 0 0),(2,qm y.1),(3,qm i),(4,qm a)],[(0,qC.box [qL y.2.1,vv y.2.2.1,qp 1 y.2.2.2.1,qp 2 y.2.2.2.2.l]),(1,bm y.2.2.2.1),(2,nV [1,1] 1 (ng 1 zX) y.2.2.2.2)],3⟩)
 | .inr y=>(Ex.normal,⟨[(0,AV.ptr 0 0),(2,AV.undef),(3,qm i),(4,qm a)],[(0,qC.box [qL y.1,vv y.2.1,qp 1 y.2.2.1,qp 2 y.2.2.2.l]),(1,bm y.2.2.1),(2,nV [1,1] 1 (ng 1 zX) y.2.2.2)],3⟩)
instance:xq jc fun(i,a,ns,k,w,w2,zb,qR) r=>O.loop 99 4 ⟨[(0,AV.ptr 0 0),(3,qm i),(4,qm a),(5,vv ns),(6,qm k)],[(0,qC.box [qL w,vv w2,qp 1 zb,qp 2 qR.l]),(1,bm zb),(2,nV [1,1] 1 (ng 1 zX) qR)],3⟩=some (m9 i a r):=gP jc.partial_correctness fun _ _⟨_,_,_,_,_,_,_,_⟩=>gW
@[go_sem] def nZ (i:Int):((Int×qa×(Sl qx)×(List qc)×(Sl (Sl (Sl Int))))⊕(qa×(Sl qx)×(List qc)×(Sl (Sl (Sl Int)))))->Ex×St
 | .inl y=>(Ex.ret,⟨[(0,AV.ptr 0 0),(2,qm y.1),(3,qm i)],[(0,qC.box [qL y.2.1,vv y.2.2.1,qp 1 y.2.2.2.1,qp 2 y.2.2.2.2.l]),(1,bm y.2.2.2.1),(2,nV [1,1] 1 (ng 1 zX) y.2.2.2.2)],3⟩)
 | .inr y=>(Ex.normal,⟨[(0,AV.ptr 0 0),(2,AV.undef),(3,qm i)],[(0,qC.box [qL y.1,vv y.2.1,qp 1 y.2.2.1,qp 2 y.2.2.2.l]),(1,bm y.2.2.1),(2,nV [1,1] 1 (ng 1 zX) y.2.2.2)],3⟩)
instance:xq jb fun(i,a,w,w2,zb,qR) r=>O.loop 99 2 ⟨[(0,AV.ptr 0 0),(3,qm i),(4,qm a)],[(0,qC.box [qL w,vv w2,qp 1 zb,qp 2 qR.l]),(1,bm zb),(2,nV [1,1] 1 (ng 1 zX) qR)],3⟩=some (nZ i r):=gP jb.partial_correctness fun _ _⟨_,_,_,_,_,_⟩=>gW
@[go_sem] def nY:((Int×qa×(Sl qx)×(List qc)×(Sl (Sl (Sl Int))))⊕(qa×(Sl qx)×(List qc)×(Sl (Sl (Sl Int)))))->Ex×St
 | .inl y=>(Ex.ret,⟨[(2,qm y.1)],[(0,qC.box [qL y.2.1,vv y.2.2.1,qp 1 y.2.2.2.1,qp 2 y.2.2.2.2.l]),(1,bm y.2.2.2.1),(2,nV [1,1] 1 (ng 1 zX) y.2.2.2.2)],3⟩)
 | .inr y=>(Ex.normal,⟨[(2,AV.undef)],[(0,qC.box [qL y.1,vv y.2.1,qp 1 y.2.2.1,qp 2 y.2.2.2.l]),(1,bm y.2.2.1),(2,nV [1,1] 1 (ng 1 zX) y.2.2.2)],3⟩)
instance:xq ja fun(i,w,w2,zb,qR) r=>O.loop 99 0 ⟨[(0,AV.ptr 0 0),(3,qm i)],[(0,qC.box [qL w,vv w2,qp 1 zb,qp 2 qR.l]),(1,bm zb),(2,nV [1,1] 1 (ng 1 zX) qR)],3⟩=some (nY r):=gP ja.partial_correctness fun _ _⟨_,_,_,_,_⟩=>gW
instance(b b_2 r_ r_2):ze (wo b b_2 r_ r_2) (fun r=>O.call 99 [AV.ptr 0 0] [(0,qC.box [qL b,vv b_2,qp 1 r_,qp 2 r_2.l]),(1,bm r_),(2,nV [1,1] 1 (ng 1 zX) r_2)]=some (qm r.1,[(0,qC.box [qL r.2.1,vv r.2.2.1,qp 1 r.2.2.2.1,qp 2 r.2.2.2.2.l]),(1,bm r.2.2.2.1),(2,nV [1,1] 1 (ng 1 zX) r.2.2.2.2)])):=⟨by unfold wo;exact gW⟩
instance:xq xk fun(i,a,w,w2,zb,qR,s,is) r=>O.loop 100 2 ⟨[(0,AV.ptr 0 0),(2,qm i),(3,AV.ptr 3 0),(4,qp 4 is),(5,qm a)],[(0,qC.box [qL w,vv w2,qp 1 zb,qp 2 qR.l]),(1,bm zb),(2,nV [1,1] 1 (ng 1 zX) qR),(3,bb s),(4,br is)],5⟩=some (Ex.normal,⟨[(0,AV.ptr 0 0),(2,qm i),(3,AV.ptr 3 0),(4,qp 4 r)],[(0,qC.box [qL w,vv w2,qp 1 zb,qp 2 qR.l]),(1,bm zb),(2,nV [1,1] 1 (ng 1 zX) qR),(3,bb s),(4,br r)],5⟩):=gP xk.partial_correctness fun _ _⟨_,_,_,_,_,_,_,_⟩=>gW
@[go_sem] def mC (w:qa) (w2:(Sl qx)) (qR:(Sl (Sl (Sl Int)))):((qc×(List qc))⊕((List qc)))->Ex×St
 | .inl y=>(Ex.ret,⟨[],[(0,qC.box [qL w,vv w2,qp 5 y.2,qp 2 qR.l]),(1,qC.xf),(2,nV [1,1] 1 (ng 1 zX) qR),(3,bb y.1),(4,qC.xf),(5,bm y.2)],6⟩)
 | .inr y=>(Ex.normal,⟨[],[(0,qC.box [qL w,vv w2,qp 1 y,qp 2 qR.l]),(1,bm y),(2,nV [1,1] 1 (ng 1 zX) qR)],3⟩)
instance:xq jq fun(i,w,w2,zb,qR) r=>O.loop 100 0 ⟨[(0,AV.ptr 0 0),(2,qm i)],[(0,qC.box [qL w,vv w2,qp 1 zb,qp 2 qR.l]),(1,bm zb),(2,nV [1,1] 1 (ng 1 zX) qR)],3⟩=some (mC w w2 qR r):=gP jq.partial_correctness fun _ _⟨_,_,_,_,_⟩=>gW
@[go_sem] def tH (b:qa) (b_2:(Sl qx)) (r_2:(Sl (Sl (Sl Int)))):(((List qc))⊕((List qc)))->AV×qn
 | .inl y=>(AV.xS [],[(0,qC.box [qL b,vv b_2,qp 3 y,qp 2 r_2.l]),(1,qC.xf),(2,nV [1,1] 1 (ng 1 zX) r_2),(3,bm y)])
 | .inr y=>(AV.xS [],[(0,qC.box [qL b,vv b_2,qp 1 y,qp 2 r_2.l]),(1,bm y),(2,nV [1,1] 1 (ng 1 zX) r_2)])
instance(b b_2 r_ r_2):ze (vg b b_2 r_ r_2) (fun r=>O.call 100 [AV.ptr 0 0] [(0,qC.box [qL b,vv b_2,qp 1 r_,qp 2 r_2.l]),(1,bm r_),(2,nV [1,1] 1 (ng 1 zX) r_2)]=some (tH b b_2 r_2 r)):=⟨by unfold vg;exact gW⟩
instance(st es):ze (t7 st es) (fun r=>O.call 56 [vv st,vv es] []=some (AV.xS [vv r.1,qm r.2],[])):=⟨by unfold t7;exact gW⟩
instance(w7):ze (cm w7) (fun r=>O.call 208 [qm w7] []=some (zt r,[])):=⟨by unfold cm;exact gW⟩
instance:xq kN fun(s,i,t2,t) r=>O.loop 167 0 ⟨[(0,qL s),(2,AV.ptr 0 0),(3,AV.ptr 1 0),(4,qm i)],[(0,bb t2),(1,bb t)],2⟩=some (Ex.normal,⟨[(2,AV.ptr 0 0),(3,AV.ptr 1 0)],[(0,bb t2),(1,bb r)],2⟩):=gP kN.partial_correctness fun _ _⟨_,_,_,_⟩=>gW
instance(s):ze (eB s) (fun r=>O.call 167 [qL s] []=some (vv r,[])):=⟨by unfold eB;exact gW⟩
instance(s off):ze (sT s off) (fun r=>O.call 112 [qL s,qm off] []=some (AV.xS [qm r.1,qm r.2],[])):=⟨by unfold sT;exact gW⟩
instance:xq wP fun(s,i,l) r=>O.loop 211 0 ⟨[(0,qL s),(3,qp 0 l),(4,qm i)],[(0,bm l)],1⟩=some (Ex.normal,⟨[(3,qp 0 r)],[(0,bm r)],1⟩):=gP wP.partial_correctness fun _ _⟨_,_,_⟩=>gW
instance(s):ze (nD s) (fun r=>O.call 211 [qL s] []=some (vv r,[])):=⟨by unfold nD;exact gW⟩
instance(s line):ze (yQ s line) (fun r=>O.call 150 [qL s,qm line] []=some (AV.xS [qm r.1,qm r.2],[])):=⟨by unfold yQ;exact gW⟩
instance(t w7):ze (uT t w7) (fun r=>O.call 209 [vv t,qm w7] []=some (qm r,[])):=⟨by unfold uT;exact gW⟩
instance(s off w7):ze (dm s off w7) (fun r=>O.call 147 [qL s,qm off,qm w7] []=some (AV.xS [qm r.1,qm r.2.1,qm r.2.2],[])):=⟨by unfold dm;exact gW⟩
instance:xq vR fun(s,qk) r=>O.loop 148 0 ⟨[(0,qL s),(1,qm qk)],[],0⟩=some (Ex.normal,⟨[(1,qm r)],[],0⟩):=gP vR.partial_correctness fun _ _⟨_,_⟩=>gW
instance(s qk):ze (aM s qk) (fun r=>O.call 148 [qL s,qm qk] []=some (qm r,[])):=⟨by unfold aM;exact gW⟩
instance:xq wG fun(s,qk) r=>O.loop 149 0 ⟨[(0,qL s),(1,qm qk)],[],0⟩=some (Ex.normal,⟨[(0,qL s),(1,qm r)],[],0⟩):=gP wG.partial_correctness fun _ _⟨_,_⟩=>gW
instance(s qk):ze (dw s qk) (fun r=>O.call 149 [qL s,qm qk] []=some (qm r,[])):=⟨by unfold dw;exact gW⟩
instance(s line):ze (tg s line) (fun r=>O.call 151 [qL s,qm line] []=some (AV.xS [qm r.1,qm r.2],[])):=⟨by unfold tg;exact gW⟩
@[go_sem] def aH (s:qa):((Int)⊕(Unit))->Ex×St
 | .inl y=>(Ex.ret,⟨[(0,qL s),(6,qm y)],[],0⟩)
 | .inr y=>(Ex.normal,⟨[(0,qL s),(6,AV.undef)],[],0⟩)
instance:xq gX fun(s,w7,n,many,k) r=>O.loop 212 0 ⟨[(0,qL s),(1,qm w7),(2,qm n),(7,qm many),(8,qm k)],[],0⟩=some (aH s r):=gP gX.partial_correctness fun _ _⟨_,_,_,_,_⟩=>gW
instance(s w7 n):ze (aG s w7 n) (fun r=>O.call 212 [qL s,qm w7,qm n] []=some (qm r,[])):=⟨by unfold aG;exact gW⟩
instance(s line col w7):ze (py s line col w7) (fun r=>O.call 152 [qL s,qm line,qm col,qm w7] []=some (AV.xS [qm r.1,qm r.2],[])):=⟨by unfold py;exact gW⟩
instance(s):ze (oo s) (fun r=>O.call 153 [qL s] []=some (qm r,[])):=⟨by unfold oo;exact gW⟩
theorem U8{c r}(h:yo c=some r):O.call 154 [AV.pv (PV.int IntKind.u8 (c.toNat:Int))] []=some (zt r,[]):=by
 revert h;unfold yo;refine Xo ?_ ?_
 ·rintro(⟨h1,h2,QL,XD,KF,JD,JE⟩|⟨h1,h2,QL,XD,KF,JD,JE⟩|⟨h1,h2,QL,XD,KF,JD,JE⟩|⟨h1,h2,QL,XD,KF,JD,JE⟩|⟨h1,h2,QL,XD,KF,JD,JE⟩|⟨h1,h2,QL,XD,KF,JD,JE⟩|⟨h1,h2,QL,XD,KF,JD,JE⟩|⟨h1,h2,QL,XD,KF,JD,JE⟩|⟨h1,h2,QL,XD,KF,JD,JE⟩|⟨h1,h2,QL,XD,KF,JD,JE⟩|⟨h1,h2,QL,XD,KF,JD,JE⟩|⟨h1,h2,QL,XD,KF,JD,JE⟩|⟨h1,h2,QL,XD,KF,JD,JE⟩|⟨h1,h2,QL,XD,KF,JD,JE⟩|⟨h1,h2,QL,XD,KF,JD,JE⟩);all_goals
  rintro⟨⟩;exact fF fn154.h
 rintro(⟨h1,h2,QL,XD,KF,JD,JE⟩|⟨h1,h2,QL,XD,KF,JD,JE⟩|⟨h1,h2,QL,XD,KF,JD,JE⟩|⟨h1,h2,QL,XD,KF,JD,JE⟩|⟨h1,h2,QL,XD,KF,JD,JE⟩|⟨h1,h2,QL,XD,KF,JD,JE⟩|⟨h1,h2,QL,XD,KF,JD,JE⟩|⟨h1,h2,QL,XD,KF,JD,JE⟩);all_goals
 rintro⟨⟩;exact fF fn154.h
instance(c:UInt8):ze (yo c) (fun r=>O.call 154 [AV.pv (PV.int IntKind.u8 (c.toNat:Int))] []=some (zt r,[])):=⟨fun r=>U8 (r:=r)⟩
instance:xq bk fun(s,qk) r=>O.loop 102 5 ⟨[(0,qL s),(1,qm qk)],[],0⟩=some (Ex.normal,⟨[(0,qL s),(1,qm r)],[],0⟩):=gP bk.partial_correctness fun _ _⟨_,_⟩=>gW
instance:xq bo fun(s,qk) r=>O.loop 102 7 ⟨[(0,qL s),(1,qm qk)],[],0⟩=some (Ex.normal,⟨[(1,qm r)],[],0⟩):=gP bo.partial_correctness fun _ _⟨_,_⟩=>gW
instance:xq bh fun(s,qk) r=>O.loop 102 1 ⟨[(0,qL s),(1,qm qk)],[],0⟩=some (Ex.normal,⟨[(0,qL s),(1,qm r)],[],0⟩):=gP bh.partial_correctness fun _ _⟨_,_⟩=>gW
instance:xq bj fun(s,qk) r=>O.loop 102 3 ⟨[(0,qL s),(1,qm qk)],[],0⟩=some (Ex.normal,⟨[(1,qm r)],[],0⟩):=gP bj.partial_correctness fun _ _⟨_,_⟩=>gW
instance(s qk w7):ze (rq s qk w7) (fun r=>O.call 102 [qL s,qm qk,qm w7] []=some (AV.xS [qm r.1,qm r.2],[])):=⟨by unfold rq;exact gW⟩
instance:xq zW fun(s,l,dQ,i,sp) r=>O.loop 58 0 ⟨[(0,qL s),(1,vv l),(2,zt dQ),(7,qp 0 sp),(8,qm i)],[(0,br sp)],1⟩=some (Ex.normal,⟨[(7,qp 0 r)],[(0,br r)],1⟩):=gP zW.partial_correctness fun _ _⟨_,_,_,_,_⟩=>gW
instance:xq jW fun(s,i,out) r=>O.loop 103 0 ⟨[(3,vv s),(4,qp 0 out),(5,qm i)],[(0,br out)],1⟩=some (Ex.normal,⟨[(4,qp 0 r)],[(0,br r)],1⟩):=gP jW.partial_correctness fun _ _⟨_,_,_⟩=>gW
instance(l):ze (dp l) (fun r=>O.call 103 [vv l] []=some (vv r,[])):=⟨by unfold dp;exact gW⟩
instance:xq vt fun(u,i,es) r=>O.loop 58 2 ⟨[(14,vv u),(15,qp 1 es),(16,qm i)],[(0,qC.xf),(1,br es)],2⟩=some (Ex.normal,⟨[(15,qp 1 r)],[(0,qC.xf),(1,br r)],2⟩):=gP vt.partial_correctness fun _ _⟨_,_,_⟩=>gW
instance(s l dQ):ze (pR s l dQ) (fun r=>O.call 58 [qL s,vv l,zt dQ] []=some (vv r,[])):=⟨by unfold pR;exact gW⟩
instance:xq wt fun(s,w7,extend,l,i,out) r=>O.loop 60 0 ⟨[(0,qL s),(1,qm w7),(2,zt extend),(10,vv l),(12,qp 0 out),(13,qm i)],[(0,br out)],1⟩=some (Ex.normal,⟨[(0,qL s),(12,qp 0 r)],[(0,br r)],1⟩):=gP wt.partial_correctness fun _ _⟨_,_,_,_,_,_⟩=>gW
instance(s w7 extend ss):ze (QC s w7 extend ss) (fun r=>O.call 60 [qL s,qm w7,zt extend,vv ss] []=some (AV.xS [vv r.1,qm r.2],[])):=⟨by unfold QC;exact gW⟩
instance:xq u7 fun(s,qk,n,end_) r=>O.loop 213 0 ⟨[(0,qL s),(1,qm qk),(7,qm n),(8,qm end_)],[],0⟩=some (Ex.normal,⟨[(0,qL s),(1,qm qk),(7,qm r.1),(8,qm r.2)],[],0⟩):=gP u7.partial_correctness fun _ _⟨_,_,_,_⟩=>gW
instance(s qk):ze (gN s qk) (fun r=>O.call 213 [qL s,qm qk] []=some (AV.xS [qm r.1,qm r.2.1,zt r.2.2],[])):=⟨by unfold gN;exact gW⟩
instance:xq xK fun(qk,end_,r_,zb,qR) r=>O.loop 214 0 ⟨[(0,AV.ptr 0 0),(1,qm qk),(7,qm end_)],[(0,qC.box [qL r_,qp 1 zb,qp 2 qR]),(1,bm zb),(2,bm qR)],3⟩=some (Ex.normal,⟨[(0,AV.ptr 0 0),(1,qm qk),(7,qm r)],[(0,qC.box [qL r_,qp 1 zb,qp 2 qR]),(1,bm zb),(2,bm qR)],3⟩):=gP xK.partial_correctness fun _ _⟨_,_,_,_,_⟩=>gW
instance(qk b r_ r_2):ze (um qk b r_ r_2) (fun r=>O.call 214 [AV.ptr 0 0,qm qk] [(0,qC.box [qL b,qp 1 r_,qp 2 r_2]),(1,bm r_),(2,bm r_2)]=some (AV.xS [qL r.1,qm r.2.1,zt r.2.2],[(0,qC.box [qL b,qp 1 r_,qp 2 r_2]),(1,bm r_),(2,bm r_2)])):=⟨by unfold um;exact gW⟩
instance(qk b r_ r_2):ze (ve qk b r_ r_2) (fun r=>O.call 159 [AV.ptr 0 0,qm qk] [(0,qC.box [qL b,qp 1 r_,qp 2 r_2]),(1,bm r_),(2,bm r_2)]=some (AV.xS [vv r.1,qm r.2.1,zt r.2.2],[(0,qC.box [qL b,qp 1 r_,qp 2 r_2]),(1,bm r_),(2,bm r_2)])):=⟨by unfold ve;exact gW⟩
instance(s qk opt):ze (mQ s qk opt) (fun r=>O.call 162 [qL s,qm qk,zt opt] []=some (zt r,[])):=⟨by unfold mQ;exact gW⟩
instance:xq za fun(qk,mf,r_,zb,qR,l,text) r=>O.loop 107 0 ⟨[(0,AV.ptr 0 0),(1,qm qk),(2,zt mf),(8,qp 3 l),(9,qp 4 text)],[(0,qC.box [qL r_,qp 1 zb,qp 2 qR]),(1,bm zb),(2,bm qR),(3,br l),(4,br text)],5⟩=some (Ex.normal,⟨[(0,AV.ptr 0 0),(1,qm r.1),(2,zt mf),(8,qp 3 r.2.1),(9,qp 4 r.2.2)],[(0,qC.box [qL r_,qp 1 zb,qp 2 qR]),(1,bm zb),(2,bm qR),(3,br r.2.1),(4,br r.2.2)],5⟩):=gP za.partial_correctness fun _ _⟨_,_,_,_,_,_,_⟩=>gW
instance:xq jx fun(l,i,out) r=>O.loop 163 0 ⟨[(0,vv l),(3,qp 0 out),(4,qm i)],[(0,br out)],1⟩=some (Ex.normal,⟨[(3,qp 0 r)],[(0,br r)],1⟩):=gP jx.partial_correctness fun _ _⟨_,_,_⟩=>gW
instance(l):ze (d5 l) (fun r=>O.call 163 [vv l] []=some (vv r,[])):=⟨by unfold d5;exact gW⟩
instance(qk mf b r_ r_2):ze (wd qk mf b r_ r_2) (fun r=>O.call 107 [AV.ptr 0 0,qm qk,zt mf] [(0,qC.box [qL b,qp 1 r_,qp 2 r_2]),(1,bm r_),(2,bm r_2)]=some (AV.xS [vv r.1,qm r.2],[(0,qC.box [qL b,qp 1 r_,qp 2 r_2]),(1,bm r_),(2,bm r_2)])):=⟨by unfold wd;exact gW⟩
instance:xq wJ fun(s,k,t4,b) r=>O.loop 160 0 ⟨[(0,qL s),(4,AV.ptr 0 0),(7,qp 1 b),(8,qm k)],[(0,bb t4),(1,br b)],2⟩=some (Ex.normal,⟨[(0,qL s),(4,AV.ptr 0 0),(7,qp 1 r.2),(8,qm r.1)],[(0,bb t4),(1,br r.2)],2⟩):=gP wJ.partial_correctness fun _ _⟨_,_,_,_⟩=>gW
instance(b):ze (zU b) (fun r=>O.call 304 [AV.ptr 0 0] [(0,bb b)]=some (qL r,[(0,bb b)])):=⟨by unfold zU;exact gW⟩
instance(c b):ze (qH c b) (fun r=>O.call 307 [AV.ptr 0 0,qL c] [(0,bb b)]=some (zt r.1,[(0,bb r.2)])):=⟨by unfold qH;exact gW⟩
instance(c):ze (pf c) (fun r=>O.call 369 [AV.pv (PV.int IntKind.u8 (c.toNat:Int))] []=some (AV.xS [vv r.1,zt r.2],[])):=⟨by unfold pf;exact gW⟩
instance(c):ze (wA c) (fun r=>O.call 370 [qL c] []=some (AV.xS [qL r.1,zt r.2],[])):=⟨by unfold wA;exact gW⟩
instance(b):ze (wX b) (fun r=>O.call 366 [AV.ptr 0 0] [(0,bb b)]=some (AV.xS [vv r.1,qL r.2.1,zt r.2.2.1],[(0,bb r.2.2.2)])):=⟨by unfold wX;exact gW⟩
@[go_sem] def nX (t2:qE) (x:qE):((Int×qd×qE×(List qT))⊕(qd×(List qT)))->Ex×St
 | .inl y=>(Ex.ret,⟨[(2,AV.ptr 1 0),(3,qm y.1),(4,AV.ptr 2 0),(5,qp 3 y.2.2.2)],[(0,bb y.2.1),(1,bb y.2.2.1),(2,bb x),(3,br y.2.2.2)],4⟩)
 | .inr y=>(Ex.normal,⟨[(2,AV.ptr 1 0),(3,AV.undef),(4,AV.ptr 2 0),(5,qp 3 y.2)],[(0,bb y.1),(1,bb t2),(2,bb x),(3,br y.2)],4⟩)
instance:xq zo fun(r_,t2,x,rows) r=>O.loop 352 0 ⟨[(0,AV.ptr 0 0),(2,AV.ptr 1 0),(4,AV.ptr 2 0),(5,qp 3 rows)],[(0,bb r_),(1,bb t2),(2,bb x),(3,br rows)],4⟩=some (nX t2 x r):=gP zo.partial_correctness fun _ _⟨_,_,_,_⟩=>gW
instance:xq yx fun(rows,s,i,k,r_) r=>O.loop 367 2 ⟨[(0,vv rows),(3,vv s),(4,qm i),(5,AV.ptr 0 0),(6,qm k)],[(0,bb r_)],1⟩=some (Ex.normal,⟨[(0,vv rows),(3,vv s),(4,qm i),(5,AV.ptr 0 0),(6,qm r)],[(0,bb r_)],1⟩):=gP yx.partial_correctness fun _ _⟨_,_,_,_,_⟩=>gW
instance:xq kC fun(rows,s,i) r=>O.loop 367 0 ⟨[(0,vv rows),(3,vv s),(4,qm i)],[],0⟩=some (Ex.normal,⟨[(3,vv r)],[],0⟩):=gP kC.partial_correctness fun _ _⟨_,_,_⟩=>gW
instance:xq kD fun(s,i,out) r=>O.loop 367 4 ⟨[(3,vv s),(7,qp 0 out),(8,qm i)],[(0,br out)],1⟩=some (Ex.normal,⟨[(7,qp 0 r)],[(0,br r)],1⟩):=gP kD.partial_correctness fun _ _⟨_,_,_⟩=>gW
instance(rows):ze (s9 rows) (fun r=>O.call 367 [vv rows] []=some (vv r,[])):=⟨by unfold s9;exact gW⟩
instance(b):ze (yz b) (fun r=>O.call 352 [AV.ptr 0 0] [(0,bb b)]=some (AV.xS [vv r.1,qm r.2.1],[(0,bb r.2.2)])):=⟨by unfold yz;exact gW⟩
instance(b):ze (ug b) (fun r=>O.call 353 [AV.ptr 0 0] [(0,bb b)]=some (AV.xS [vv r.1,qm r.2.1],[(0,bb r.2.2)])):=⟨by unfold ug;exact gW⟩
instance:xq jD fun(n,many,r_) r=>O.loop 354 0 ⟨[(0,AV.ptr 0 0),(4,qm n),(5,qm many)],[(0,bb r_)],1⟩=some (Ex.normal,⟨[(4,qm r.1),(5,qm r.2.1)],[(0,bb r.2.2)],1⟩):=gP jD.partial_correctness fun _ _⟨_,_,_⟩=>gW
instance(b):ze (kO b) (fun r=>O.call 354 [AV.ptr 0 0] [(0,bb b)]=some (AV.xS [qm r.1,zt r.2.1],[(0,bb r.2.2)])):=⟨by unfold kO;exact gW⟩
instance(x b):ze (kc x b) (fun r=>O.call 330 [AV.ptr 0 0,vv x] [(0,bb b)]=some (AV.xS [vv r.1,qm r.2.1],[(0,bb r.2.2)])):=⟨by unfold kc;exact gW⟩
instance:xq wz fun(kind,xs,i,l) r=>O.loop 331 0 ⟨[(0,qm kind),(1,vv xs),(5,qp 0 l),(6,qm i)],[(0,br l)],1⟩=some (Ex.normal,⟨[(5,qp 0 r)],[(0,br r)],1⟩):=gP wz.partial_correctness fun _ _⟨_,_,_,_⟩=>gW
instance(kind xs):ze (rb kind xs) (fun r=>O.call 331 [qm kind,vv xs] []=some (vv r,[])):=⟨by unfold rb;exact gW⟩
instance(xs):ze (an xs) (fun r=>O.call 306 [vv xs] []=some (vv r,[])):=⟨by unfold an;exact gW⟩
instance(xs):ze (aj xs) (fun r=>O.call 308 [vv xs] []=some (vv r,[])):=⟨by unfold aj;exact gW⟩
@[go_sem] def vP:((Int×qd×qE×(List qE))⊕(Int×qd×qE))->Ex×St
 | .inl y=>(Ex.ret,⟨[(4,AV.ptr 1 0),(5,qm y.1)],[(0,bb y.2.1),(1,bb y.2.2.1),(2,br y.2.2.2)],3⟩)
 | .inr y=>(Ex.ret,⟨[(4,AV.ptr 1 0),(5,qm y.1)],[(0,bb y.2.1),(1,bb y.2.2),(2,qC.xf)],3⟩)
@[go_sem] def vQ (deep:Int) (t4:qE) (alts:(List qE)):((Int×qd×qE×(List qE))⊕(qd×(List qE)))->Ex×St
 | .inl y=>(Ex.ret,⟨[(0,AV.ptr 0 0),(1,qm deep),(4,AV.ptr 1 0),(5,qm y.1),(6,qp 2 alts),(7,qp 3 y.2.2.2)],[(0,bb y.2.1),(1,bb y.2.2.1),(2,br alts),(3,br y.2.2.2)],4⟩)
 | .inr y=>(Ex.normal,⟨[(0,AV.ptr 0 0),(1,qm deep),(4,AV.ptr 1 0),(5,AV.undef),(6,qp 2 alts),(7,qp 3 y.2)],[(0,bb y.1),(1,bb t4),(2,br alts),(3,br y.2)],4⟩)
theorem jV:(∀ p r,zw p=some r->match p with|(deep,b)=>O.call 266 [AV.ptr 0 0,qm deep] [(0,bb b)]=some (AV.xS [vv r.1,qm r.2.1],[(0,bb r.2.2)]))/\(∀ p r,zZ p=some r->match p with|(deep,r_,t4,alts)=>O.loop 266 0 ⟨[(0,AV.ptr 0 0),(1,qm deep),(4,AV.ptr 1 0),(6,qp 2 alts)],[(0,bb r_),(1,bb t4),(2,br alts)],3⟩=some (vP r))/\(∀ p r,xb p=some r->match p with|(deep,r_,t4,alts,tJ)=>O.loop 266 2 ⟨[(0,AV.ptr 0 0),(1,qm deep),(4,AV.ptr 1 0),(6,qp 2 alts),(7,qp 3 tJ)],[(0,bb r_),(1,bb t4),(2,br alts),(3,br tJ)],4⟩=some (vQ deep t4 alts r))/\(∀ p r,wY p=some r->match p with|(deep,b)=>O.call 305 [AV.ptr 0 0,qm deep] [(0,bb b)]=some (AV.xS [vv r.1,qm r.2.1],[(0,bb r.2.2)]))/\(∀ p r,jR p=some r->match p with|(deep,b)=>O.call 329 [AV.ptr 0 0,qm deep] [(0,bb b)]=some (AV.xS [vv r.1,qm r.2.1],[(0,bb r.2.2)])):=by
 refine zw.mutual_partial_correctness _ _ _ _ _ ?_ ?_ ?_ ?_ ?_
 ·intro zZ i;have j244:=fun p=>ze.mk (i p);clear i;rintro⟨_,_⟩;exact gW
 ·intro zZ xb i244 Eu;have j244:=fun p=>ze.mk (i244 p);clear i244;have j245:=fun p=>ze.mk (Eu p);clear Eu;rintro⟨_,_,_,_⟩;exact gW
 ·intro xb wY Eu i247;have j245:=fun p=>ze.mk (Eu p);clear Eu;have j247:=fun p=>ze.mk (i247 p);clear i247;rintro⟨_,_,_,_,_⟩;exact gW
 ·intro jR i;have j249:=fun p=>ze.mk (i p);clear i;rintro⟨_,_⟩;exact gW
 intro zw i;have j243:=fun p=>ze.mk (i p);clear i;rintro⟨_,_⟩;exact gW
instance(p):ze (zw p) (fun r=>match p with|(deep,b)=>O.call 266 [AV.ptr 0 0,qm deep] [(0,bb b)]=some (AV.xS [vv r.1,qm r.2.1],[(0,bb r.2.2)])):=⟨fun r=>jV.1 p r⟩
instance(p):ze (zZ p) (fun r=>match p with|(deep,r_,t4,alts)=>O.loop 266 0 ⟨[(0,AV.ptr 0 0),(1,qm deep),(4,AV.ptr 1 0),(6,qp 2 alts)],[(0,bb r_),(1,bb t4),(2,br alts)],3⟩=some (vP r)):=⟨fun r=>jV.2.1 p r⟩
instance(p):ze (xb p) (fun r=>match p with|(deep,r_,t4,alts,tJ)=>O.loop 266 2 ⟨[(0,AV.ptr 0 0),(1,qm deep),(4,AV.ptr 1 0),(6,qp 2 alts),(7,qp 3 tJ)],[(0,bb r_),(1,bb t4),(2,br alts),(3,br tJ)],4⟩=some (vQ deep t4 alts r)):=⟨fun r=>jV.2.2.1 p r⟩
instance(p):ze (wY p) (fun r=>match p with|(deep,b)=>O.call 305 [AV.ptr 0 0,qm deep] [(0,bb b)]=some (AV.xS [vv r.1,qm r.2.1],[(0,bb r.2.2)])):=⟨fun r=>jV.2.2.2.1 p r⟩
instance(p):ze (jR p) (fun r=>match p with|(deep,b)=>O.call 329 [AV.ptr 0 0,qm deep] [(0,bb b)]=some (AV.xS [vv r.1,qm r.2.1],[(0,bb r.2.2)])):=⟨fun r=>jV.2.2.2.2 p r⟩
instance(s):ze (cR s) (fun r=>O.call 215 [qL s] []=some (AV.xS [vv r.1,qm r.2],[])):=⟨by unfold cR;exact gW⟩
@[go_sem] def dW (t4:zl) (f:zl):((Int×Bool×zl×zl)⊕(Unit))->Ex×St
 | .inl y=>(Ex.ret,⟨[(4,AV.ptr 0 0),(5,qm y.1),(6,zt y.2.1)],[(0,bb y.2.2.1),(1,bb y.2.2.2)],2⟩)
 | .inr y=>(Ex.normal,⟨[(4,AV.ptr 0 0),(5,AV.undef),(6,AV.undef)],[(0,bb t4),(1,bb f)],2⟩)
instance:xq uE fun(s,end_,w,t4,f) r=>O.loop 267 1 ⟨[(0,qL s),(4,AV.ptr 0 0),(8,qm end_),(10,AV.ptr 1 0),(11,qm w)],[(0,bb t4),(1,bb f)],2⟩=some (dW t4 f r):=gP uE.partial_correctness fun _ _⟨_,_,_,_,_⟩=>gW
instance(s qk colon):ze (mP s qk colon) (fun r=>O.call 268 [qL s,qm qk,zt colon] []=some (zt r,[])):=⟨by unfold mP;exact gW⟩
instance:xq yA fun(s,qk,stop,b) r=>O.loop 310 0 ⟨[(0,qL s),(1,qm qk),(2,AV.pv (PV.int IntKind.u8 (stop.toNat:Int))),(9,qp 0 b)],[(0,br b)],1⟩=some (Ex.normal,⟨[(0,qL s),(1,qm r.1),(9,qp 0 r.2)],[(0,br r.2)],1⟩):=gP yA.partial_correctness fun _ _⟨_,_,_,_⟩=>gW
instance(s qk stop):ze (uh s qk stop) (fun r=>O.call 310 [qL s,qm qk,AV.pv (PV.int IntKind.u8 (stop.toNat:Int))] []=some (AV.xS [qL r.1,qm r.2.1,zt r.2.2],[])):=⟨by unfold uh;exact gW⟩
instance(s qk):ze (cY s qk) (fun r=>O.call 267 [qL s,qm qk] []=some (AV.xS [vv r.1,qm r.2.1,zt r.2.2],[])):=⟨by unfold cY;exact gW⟩
instance(c r_):ze (nw c r_) (fun r=>O.call 269 [qp 0 r_,AV.pv (PV.int IntKind.u8 (c.toNat:Int))] [(0,br r_)]=some (qp 0 r,[(0,br r)])):=⟨by unfold nw;exact gW⟩
instance:xq kA fun(s,qk,fs) r=>O.loop 216 0 ⟨[(0,qL s),(1,qm qk),(7,qp 0 fs)],[(0,br fs)],1⟩=some (Ex.normal,⟨[(0,qL s),(1,qm r.1),(7,qp 0 r.2)],[(0,br r.2)],1⟩):=gP kA.partial_correctness fun _ _⟨_,_,_⟩=>gW
instance(s qk):ze (cX s qk) (fun r=>O.call 216 [qL s,qm qk] []=some (AV.xS [vv r.1,qm r.2.1,zt r.2.2],[])):=⟨by unfold cX;exact gW⟩
@[go_sem] def d4 (s:qa) (t4:zf) (zb:(List UInt8)) (Zu:qE):((Int×Bool×Int×zf×zf)⊕(Int×zf))->Ex×St
 | .inl y=>(Ex.ret,⟨[(0,qL s),(4,AV.ptr 0 0),(5,qm y.1),(6,zt y.2.1),(12,qm y.2.2.1),(14,AV.ptr 3 0)],[(0,bb y.2.2.2.1),(1,br zb),(2,bb Zu),(3,bb y.2.2.2.2)],4⟩)
 | .inr y=>(Ex.normal,⟨[(0,qL s),(4,AV.ptr 0 0),(5,AV.undef),(6,AV.undef),(12,qm y.1),(14,AV.ptr 3 0)],[(0,bb t4),(1,br zb),(2,bb Zu),(3,bb y.2)],4⟩)
instance:xq wK fun(s,end_,t4,zb,Zu,f) r=>O.loop 160 2 ⟨[(0,qL s),(4,AV.ptr 0 0),(12,qm end_),(14,AV.ptr 3 0)],[(0,bb t4),(1,br zb),(2,bb Zu),(3,bb f)],4⟩=some (d4 s t4 zb Zu r):=gP wK.partial_correctness fun _ _⟨_,_,_,_,_,_⟩=>gW
instance(s qk):ze (se s qk) (fun r=>O.call 160 [qL s,qm qk] []=some (AV.xS [vv r.1,qm r.2.1,zt r.2.2],[])):=⟨by unfold se;exact gW⟩
instance:xq xL fun(qk,r_,zb,qR,l,text) r=>O.loop 161 0 ⟨[(0,AV.ptr 0 0),(1,qm qk),(6,qp 3 l),(7,qp 4 text)],[(0,qC.box [qL r_,qp 1 zb,qp 2 qR]),(1,bm zb),(2,bm qR),(3,br l),(4,br text)],5⟩=some (Ex.normal,⟨[(0,AV.ptr 0 0),(1,qm r.1),(6,qp 3 r.2.1),(7,qp 4 r.2.2)],[(0,qC.box [qL r_,qp 1 zb,qp 2 qR]),(1,bm zb),(2,bm qR),(3,br r.2.1),(4,br r.2.2)],5⟩):=gP xL.partial_correctness fun _ _⟨_,_,_,_,_,_⟩=>gW
instance(qk b r_ r_2):ze (uo qk b r_ r_2) (fun r=>O.call 161 [AV.ptr 0 0,qm qk] [(0,qC.box [qL b,qp 1 r_,qp 2 r_2]),(1,bm r_),(2,bm r_2)]=some (AV.xS [vv r.1,qm r.2],[(0,qC.box [qL b,qp 1 r_,qp 2 r_2]),(1,bm r_),(2,bm r_2)])):=⟨by unfold uo;exact gW⟩
instance(qk b r_ r_2):ze (vI qk b r_ r_2) (fun r=>O.call 106 [AV.ptr 0 0,qm qk] [(0,qC.box [qL b,qp 1 r_,qp 2 r_2]),(1,bm r_),(2,bm r_2)]=some (AV.xS [vv r.1,qm r.2.1,zt r.2.2],[(0,qC.box [qL b,qp 1 r_,qp 2 r_2]),(1,bm r_),(2,bm r_2)])):=⟨by unfold vI;exact gW⟩
instance:xq vZ fun(s,qk,Xt,zb,r_) r=>O.loop 61 0 ⟨[(0,qL s),(4,AV.ptr 2 0),(5,qm qk)],[(0,bm Xt),(1,bm zb),(2,qC.box [qL r_,qp 0 Xt,qp 1 zb])],3⟩=some (Ex.normal,⟨[(4,AV.ptr 2 0)],[(0,bm r.1),(1,bm r.2),(2,qC.box [qL r_,qp 0 r.1,qp 1 r.2])],3⟩):=gP vZ.partial_correctness fun _ _⟨_,_,_,_,_⟩=>gW
theorem iT:(∀ p r,gO p=some r->O.call 108 [vv p] []=some (qm r,[]))/\(∀ p r,kB p=some r->match p with|(l,n,i)=>O.loop 108 0 ⟨[(0,vv l),(3,qm n),(4,qm i)],[],0⟩=some (Ex.normal,⟨[(3,qm r)],[],0⟩)):=by
 refine gO.mutual_partial_correctness _ _ ?_ ?_
 ·intro kB i;have j279:=fun p=>ze.mk (i p);clear i;rintro _;exact gW
 intro gO kB i278 i279;have j278:=fun p=>ze.mk (i278 p);clear i278;have j279:=fun p=>ze.mk (i279 p);clear i279;rintro⟨_,_,_⟩;exact gW
instance(p):ze (gO p) (fun r=>O.call 108 [vv p] []=some (qm r,[])):=⟨fun r=>iT.1 p r⟩
instance(p):ze (kB p) (fun r=>match p with|(l,n,i)=>O.loop 108 0 ⟨[(0,vv l),(3,qm n),(4,qm i)],[],0⟩=some (Ex.normal,⟨[(3,qm r)],[],0⟩)):=⟨fun r=>iT.2 p r⟩
instance(s):ze (d6 s) (fun r=>O.call 61 [qL s] []=some (AV.xS [vv r.1,qm r.2],[])):=⟨by unfold d6;exact gW⟩
@[go_sem] def dV (a:qE) (b:qE):((Bool)⊕(Unit))->Ex×St
 | .inl y=>(Ex.ret,⟨[(2,AV.ptr 0 0),(3,AV.ptr 1 0),(4,zt y)],[(0,bb a),(1,bb b)],2⟩)
 | .inr y=>(Ex.normal,⟨[(2,AV.ptr 0 0),(3,AV.ptr 1 0),(4,AV.undef)],[(0,bb a),(1,bb b)],2⟩)
instance:xq my fun(i,a,b) r=>O.loop 270 0 ⟨[(2,AV.ptr 0 0),(3,AV.ptr 1 0),(5,qm i)],[(0,bb a),(1,bb b)],2⟩=some (dV a b r):=gP my.partial_correctness fun _ _⟨_,_,_⟩=>gW
end Go.Proofs.YtmllebdamdnhoaaGreat
