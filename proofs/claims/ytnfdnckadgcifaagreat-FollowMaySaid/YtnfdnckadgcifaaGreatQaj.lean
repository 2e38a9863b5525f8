/-
  What the machine's calls come to: the plain functions.
-/
import Derived.Test.YtnfdnckadgcifaaGreatQag
open Go.Gm.AV renaming ptr->x?,undef->Q?,pv->I?
open Go.Gm.Ex renaming normal->j?,ret->x!
open Go.Gm.PV renaming sl->l?
open Go.Gm.qJ renaming box->h?,xH->K!
open Go.IntKind renaming u8->R?
set_option linter.unusedSimpArgs false
set_option linter.unusedVariables false
set_option maxRecDepth 100000
namespace Go.Proofs.YtnfdnckadgcifaaGreat
open Go Go.Gm
set_option maxHeartbeats 4000000
instance:xL vT fun(n,t10,t11,MH,t17,t18,Ij,out,Qq) r=>O.loop 18 2 ⟨[(0,qj n),(5,qr 0 out),(10,vv t10),(11,qj t11),(12,qj MH),(17,vv t17),(18,qj t18),(19,qj Ij)],[(0,br out),(1,bb Qq)],2⟩=some (j?,⟨[(0,qj n),(5,qr 0 r),(10,vv t10),(11,qj t11),(12,qj MH)],[(0,br r),(1,bb Qq)],2⟩):=gP vT.partial_correctness fun _ _⟨_,_,_,_,_,_,_,_,_⟩=>gW
instance:xL uQ fun(n,t10,t11,MH,out) r=>O.loop 18 0 ⟨[(0,qj n),(5,qr 0 out),(10,vv t10),(11,qj t11),(12,qj MH)],[(0,br out)],1⟩=some (j?,⟨[(5,qr 0 r)],[(0,br r)],1⟩):=gP uQ.partial_correctness fun _ _⟨_,_,_,_,_⟩=>gW
instance(n is):zl (d9 n is) (fun r=>O.call 18 [qj n,vv is] []=some (vv r,[])):=⟨by unfold d9;exact gW⟩
instance(s):zl (uf s) (fun r=>O.call 40 [vv s] []=some (vv r,[])):=⟨by unfold uf;exact gW⟩
instance(s n):zl (tn s n) (fun r=>O.call 39 [vv s,qj n] []=some (zD r,[])):=⟨by unfold tn;exact gW⟩
@[go_sem] def iH (l:(Sl qm)):(((Sl qm)×Int)⊕(Unit))->Ex×St
 | .inl y=>(x!,⟨[(1,vv l),(4,vv y.1),(5,qj y.2)],[],0⟩)
 | .inr y=>(j?,⟨[(1,vv l),(4,Q?),(5,Q?)],[],0⟩)
instance:xL nG fun(n,l,i) r=>O.loop 19 0 ⟨[(0,qj n),(1,vv l),(6,qj i)],[],0⟩=some (iH l r):=gP nG.partial_correctness fun _ _⟨_,_,_⟩=>gW
instance(a b):zl (sY a b) (fun r=>O.call 66 [vv a,vv b] []=some (zD r,[])):=⟨by unfold sY;exact gW⟩
instance:xL bh fun(l,s,i,k) r=>O.loop 41 2 ⟨[(0,vv l),(3,vv s),(4,qj i),(5,qj k)],[],0⟩=some (j?,⟨[(0,vv l),(3,vv s),(4,qj i),(5,qj r)],[],0⟩):=gP bh.partial_correctness fun _ _⟨_,_,_,_⟩=>gW
instance:xL bg fun(l,s,i) r=>O.loop 41 0 ⟨[(0,vv l),(3,vv s),(4,qj i)],[],0⟩=some (j?,⟨[(3,vv r)],[],0⟩):=gP bg.partial_correctness fun _ _⟨_,_,_⟩=>gW
instance(a b):zl (sZ a b) (fun r=>O.call 67 [vv a,vv b] []=some (zD r,[])):=⟨by unfold sZ;exact gW⟩
instance(s back):zl (Kq s back) (fun r=>O.call 68 [vv s,zD back] []=some (vv r,[])):=⟨by unfold Kq;exact gW⟩
instance:xL vE fun(s,i,out) r=>O.loop 41 4 ⟨[(3,vv s),(6,qr 0 out),(7,qj i)],[(0,br out)],1⟩=some (j?,⟨[(6,qr 0 r)],[(0,br r)],1⟩):=gP vE.partial_correctness fun _ _⟨_,_,_⟩=>gW
instance(l):zl (c9 l) (fun r=>O.call 41 [vv l] []=some (vv r,[])):=⟨by unfold c9;exact gW⟩
instance(n l):zl (bJ n l) (fun r=>O.call 19 [qj n,vv l] []=some (AV.xW [vv r.1,qj r.2],[])):=⟨by unfold bJ;exact gW⟩
@[go_sem] def ix (st:qq):((Bool)⊕(Unit))->Ex×St
 | .inl y=>(x!,⟨[(1,x? 0 0),(2,zD y)],[(0,bb st)],1⟩)
 | .inr y=>(j?,⟨[(1,x? 0 0),(2,Q?)],[(0,bb st)],1⟩)
instance:xL nu fun(l,i,st) r=>O.loop 7 0 ⟨[(1,x? 0 0),(3,vv l),(5,qj i)],[(0,bb st)],1⟩=some (ix st r):=gP nu.partial_correctness fun _ _⟨_,_,_⟩=>gW
@[go_sem] def oS:((Bool)⊕(Unit))->Ex×St
 | .inl y=>(x!,⟨[(6,zD y)],[],0⟩)
 | .inr y=>(j?,⟨[(6,Q?)],[],0⟩)
instance:xL kV fun(l,a,b) r=>O.loop 42 0 ⟨[(0,vv l),(1,qj a),(2,qj b)],[],0⟩=some (oS r):=gP kV.partial_correctness fun _ _⟨_,_,_⟩=>gW
instance(l a b):zl (th l a b) (fun r=>O.call 42 [vv l,qj a,qj b] []=some (zD r,[])):=⟨by unfold th;exact gW⟩
instance(a b):zl (xr a b) (fun r=>O.call 43 [vv a,vv b] []=some (zD r,[])):=⟨by unfold xr;exact gW⟩
@[go_sem] def iw (k:Int) (i:qu) (x:qt) (Bu:qk):((Bool)⊕(Unit))->Ex×St
 | .inl y=>(x!,⟨[(2,x? 0 0),(4,zD y),(5,qj k)],[(0,bb i),(1,bb x),(2,bb Bu)],3⟩)
 | .inr y=>(j?,⟨[(2,x? 0 0),(4,Q?),(5,qj k)],[(0,bb i),(1,bb x),(2,bb Bu)],3⟩)
instance:xL xO fun(k,j,i,x,Bu) r=>O.loop 20 2 ⟨[(2,x? 0 0),(5,qj k),(6,x? 1 0),(8,qj j)],[(0,bb i),(1,bb x),(2,bb Bu)],3⟩=some (iw k i x Bu r):=gP xO.partial_correctness fun _ _⟨_,_,_,_,_⟩=>gW
@[go_sem] def iv (i:qu):((Bool)⊕(Unit))->Ex×St
 | .inl y=>(x!,⟨[(4,zD y)],[(0,bb i)],1⟩)
 | .inr y=>(j?,⟨[(4,Q?)],[(0,bb i)],1⟩)
instance:xL zM fun(k,i) r=>O.loop 20 0 ⟨[(2,x? 0 0),(5,qj k)],[(0,bb i)],1⟩=some (iv i r):=gP zM.partial_correctness fun _ _⟨_,_⟩=>gW
instance(i n):zl (sW i n) (fun r=>O.call 20 [vv i,qj n] []=some (zD r,[])):=⟨by unfold sW;exact gW⟩
instance:xL wC fun(n,is,i,k,out) r=>O.loop 22 2 ⟨[(0,qj n),(1,vv is),(5,qr 0 out),(6,qj i),(7,qj k)],[(0,br out)],1⟩=some (j?,⟨[(0,qj n),(1,vv is),(5,qr 0 r),(6,qj i)],[(0,br r)],1⟩):=gP wC.partial_correctness fun _ _⟨_,_,_,_,_⟩=>gW
instance:xL uE fun(n,is,i,out) r=>O.loop 22 0 ⟨[(0,qj n),(1,vv is),(5,qr 0 out),(6,qj i)],[(0,br out)],1⟩=some (j?,⟨[(5,qr 0 r)],[(0,br r)],1⟩):=gP uE.partial_correctness fun _ _⟨_,_,_,_⟩=>gW
instance(n is):zl (wJ n is) (fun r=>O.call 22 [qj n,vv is] []=some (vv r,[])):=⟨by unfold wJ;exact gW⟩
@[go_sem] def ea (s:qk):((Bool)⊕(Unit))->Ex×St
 | .inl y=>(x!,⟨[(4,zD y)],[(0,bb s)],1⟩)
 | .inr y=>(j?,⟨[(4,Q?)],[(0,bb s)],1⟩)
instance:xL gZ fun(l,i,s) r=>O.loop 21 0 ⟨[(1,vv l),(2,x? 0 0),(5,qj i)],[(0,bb s)],1⟩=some (ea s r):=gP gZ.partial_correctness fun _ _⟨_,_,_⟩=>gW
instance(s l):zl (gY s l) (fun r=>O.call 21 [vv s,vv l] []=some (zD r,[])):=⟨by unfold gY;exact gW⟩
@[go_sem] def iz (i:Int) (st:qq):((Bool)⊕(Unit))->Ex×St
 | .inl y=>(x!,⟨[(1,x? 0 0),(2,zD y),(6,qj i)],[(0,bb st)],1⟩)
 | .inr y=>(j?,⟨[(1,x? 0 0),(2,Q?),(6,qj i)],[(0,bb st)],1⟩)
instance:xL kG fun(i,is,k,st) r=>O.loop 7 4 ⟨[(1,x? 0 0),(6,qj i),(7,vv is),(8,qj k)],[(0,bb st)],1⟩=some (iz i st r):=gP kG.partial_correctness fun _ _⟨_,_,_,_⟩=>gW
@[go_sem] def iy (st:qq):((Bool)⊕(Unit))->Ex×St
 | .inl y=>(x!,⟨[(2,zD y)],[(0,bb st)],1⟩)
 | .inr y=>(j?,⟨[(2,Q?)],[(0,bb st)],1⟩)
instance:xL nv fun(i,st) r=>O.loop 7 2 ⟨[(1,x? 0 0),(6,qj i)],[(0,bb st)],1⟩=some (iy st r):=gP nv.partial_correctness fun _ _⟨_,_⟩=>gW
instance(st):zl (jl st) (fun r=>O.call 7 [vv st] []=some (zD r,[])):=⟨by unfold jl;exact gW⟩
instance(c):zl (vt c) (fun r=>O.call 101 [I? (PV.int R? (c.toNat:Int))] []=some (zD r,[])):=⟨by unfold vt;exact gW⟩
instance(c):zl (kT c) (fun r=>O.call 102 [I? (PV.int R? (c.toNat:Int))] []=some (zD r,[])):=⟨by unfold kT;exact gW⟩
@[go_sem] def aW:((Bool)⊕(Unit))->Ex×St
 | .inl y=>(x!,⟨[(2,zD y)],[],0⟩)
 | .inr y=>(j?,⟨[(2,Q?)],[],0⟩)
instance:xL jd fun(s,i) r=>O.loop 69 0 ⟨[(0,qS s),(3,qj i)],[],0⟩=some (aW r):=gP jd.partial_correctness fun _ _⟨_,_⟩=>gW
instance(s):zl (jw s) (fun r=>O.call 69 [qS s] []=some (zD r,[])):=⟨by unfold jw;exact gW⟩
@[go_sem] def iu (name:qa) (value:qa) (out:(List qx)):((Int×(List qx))⊕(Unit))->Ex×St
 | .inl y=>(x!,⟨[(0,qS name),(1,qS value),(6,qr 0 y.2),(7,qj y.1),(8,qr 0 y.2)],[(0,bm y.2)],1⟩)
 | .inr y=>(j?,⟨[(0,qS name),(1,qS value),(6,Q?),(7,Q?),(8,qr 0 out)],[(0,bm out)],1⟩)
instance:xL nr fun(name,value,i,out) r=>O.loop 44 0 ⟨[(0,qS name),(1,qS value),(8,qr 0 out),(9,qj i)],[(0,bm out)],1⟩=some (iu name value out r):=gP nr.partial_correctness fun _ _⟨_,_,_,_⟩=>gW
instance(name value env):zl (dM name value env) (fun r=>O.call 44 [qS name,qS value,vv env] []=some (AV.xW [vv r.1,qj r.2],[])):=⟨by unfold dM;exact gW⟩
@[go_sem] def iF (m:qa) (m2:(Sl qm)) (m3:(Sl qc)):((Int×(Sl qx))⊕((Sl qx)))->Ex×St
 | .inl y=>(x!,⟨[(2,I? (PV.yj)),(3,qj y.1),(4,x? 1 0)],[(0,K!),(1,h? [qS m,vv m2,vv m3,vv y.2,I? (l? true 0 []),I? (l? true 0 [])])],2⟩)
 | .inr y=>(j?,⟨[(2,Q?),(3,Q?),(4,x? 1 0)],[(0,K!),(1,h? [qS m,vv m2,vv m3,vv y,I? (l? true 0 []),I? (l? true 0 [])])],2⟩)
instance:xL s9 fun(env,i,m,m2,m3,m4) r=>O.loop 23 0 ⟨[(0,vv env),(4,x? 1 0),(5,qj i)],[(0,K!),(1,h? [qS m,vv m2,vv m3,vv m4,I? (l? true 0 []),I? (l? true 0 [])])],2⟩=some (iF m m2 m3 r):=gP s9.partial_correctness fun _ _⟨_,_,_,_,_,_⟩=>gW
end Go.Proofs.YtnfdnckadgcifaaGreat
