/-
  What the machine's calls come to: the plain functions.
-/
import Derived.Test.YtnojdepmnnebnaaGreatQag
open Go.Gm.AV renaming ptr->x?,undef->f?,xV->Y?,pv->A?
open Go.Gm.Ex renaming normal->j?,ret->G?
open Go.Gm.PV renaming int->n?
open Go.Gm.qE renaming box->y?,xw->g!
open Go.IntKind renaming u8->R?
open Go.Proofs.YtnojdepmnnebnaaGreat.qe renaming cE->Q_
set_option linter.unusedSimpArgs false
set_option linter.unusedVariables false
set_option maxRecDepth 100000
namespace Go.Proofs.YtnojdepmnnebnaaGreat
open Go Go.Gm
set_option maxHeartbeats 4000000
instance(x i b):zf (nV x i b) (fun r=>O.call 373 [x? 0 0,vv x,qi i] [(0,bb b)]=some (Y? [qi r.1,zu r.2],[(0,bb b)])):=⟨by unfold nV;exact gW⟩
@[go_sem] def pS:((Int×(Sl qn)×Bool×qf)⊕(qf))->Ex×St
 | .inl y=>(G?,⟨[(8,qi y.1),(9,vv y.2.1),(10,zu y.2.2.1)],[(0,bb y.2.2.2)],1⟩)
 | .inr y=>(j?,⟨[(8,f?),(9,f?),(10,f?)],[(0,bb y)],1⟩)
theorem bo:(∀ p r,z8 p=some r->match p with|(k,i,parts,b)=>O.call 347 [x? 0 0,A? (Q_ k),qi i,vv parts] [(0,bb b)]=some (Y? [qi r.1,vv r.2.1,zu r.2.2.1],[(0,bb r.2.2.2)]))/\(∀ p r,uO p=some r->match p with|(k,i,parts,b)=>O.call 363 [x? 0 0,A? (Q_ k),qi i,vv parts] [(0,bb b)]=some (Y? [qi r.1,vv r.2.1,zu r.2.2.1],[(0,bb r.2.2.2)]))/\(∀ p r,kq p=some r->match p with|(k,i,parts,g,j,r_)=>O.loop 347 3 ⟨[(0,x? 0 0),(1,A? (Q_ k)),(2,qi i),(3,vv parts),(15,qi g),(16,qi j)],[(0,bb r_)],1⟩=some (pS r))/\(∀ p r,jS p=some r->match p with|(k,i,parts,b)=>O.call 362 [x? 0 0,A? (Q_ k),qi i,vv parts] [(0,bb b)]=some (Y? [qi r.1,vv r.2.1,zu r.2.2.1],[(0,bb r.2.2.2)]))/\(∀ p r,xC p=some r->match p with|(k,i,parts,b)=>O.call 372 [x? 0 0,A? (Q_ k),qi i,vv parts] [(0,bb b)]=some (Y? [qi r.1,vv r.2.1,zu r.2.2.1],[(0,bb r.2.2.2)])):=by refine z8.mutual_partial_correctness _ _ _ _ _ ?_ ?_ ?_ ?_ ?_;intro z8 uO kq jS Nl i163 LN i158;have j157:=fun p=>zf.mk (Nl p);clear Nl;have j163:=fun p=>zf.mk (i163 p);clear i163;have j162:=fun p=>zf.mk (LN p);clear LN;have j158:=fun p=>zf.mk (i158 p);clear i158;rintro⟨_,_,_,_⟩;exact gW;intro z8 i;have j157:=fun p=>zf.mk (i p);clear i;rintro⟨_,_,_,_⟩;exact gW;intro z8 kq Nl LN;have j157:=fun p=>zf.mk (Nl p);clear Nl;have j162:=fun p=>zf.mk (LN p);clear LN;rintro⟨_,_,_,_,_,_⟩;exact gW;intro z8 xC Nl i159;have j157:=fun p=>zf.mk (Nl p);clear Nl;have j159:=fun p=>zf.mk (i159 p);clear i159;rintro⟨_,_,_,_⟩;exact gW;intro z8 i;have j157:=fun p=>zf.mk (i p);clear i;rintro⟨_,_,_,_⟩;exact gW
instance(p):zf (z8 p) (fun r=>match p with|(k,i,parts,b)=>O.call 347 [x? 0 0,A? (Q_ k),qi i,vv parts] [(0,bb b)]=some (Y? [qi r.1,vv r.2.1,zu r.2.2.1],[(0,bb r.2.2.2)])):=⟨fun r=>bo.1 p r⟩
instance(p):zf (uO p) (fun r=>match p with|(k,i,parts,b)=>O.call 363 [x? 0 0,A? (Q_ k),qi i,vv parts] [(0,bb b)]=some (Y? [qi r.1,vv r.2.1,zu r.2.2.1],[(0,bb r.2.2.2)])):=⟨fun r=>bo.2.1 p r⟩
instance(p):zf (kq p) (fun r=>match p with|(k,i,parts,g,j,r_)=>O.loop 347 3 ⟨[(0,x? 0 0),(1,A? (Q_ k)),(2,qi i),(3,vv parts),(15,qi g),(16,qi j)],[(0,bb r_)],1⟩=some (pS r)):=⟨fun r=>bo.2.2.1 p r⟩
instance(p):zf (jS p) (fun r=>match p with|(k,i,parts,b)=>O.call 362 [x? 0 0,A? (Q_ k),qi i,vv parts] [(0,bb b)]=some (Y? [qi r.1,vv r.2.1,zu r.2.2.1],[(0,bb r.2.2.2)])):=⟨fun r=>bo.2.2.2.1 p r⟩
instance(p):zf (xC p) (fun r=>match p with|(k,i,parts,b)=>O.call 372 [x? 0 0,A? (Q_ k),qi i,vv parts] [(0,bb b)]=some (Y? [qi r.1,vv r.2.1,zu r.2.2.1],[(0,bb r.2.2.2)])):=⟨fun r=>bo.2.2.2.2 p r⟩
instance(x i b):zf (rW x i b) (fun r=>O.call 326 [x? 0 0,vv x,qi i] [(0,bb b)]=some (Y? [vv r.1,zu r.2.1],[(0,bb r.2.2)])):=⟨by unfold rW;exact gW⟩
@[go_sem] def sq (x:qG) (t6:qk):((Bool×qf×qk)⊕(qf))->Ex×St
 | .inl y=>(G?,⟨[(6,x? 2 0),(7,zu y.1)],[(0,bb y.2.1),(1,bb x),(2,bb y.2.2)],3⟩)
 | .inr y=>(j?,⟨[(6,x? 2 0),(7,f?)],[(0,bb y),(1,bb x),(2,bb t6)],3⟩)
instance:xy vQ fun(i,r_,x,t6) r=>O.loop 299 0 ⟨[(0,x? 0 0),(2,qi i),(4,x? 1 0),(6,x? 2 0)],[(0,bb r_),(1,bb x),(2,bb t6)],3⟩=some (sq x t6 r):=gP vQ.partial_correctness fun _ _⟨_,_,_,_⟩=>gW
instance(x i b):zf (bk x i b) (fun r=>O.call 299 [x? 0 0,vv x,qi i] [(0,bb b)]=some (Y? [vv r.1,zu r.2.1],[(0,bb r.2.2)])):=⟨by unfold bk;exact gW⟩
@[go_sem] def rX (r_:qf):((Int)⊕(Unit))->Ex×St
 | .inl y=>(G?,⟨[(4,qi y)],[(0,bb r_)],1⟩)
 | .inr y=>(j?,⟨[(4,f?)],[(0,bb r_)],1⟩)
instance:xy kz fun(qp,i,r_) r=>O.loop 300 0 ⟨[(0,x? 0 0),(1,qi qp),(5,qi i)],[(0,bb r_)],1⟩=some (rX r_ r):=gP kz.partial_correctness fun _ _⟨_,_,_⟩=>gW
instance(qp b):zf (uP qp b) (fun r=>O.call 300 [x? 0 0,qi qp] [(0,bb b)]=some (qi r,[(0,bb b)])):=⟨by unfold uP;exact gW⟩
@[go_sem] def iy (x:qG):(((Sl qk)×Int×Int×qf×(List qk))⊕(qf×(List qk)))->Ex×St
 | .inl y=>(G?,⟨[(8,vv y.1),(9,qi y.2.1),(10,qi y.2.2.1),(11,x? 1 0),(12,qt 2 y.2.2.2.2)],[(0,bb x),(1,bb y.2.2.2.1),(2,br y.2.2.2.2)],3⟩)
 | .inr y=>(j?,⟨[(8,f?),(9,f?),(10,f?),(11,x? 1 0),(12,qt 2 y.2)],[(0,bb x),(1,bb y.1),(2,br y.2)],3⟩)
instance:xy bZ fun(i,x,r_,out) r=>O.loop 261 0 ⟨[(4,x? 0 0),(11,x? 1 0),(12,qt 2 out),(13,qi i)],[(0,bb x),(1,bb r_),(2,br out)],3⟩=some (iy x r):=gP bZ.partial_correctness fun _ _⟨_,_,_,_⟩=>gW
instance(x fold s fuel):zf (ix x fold s fuel) (fun r=>O.call 261 [vv x,zu fold,qM s,qi fuel] []=some (Y? [vv r.1,qi r.2.1,qi r.2.2],[])):=⟨by unfold ix;exact gW⟩
instance:xy hQ fun(s,i,f,m,parts) r=>O.loop 263 0 ⟨[(1,qM s),(3,x? 0 0),(5,x? 1 0),(7,qt 2 parts),(8,qi i)],[(0,bb f),(1,bb m),(2,bm parts)],3⟩=some (j?,⟨[(3,x? 0 0),(7,qt 2 r)],[(0,bb f),(1,bb m),(2,bm r)],3⟩):=gP hQ.partial_correctness fun _ _⟨_,_,_,_,_⟩=>gW
instance(c):zf (fD c) (fun r=>O.call 348 [A? (n? R? (c.toNat:Int))] []=some (A? (n? R? (r.toNat:Int)),[])):=⟨by unfold fD;exact gW⟩
instance:xy mh fun(i,b) r=>O.loop 327 1 ⟨[(6,qt 0 b),(7,qi i)],[(0,bm b)],1⟩=some (j?,⟨[(6,qt 0 r)],[(0,bm r)],1⟩):=gP mh.partial_correctness fun _ _⟨_,_⟩=>gW
instance(c):zf (sT c) (fun r=>O.call 349 [A? (n? R? (c.toNat:Int))] []=some (A? (n? R? (r.toNat:Int)),[])):=⟨by unfold sT;exact gW⟩
instance:xy mi fun(i,b) r=>O.loop 327 3 ⟨[(6,qt 0 b),(8,qi i)],[(0,bm b)],1⟩=some (j?,⟨[(6,qt 0 r)],[(0,bm r)],1⟩):=gP mi.partial_correctness fun _ _⟨_,_⟩=>gW
instance(c):zf (dE c) (fun r=>O.call 374 [A? (n? R? (c.toNat:Int))] []=some (zu r,[])):=⟨by unfold dE;exact gW⟩
instance(c):zf (fC c) (fun r=>O.call 364 [A? (n? R? (c.toNat:Int))] []=some (zu r,[])):=⟨by unfold fC;exact gW⟩
instance:xy jB fun(s,i,l) r=>O.loop 350 0 ⟨[(0,qM s),(3,qt 0 l),(4,qi i)],[(0,br l)],1⟩=some (j?,⟨[(3,qt 0 r)],[(0,br r)],1⟩):=gP jB.partial_correctness fun _ _⟨_,_,_⟩=>gW
instance(s):zf (cQ s) (fun r=>O.call 350 [qM s] []=some (vv r,[])):=⟨by unfold cQ;exact gW⟩
instance:xy yK fun(wA,l,out,i,QG) r=>O.loop 327 5 ⟨[(1,qi wA),(9,vv l),(10,qM out),(11,qi i)],[(0,bm QG)],1⟩=some (j?,⟨[(10,qM r)],[(0,bm QG)],1⟩):=gP yK.partial_correctness fun _ _⟨_,_,_,_,_⟩=>gW
instance(s wA):zf (sS s wA) (fun r=>O.call 327 [qM s,qi wA] []=some (Y? [qM r.1,qi r.2],[])):=⟨by unfold sS;exact gW⟩
instance:xy zq fun(fs,parts,s,i) r=>O.loop 302 0 ⟨[(0,vv fs),(1,vv parts),(5,qM s),(6,qi i)],[],0⟩=some (j?,⟨[(5,qM r)],[],0⟩):=gP zq.partial_correctness fun _ _⟨_,_,_,_⟩=>gW
instance(fs parts):zf (cR fs parts) (fun r=>O.call 302 [vv fs,vv parts] []=some (qM r,[])):=⟨by unfold cR;exact gW⟩
instance(f s m):zf (dO f s m) (fun r=>O.call 263 [vv f,qM s,vv m] []=some (qM r,[])):=⟨by unfold dO;exact gW⟩
@[go_sem] def fH (s:qa) (left:Int) (f:zn):((qa×Int×Int×qa×Int)⊕(qa×Int))->Ex×St
 | .inl y=>(G?,⟨[(1,qM s),(6,qM y.1),(7,qi y.2.1),(8,qi y.2.2.1),(10,qi left),(14,qM y.2.2.2.1),(15,qi y.2.2.2.2)],[(0,bb f)],1⟩)
 | .inr y=>(j?,⟨[(1,qM s),(6,f?),(7,f?),(8,f?),(10,qi left),(14,qM y.1),(15,qi y.2)],[(0,bb f)],1⟩)
instance:xy uh fun(s,ms,left,out,qp,i,f) r=>O.loop 209 0 ⟨[(1,qM s),(3,x? 0 0),(9,vv ms),(10,qi left),(14,qM out),(15,qi qp),(16,qi i)],[(0,bb f)],1⟩=some (fH s left f r):=gP uh.partial_correctness fun _ _⟨_,_,_,_,_,_,_⟩=>gW
instance(m ok_ b):zf (fB m ok_ b) (fun r=>O.call 301 [x? 0 0,vv m,zu ok_] [(0,bb b)]=some (Y? [vv r.1,qi r.2.1,zu r.2.2.1,qi r.2.2.2],[(0,bb b)])):=⟨by unfold fB;exact gW⟩
instance(x fold s qp fuel):zf (fA x fold s qp fuel) (fun r=>O.call 262 [vv x,zu fold,qM s,qi qp,qi fuel] []=some (Y? [vv r.1,qi r.2.1,zu r.2.2.1,qi r.2.2.2],[])):=⟨by unfold fA;exact gW⟩
@[go_sem] def cT (s:qa) (left:Int) (f:zn) (ep:qk) (qT:(List qk)) (ms:(List qk)):((qa×Int×Int×qa×Int)⊕(qa×Int))->Ex×St
 | .inl y=>(G?,⟨[(1,qM s),(6,qM y.1),(7,qi y.2.1),(8,qi y.2.2.1),(10,qi left),(14,qM y.2.2.2.1),(15,qi y.2.2.2.2)],[(0,bb f),(1,bb ep),(2,bm qT),(3,bm ms)],4⟩)
 | .inr y=>(j?,⟨[(1,qM s),(6,f?),(7,f?),(8,f?),(10,qi left),(14,qM y.1),(15,qi y.2)],[(0,bb f),(1,bb ep),(2,bm qT),(3,bm ms)],4⟩)
instance:xy wE fun(s,left,out,qp,i,f,ep,qT,ms) r=>O.loop 209 0 ⟨[(1,qM s),(3,x? 0 0),(9,qt 3 ms),(10,qi left),(14,qM out),(15,qi qp),(16,qi i)],[(0,bb f),(1,bb ep),(2,bm qT),(3,bm ms)],4⟩=some (cT s left f ep qT ms r):=gP wE.partial_correctness fun _ _⟨_,_,_,_,_,_,_,_,_⟩=>gW
instance(f s fuel):zf (hK f s fuel) (fun r=>O.call 209 [vv f,qM s,qi fuel] []=some (Y? [qM r.1,qi r.2.1,qi r.2.2],[])):=⟨by unfold hK;exact gW⟩
@[go_sem] def pM (Ey:qj):((Int×qa×(Sl qy)×(List qb)×(Sl (Sl (Sl Int))))⊕(qa×(Sl qy)×(List qb)×(Sl (Sl (Sl Int)))))->Ex×St
 | .inl y=>(G?,⟨[(8,qi y.1)],[(0,y? [qM y.2.1,vv y.2.2.1,qt 1 y.2.2.2.1,qt 2 y.2.2.2.2.l]),(1,bm y.2.2.2.1),(2,mb [1,1] 1 (mz 1 zL) y.2.2.2.2),(3,bb Ey),(4,g!),(5,g!),(6,g!)],7⟩)
 | .inr y=>(j?,⟨[(8,f?)],[(0,y? [qM y.1,vv y.2.1,qt 1 y.2.2.1,qt 2 y.2.2.2.l]),(1,bm y.2.2.1),(2,mb [1,1] 1 (mz 1 zL) y.2.2.2),(3,bb Ey),(4,g!),(5,g!),(6,g!)],7⟩)
instance:xy zm fun(i,a,n,t,j,w,w2,z7,qT,Ey) r=>O.loop 152 4 ⟨[(0,x? 0 0),(1,qi i),(2,qi a),(3,qi n),(14,qM t),(15,qi j)],[(0,y? [qM w,vv w2,qt 1 z7,qt 2 qT.l]),(1,bm z7),(2,mb [1,1] 1 (mz 1 zL) qT),(3,bb Ey),(4,g!),(5,g!),(6,g!)],7⟩=some (pM Ey r):=gP zm.partial_correctness fun _ _⟨_,_,_,_,_,_,_,_,_,_⟩=>gW
instance(i a n b b_2 r_ r_2):zf (uz i a n b b_2 r_ r_2) (fun r=>O.call 152 [x? 0 0,qi i,qi a,qi n] [(0,y? [qM b,vv b_2,qt 1 r_,qt 2 r_2.l]),(1,bm r_),(2,mb [1,1] 1 (mz 1 zL) r_2)]=some (qi r.1,[(0,y? [qM r.2.1,vv r.2.2.1,qt 1 r.2.2.2.1,qt 2 r.2.2.2.2.l]),(1,bm r.2.2.2.1),(2,mb [1,1] 1 (mz 1 zL) r.2.2.2.2)])):=⟨by unfold uz;exact gW⟩
@[go_sem] def pL (i:Int) (a:Int):((Int×qa×(Sl qy)×(List qb)×(Sl (Sl (Sl Int))))⊕(qa×(Sl qy)×(List qb)×(Sl (Sl (Sl Int)))))->Ex×St
 | .inl y=>(G?,⟨[(0,x? 0 0),(2,qi y.1),(3,qi i),(4,qi a)],[(0,y? [qM y.2.1,vv y.2.2.1,qt 1 y.2.2.2.1,qt 2 y.2.2.2.2.l]),(1,bm y.2.2.2.1),(2,mb [1,1] 1 (mz 1 zL) y.2.2.2.2)],3⟩)
 | .inr y=>(j?,⟨[(0,x? 0 0),(2,f?),(3,qi i),(4,qi a)],[(0,y? [qM y.1,vv y.2.1,qt 1 y.2.2.1,qt 2 y.2.2.2.l]),(1,bm y.2.2.1),(2,mb [1,1] 1 (mz 1 zL) y.2.2.2)],3⟩)
instance:xy jo fun(i,a,ns,k,w,w2,z7,qT) r=>O.loop 102 4 ⟨[(0,x? 0 0),(3,qi i),(4,qi a),(5,vv ns),(6,qi k)],[(0,y? [qM w,vv w2,qt 1 z7,qt 2 qT.l]),(1,bm z7),(2,mb [1,1] 1 (mz 1 zL) qT)],3⟩=some (pL i a r):=gP jo.partial_correctness fun _ _⟨_,_,_,_,_,_,_,_⟩=>gW
@[go_sem] def pK (i:Int):((Int×qa×(Sl qy)×(List qb)×(Sl (Sl (Sl Int))))⊕(qa×(Sl qy)×(List qb)×(Sl (Sl (Sl Int)))))->Ex×St
 | .inl y=>(G?,⟨[(0,x? 0 0),(2,qi y.1),(3,qi i)],[(0,y? [qM y.2.1,vv y.2.2.1,qt 1 y.2.2.2.1,qt 2 y.2.2.2.2.l]),(1,bm y.2.2.2.1),(2,mb [1,1] 1 (mz 1 zL) y.2.2.2.2)],3⟩)
 | .inr y=>(j?,⟨[(0,x? 0 0),(2,f?),(3,qi i)],[(0,y? [qM y.1,vv y.2.1,qt 1 y.2.2.1,qt 2 y.2.2.2.l]),(1,bm y.2.2.1),(2,mb [1,1] 1 (mz 1 zL) y.2.2.2)],3⟩)
instance:xy jn fun(i,a,w,w2,z7,qT) r=>O.loop 102 2 ⟨[(0,x? 0 0),(3,qi i),(4,qi a)],[(0,y? [qM w,vv w2,qt 1 z7,qt 2 qT.l]),(1,bm z7),(2,mb [1,1] 1 (mz 1 zL) qT)],3⟩=some (pK i r):=gP jn.partial_correctness fun _ _⟨_,_,_,_,_,_⟩=>gW
@[go_sem] def pJ:((Int×qa×(Sl qy)×(List qb)×(Sl (Sl (Sl Int))))⊕(qa×(Sl qy)×(List qb)×(Sl (Sl (Sl Int)))))->Ex×St
 | .inl y=>(G?,⟨[(2,qi y.1)],[(0,y? [qM y.2.1,vv y.2.2.1,qt 1 y.2.2.2.1,qt 2 y.2.2.2.2.l]),(1,bm y.2.2.2.1),(2,mb [1,1] 1 (mz 1 zL) y.2.2.2.2)],3⟩)
 | .inr y=>(j?,⟨[(2,f?)],[(0,y? [qM y.1,vv y.2.1,qt 1 y.2.2.1,qt 2 y.2.2.2.l]),(1,bm y.2.2.1),(2,mb [1,1] 1 (mz 1 zL) y.2.2.2)],3⟩)
instance:xy jm fun(i,w,w2,z7,qT) r=>O.loop 102 0 ⟨[(0,x? 0 0),(3,qi i)],[(0,y? [qM w,vv w2,qt 1 z7,qt 2 qT.l]),(1,bm z7),(2,mb [1,1] 1 (mz 1 zL) qT)],3⟩=some (pJ r):=gP jm.partial_correctness fun _ _⟨_,_,_,_,_⟩=>gW
instance(b b_2 r_ r_2):zf (wM b b_2 r_ r_2) (fun r=>O.call 102 [x? 0 0] [(0,y? [qM b,vv b_2,qt 1 r_,qt 2 r_2.l]),(1,bm r_),(2,mb [1,1] 1 (mz 1 zL) r_2)]=some (qi r.1,[(0,y? [qM r.2.1,vv r.2.2.1,qt 1 r.2.2.2.1,qt 2 r.2.2.2.2.l]),(1,bm r.2.2.2.1),(2,mb [1,1] 1 (mz 1 zL) r.2.2.2.2)])):=⟨by unfold wM;exact gW⟩
instance:xy xE fun(i,a,w,w2,z7,qT,s,is) r=>O.loop 103 2 ⟨[(0,x? 0 0),(2,qi i),(3,x? 3 0),(4,qt 4 is),(5,qi a)],[(0,y? [qM w,vv w2,qt 1 z7,qt 2 qT.l]),(1,bm z7),(2,mb [1,1] 1 (mz 1 zL) qT),(3,bb s),(4,br is)],5⟩=some (j?,⟨[(0,x? 0 0),(2,qi i),(3,x? 3 0),(4,qt 4 r)],[(0,y? [qM w,vv w2,qt 1 z7,qt 2 qT.l]),(1,bm z7),(2,mb [1,1] 1 (mz 1 zL) qT),(3,bb s),(4,br r)],5⟩):=gP xE.partial_correctness fun _ _⟨_,_,_,_,_,_,_,_⟩=>gW
@[go_sem] def tv (w:qa) (w2:(Sl qy)) (qT:(Sl (Sl (Sl Int)))):((qb×(List qb))⊕((List qb)))->Ex×St
 | .inl y=>(G?,⟨[],[(0,y? [qM w,vv w2,qt 5 y.2,qt 2 qT.l]),(1,g!),(2,mb [1,1] 1 (mz 1 zL) qT),(3,bb y.1),(4,g!),(5,bm y.2)],6⟩)
 | .inr y=>(j?,⟨[],[(0,y? [qM w,vv w2,qt 1 y,qt 2 qT.l]),(1,bm y),(2,mb [1,1] 1 (mz 1 zL) qT)],3⟩)
instance:xy jD fun(i,w,w2,z7,qT) r=>O.loop 103 0 ⟨[(0,x? 0 0),(2,qi i)],[(0,y? [qM w,vv w2,qt 1 z7,qt 2 qT.l]),(1,bm z7),(2,mb [1,1] 1 (mz 1 zL) qT)],3⟩=some (tv w w2 qT r):=gP jD.partial_correctness fun _ _⟨_,_,_,_,_⟩=>gW
@[go_sem] def sw (b:qa) (b_2:(Sl qy)) (r_2:(Sl (Sl (Sl Int)))):(((List qb))⊕((List qb)))->AV×qr
 | .inl y=>(Y? [],[(0,y? [qM b,vv b_2,qt 3 y,qt 2 r_2.l]),(1,g!),(2,mb [1,1] 1 (mz 1 zL) r_2),(3,bm y)])
 | .inr y=>(Y? [],[(0,y? [qM b,vv b_2,qt 1 y,qt 2 r_2.l]),(1,bm y),(2,mb [1,1] 1 (mz 1 zL) r_2)])
instance(b b_2 r_ r_2):zf (vT b b_2 r_ r_2) (fun r=>O.call 103 [x? 0 0] [(0,y? [qM b,vv b_2,qt 1 r_,qt 2 r_2.l]),(1,bm r_),(2,mb [1,1] 1 (mz 1 zL) r_2)]=some (sw b b_2 r_2 r)):=⟨by unfold vT;exact gW⟩
instance(st es):zf (s9 st es) (fun r=>O.call 58 [vv st,vv es] []=some (Y? [vv r.1,qi r.2],[])):=⟨by unfold s9;exact gW⟩
instance(wA):zf (dR wA) (fun r=>O.call 210 [qi wA] []=some (zu r,[])):=⟨by unfold dR;exact gW⟩
instance:xy wc fun(s,i,t2,t) r=>O.loop 173 0 ⟨[(0,qM s),(2,x? 0 0),(3,x? 1 0),(4,qi i)],[(0,bb t2),(1,bb t)],2⟩=some (j?,⟨[(2,x? 0 0),(3,x? 1 0)],[(0,bb t2),(1,bb r)],2⟩):=gP wc.partial_correctness fun _ _⟨_,_,_,_⟩=>gW
instance(s):zf (oI s) (fun r=>O.call 173 [qM s] []=some (vv r,[])):=⟨by unfold oI;exact gW⟩
instance(s off):zf (dF s off) (fun r=>O.call 115 [qM s,qi off] []=some (Y? [qi r.1,qi r.2],[])):=⟨by unfold dF;exact gW⟩
instance:xy vE fun(s,i,l) r=>O.loop 213 0 ⟨[(0,qM s),(3,qt 0 l),(4,qi i)],[(0,bm l)],1⟩=some (j?,⟨[(3,qt 0 r)],[(0,bm r)],1⟩):=gP vE.partial_correctness fun _ _⟨_,_,_⟩=>gW
instance(s):zf (mY s) (fun r=>O.call 213 [qM s] []=some (vv r,[])):=⟨by unfold mY;exact gW⟩
instance(s line):zf (uE s line) (fun r=>O.call 156 [qM s,qi line] []=some (Y? [qi r.1,qi r.2],[])):=⟨by unfold uE;exact gW⟩
instance(t wA):zf (bc t wA) (fun r=>O.call 211 [vv t,qi wA] []=some (qi r,[])):=⟨by unfold bc;exact gW⟩
instance(s off wA):zf (fZ s off wA) (fun r=>O.call 153 [qM s,qi off,qi wA] []=some (Y? [qi r.1,qi r.2.1,qi r.2.2],[])):=⟨by unfold fZ;exact gW⟩
instance:xy yH fun(s,qp) r=>O.loop 154 0 ⟨[(0,qM s),(1,qi qp)],[],0⟩=some (j?,⟨[(1,qi r)],[],0⟩):=gP yH.partial_correctness fun _ _⟨_,_⟩=>gW
instance(s qp):zf (iQ s qp) (fun r=>O.call 154 [qM s,qi qp] []=some (qi r,[])):=⟨by unfold iQ;exact gW⟩
instance:xy vh fun(s,qp) r=>O.loop 155 0 ⟨[(0,qM s),(1,qi qp)],[],0⟩=some (j?,⟨[(0,qM s),(1,qi r)],[],0⟩):=gP vh.partial_correctness fun _ _⟨_,_⟩=>gW
instance(s qp):zf (ai s qp) (fun r=>O.call 155 [qM s,qi qp] []=some (qi r,[])):=⟨by unfold ai;exact gW⟩
instance(s line):zf (se s line) (fun r=>O.call 157 [qM s,qi line] []=some (Y? [qi r.1,qi r.2],[])):=⟨by unfold se;exact gW⟩
@[go_sem] def iK (s:qa):((Int)⊕(Unit))->Ex×St
 | .inl y=>(G?,⟨[(0,qM s),(6,qi y)],[],0⟩)
 | .inr y=>(j?,⟨[(0,qM s),(6,f?)],[],0⟩)
instance:xy nr fun(s,wA,n,many,k) r=>O.loop 214 0 ⟨[(0,qM s),(1,qi wA),(2,qi n),(7,qi many),(8,qi k)],[],0⟩=some (iK s r):=gP nr.partial_correctness fun _ _⟨_,_,_,_,_⟩=>gW
instance(s wA n):zf (iJ s wA n) (fun r=>O.call 214 [qM s,qi wA,qi n] []=some (qi r,[])):=⟨by unfold iJ;exact gW⟩
instance(s line col wA):zf (rq s line col wA) (fun r=>O.call 158 [qM s,qi line,qi col,qi wA] []=some (Y? [qi r.1,qi r.2],[])):=⟨by unfold rq;exact gW⟩
instance(s):zf (Qq s) (fun r=>O.call 159 [qM s] []=some (qi r,[])):=⟨by unfold Qq;exact gW⟩
theorem G5{c r}(h:yY c=some r):O.call 160 [A? (n? R? (c.toNat:Int))] []=some (zu r,[]):=by revert h;unfold yY;refine K2 ?_ ?_;{rintro(⟨h1,h2,Xu,Kf,Vo,We,Wf⟩|⟨h1,h2,Xu,Kf,Vo,We,Wf⟩|⟨h1,h2,Xu,Kf,Vo,We,Wf⟩|⟨h1,h2,Xu,Kf,Vo,We,Wf⟩|⟨h1,h2,Xu,Kf,Vo,We,Wf⟩|⟨h1,h2,Xu,Kf,Vo,We,Wf⟩|⟨h1,h2,Xu,Kf,Vo,We,Wf⟩|⟨h1,h2,Xu,Kf,Vo,We,Wf⟩|⟨h1,h2,Xu,Kf,Vo,We,Wf⟩|⟨h1,h2,Xu,Kf,Vo,We,Wf⟩|⟨h1,h2,Xu,Kf,Vo,We,Wf⟩|⟨h1,h2,Xu,Kf,Vo,We,Wf⟩|⟨h1,h2,Xu,Kf,Vo,We,Wf⟩|⟨h1,h2,Xu,Kf,Vo,We,Wf⟩|⟨h1,h2,Xu,Kf,Vo,We,Wf⟩);all_goals rintro⟨⟩;exact fF fn160.h};rintro(⟨h1,h2,Xu,Kf,Vo,We,Wf⟩|⟨h1,h2,Xu,Kf,Vo,We,Wf⟩|⟨h1,h2,Xu,Kf,Vo,We,Wf⟩|⟨h1,h2,Xu,Kf,Vo,We,Wf⟩|⟨h1,h2,Xu,Kf,Vo,We,Wf⟩|⟨h1,h2,Xu,Kf,Vo,We,Wf⟩|⟨h1,h2,Xu,Kf,Vo,We,Wf⟩|⟨h1,h2,Xu,Kf,Vo,We,Wf⟩);all_goals rintro⟨⟩;exact fF fn160.h
instance(c:UInt8):zf (yY c) (fun r=>O.call 160 [A? (n? R? (c.toNat:Int))] []=some (zu r,[])):=⟨fun r=>G5 (r:=r)⟩
instance:xy nE fun(s,qp) r=>O.loop 105 5 ⟨[(0,qM s),(1,qi qp)],[],0⟩=some (j?,⟨[(0,qM s),(1,qi r)],[],0⟩):=gP nE.partial_correctness fun _ _⟨_,_⟩=>gW
instance:xy nF fun(s,qp) r=>O.loop 105 7 ⟨[(0,qM s),(1,qi qp)],[],0⟩=some (j?,⟨[(1,qi r)],[],0⟩):=gP nF.partial_correctness fun _ _⟨_,_⟩=>gW
instance:xy nC fun(s,qp) r=>O.loop 105 1 ⟨[(0,qM s),(1,qi qp)],[],0⟩=some (j?,⟨[(0,qM s),(1,qi r)],[],0⟩):=gP nC.partial_correctness fun _ _⟨_,_⟩=>gW
instance:xy nD fun(s,qp) r=>O.loop 105 3 ⟨[(0,qM s),(1,qi qp)],[],0⟩=some (j?,⟨[(1,qi r)],[],0⟩):=gP nD.partial_correctness fun _ _⟨_,_⟩=>gW
instance(s qp wA):zf (c9 s qp wA) (fun r=>O.call 105 [qM s,qi qp,qi wA] []=some (Y? [qi r.1,qi r.2],[])):=⟨by unfold c9;exact gW⟩
instance:xy xp fun(s,l,aQ,i,sp) r=>O.loop 60 0 ⟨[(0,qM s),(1,vv l),(2,zu aQ),(7,qt 0 sp),(8,qi i)],[(0,br sp)],1⟩=some (j?,⟨[(7,qt 0 r)],[(0,br r)],1⟩):=gP xp.partial_correctness fun _ _⟨_,_,_,_,_⟩=>gW
instance:xy km fun(s,i,out) r=>O.loop 106 0 ⟨[(3,vv s),(4,qt 0 out),(5,qi i)],[(0,br out)],1⟩=some (j?,⟨[(4,qt 0 r)],[(0,br r)],1⟩):=gP km.partial_correctness fun _ _⟨_,_,_⟩=>gW
instance(l):zf (a8 l) (fun r=>O.call 106 [vv l] []=some (vv r,[])):=⟨by unfold a8;exact gW⟩
instance:xy yf fun(u,i,es) r=>O.loop 60 2 ⟨[(14,vv u),(15,qt 1 es),(16,qi i)],[(0,g!),(1,br es)],2⟩=some (j?,⟨[(15,qt 1 r)],[(0,g!),(1,br r)],2⟩):=gP yf.partial_correctness fun _ _⟨_,_,_⟩=>gW
instance(s l aQ):zf (rS s l aQ) (fun r=>O.call 60 [qM s,vv l,zu aQ] []=some (vv r,[])):=⟨by unfold rS;exact gW⟩
instance:xy wO fun(s,wA,extend,l,i,out) r=>O.loop 62 0 ⟨[(0,qM s),(1,qi wA),(2,zu extend),(10,vv l),(12,qt 0 out),(13,qi i)],[(0,br out)],1⟩=some (j?,⟨[(0,qM s),(12,qt 0 r)],[(0,br r)],1⟩):=gP wO.partial_correctness fun _ _⟨_,_,_,_,_,_⟩=>gW
instance(s wA extend ss):zf (Xj s wA extend ss) (fun r=>O.call 62 [qM s,qi wA,zu extend,vv ss] []=some (Y? [vv r.1,qi r.2],[])):=⟨by unfold Xj;exact gW⟩
instance:xy uQ fun(s,qp,n,end_) r=>O.loop 215 0 ⟨[(0,qM s),(1,qi qp),(7,qi n),(8,qi end_)],[],0⟩=some (j?,⟨[(0,qM s),(1,qi qp),(7,qi r.1),(8,qi r.2)],[],0⟩):=gP uQ.partial_correctness fun _ _⟨_,_,_,_⟩=>gW
instance(s qp):zf (n9 s qp) (fun r=>O.call 215 [qM s,qi qp] []=some (Y? [qi r.1,qi r.2.1,zu r.2.2],[])):=⟨by unfold n9;exact gW⟩
instance:xy j8 fun(qp,end_,r_,z7,qT) r=>O.loop 216 0 ⟨[(0,x? 0 0),(1,qi qp),(7,qi end_)],[(0,y? [qM r_,qt 1 z7,qt 2 qT]),(1,bm z7),(2,bm qT)],3⟩=some (j?,⟨[(0,x? 0 0),(1,qi qp),(7,qi r)],[(0,y? [qM r_,qt 1 z7,qt 2 qT]),(1,bm z7),(2,bm qT)],3⟩):=gP j8.partial_correctness fun _ _⟨_,_,_,_,_⟩=>gW
instance(qp b r_ r_2):zf (gb qp b r_ r_2) (fun r=>O.call 216 [x? 0 0,qi qp] [(0,y? [qM b,qt 1 r_,qt 2 r_2]),(1,bm r_),(2,bm r_2)]=some (Y? [qM r.1,qi r.2.1,zu r.2.2],[(0,y? [qM b,qt 1 r_,qt 2 r_2]),(1,bm r_),(2,bm r_2)])):=⟨by unfold gb;exact gW⟩
instance(qp b r_ r_2):zf (vS qp b r_ r_2) (fun r=>O.call 165 [x? 0 0,qi qp] [(0,y? [qM b,qt 1 r_,qt 2 r_2]),(1,bm r_),(2,bm r_2)]=some (Y? [vv r.1,qi r.2.1,zu r.2.2],[(0,y? [qM b,qt 1 r_,qt 2 r_2]),(1,bm r_),(2,bm r_2)])):=⟨by unfold vS;exact gW⟩
instance(s qp opt):zf (tR s qp opt) (fun r=>O.call 168 [qM s,qi qp,zu opt] []=some (zu r,[])):=⟨by unfold tR;exact gW⟩
instance:xy zj fun(qp,pQ,r_,z7,qT,l,text) r=>O.loop 110 0 ⟨[(0,x? 0 0),(1,qi qp),(2,zu pQ),(8,qt 3 l),(9,qt 4 text)],[(0,y? [qM r_,qt 1 z7,qt 2 qT]),(1,bm z7),(2,bm qT),(3,br l),(4,br text)],5⟩=some (j?,⟨[(0,x? 0 0),(1,qi r.1),(2,zu pQ),(8,qt 3 r.2.1),(9,qt 4 r.2.2)],[(0,y? [qM r_,qt 1 z7,qt 2 qT]),(1,bm z7),(2,bm qT),(3,br r.2.1),(4,br r.2.2)],5⟩):=gP zj.partial_correctness fun _ _⟨_,_,_,_,_,_,_⟩=>gW
instance:xy jK fun(l,i,out) r=>O.loop 169 0 ⟨[(0,vv l),(3,qt 0 out),(4,qi i)],[(0,br out)],1⟩=some (j?,⟨[(3,qt 0 r)],[(0,br r)],1⟩):=gP jK.partial_correctness fun _ _⟨_,_,_⟩=>gW
instance(l):zf (fJ l) (fun r=>O.call 169 [vv l] []=some (vv r,[])):=⟨by unfold fJ;exact gW⟩
instance(qp pQ b r_ r_2):zf (wG qp pQ b r_ r_2) (fun r=>O.call 110 [x? 0 0,qi qp,zu pQ] [(0,y? [qM b,qt 1 r_,qt 2 r_2]),(1,bm r_),(2,bm r_2)]=some (Y? [vv r.1,qi r.2],[(0,y? [qM b,qt 1 r_,qt 2 r_2]),(1,bm r_),(2,bm r_2)])):=⟨by unfold wG;exact gW⟩
instance:xy vt fun(s,k,t4,b) r=>O.loop 166 0 ⟨[(0,qM s),(4,x? 0 0),(7,qt 1 b),(8,qi k)],[(0,bb t4),(1,br b)],2⟩=some (j?,⟨[(0,qM s),(4,x? 0 0),(7,qt 1 r.2),(8,qi r.1)],[(0,bb t4),(1,br r.2)],2⟩):=gP vt.partial_correctness fun _ _⟨_,_,_,_⟩=>gW
instance(b):zf (xn b) (fun r=>O.call 303 [x? 0 0] [(0,bb b)]=some (qM r,[(0,bb b)])):=⟨by unfold xn;exact gW⟩
instance(c b):zf (qK c b) (fun r=>O.call 306 [x? 0 0,qM c] [(0,bb b)]=some (zu r.1,[(0,bb r.2)])):=⟨by unfold qK;exact gW⟩
instance(c):zf (rf c) (fun r=>O.call 368 [A? (n? R? (c.toNat:Int))] []=some (Y? [vv r.1,zu r.2],[])):=⟨by unfold rf;exact gW⟩
instance(c):zf (wY c) (fun r=>O.call 369 [qM c] []=some (Y? [qM r.1,zu r.2],[])):=⟨by unfold wY;exact gW⟩
instance(b):zf (vO b) (fun r=>O.call 365 [x? 0 0] [(0,bb b)]=some (Y? [vv r.1,qM r.2.1,zu r.2.2.1],[(0,bb r.2.2.2)])):=⟨by unfold vO;exact gW⟩
@[go_sem] def pI (t2:qG) (x:qG):((Int×qd×qG×(List qV))⊕(qd×(List qV)))->Ex×St
 | .inl y=>(G?,⟨[(2,x? 1 0),(3,qi y.1),(4,x? 2 0),(5,qt 3 y.2.2.2)],[(0,bb y.2.1),(1,bb y.2.2.1),(2,bb x),(3,br y.2.2.2)],4⟩)
 | .inr y=>(j?,⟨[(2,x? 1 0),(3,f?),(4,x? 2 0),(5,qt 3 y.2)],[(0,bb y.1),(1,bb t2),(2,bb x),(3,br y.2)],4⟩)
instance:xy zz fun(r_,t2,x,rows) r=>O.loop 351 0 ⟨[(0,x? 0 0),(2,x? 1 0),(4,x? 2 0),(5,qt 3 rows)],[(0,bb r_),(1,bb t2),(2,bb x),(3,br rows)],4⟩=some (pI t2 x r):=gP zz.partial_correctness fun _ _⟨_,_,_,_⟩=>gW
instance:xy ud fun(rows,s,i,k,r_) r=>O.loop 366 2 ⟨[(0,vv rows),(3,vv s),(4,qi i),(5,x? 0 0),(6,qi k)],[(0,bb r_)],1⟩=some (j?,⟨[(0,vv rows),(3,vv s),(4,qi i),(5,x? 0 0),(6,qi r)],[(0,bb r_)],1⟩):=gP ud.partial_correctness fun _ _⟨_,_,_,_,_⟩=>gW
instance:xy kV fun(rows,s,i) r=>O.loop 366 0 ⟨[(0,vv rows),(3,vv s),(4,qi i)],[],0⟩=some (j?,⟨[(3,vv r)],[],0⟩):=gP kV.partial_correctness fun _ _⟨_,_,_⟩=>gW
instance:xy kX fun(s,i,out) r=>O.loop 366 4 ⟨[(3,vv s),(7,qt 0 out),(8,qi i)],[(0,br out)],1⟩=some (j?,⟨[(7,qt 0 r)],[(0,br r)],1⟩):=gP kX.partial_correctness fun _ _⟨_,_,_⟩=>gW
instance(rows):zf (cP rows) (fun r=>O.call 366 [vv rows] []=some (vv r,[])):=⟨by unfold cP;exact gW⟩
instance(b):zf (uf b) (fun r=>O.call 351 [x? 0 0] [(0,bb b)]=some (Y? [vv r.1,qi r.2.1],[(0,bb r.2.2)])):=⟨by unfold uf;exact gW⟩
instance(b):zf (hC b) (fun r=>O.call 352 [x? 0 0] [(0,bb b)]=some (Y? [vv r.1,qi r.2.1],[(0,bb r.2.2)])):=⟨by unfold hC;exact gW⟩
instance:xy jQ fun(n,many,r_) r=>O.loop 353 0 ⟨[(0,x? 0 0),(4,qi n),(5,qi many)],[(0,bb r_)],1⟩=some (j?,⟨[(4,qi r.1),(5,qi r.2.1)],[(0,bb r.2.2)],1⟩):=gP jQ.partial_correctness fun _ _⟨_,_,_⟩=>gW
instance(b):zf (wj b) (fun r=>O.call 353 [x? 0 0] [(0,bb b)]=some (Y? [qi r.1,zu r.2.1],[(0,bb r.2.2)])):=⟨by unfold wj;exact gW⟩
instance(x b):zf (ky x b) (fun r=>O.call 329 [x? 0 0,vv x] [(0,bb b)]=some (Y? [vv r.1,qi r.2.1],[(0,bb r.2.2)])):=⟨by unfold ky;exact gW⟩
instance:xy wX fun(kind,xs,i,l) r=>O.loop 330 0 ⟨[(0,qi kind),(1,vv xs),(5,qt 0 l),(6,qi i)],[(0,br l)],1⟩=some (j?,⟨[(5,qt 0 r)],[(0,br r)],1⟩):=gP wX.partial_correctness fun _ _⟨_,_,_,_⟩=>gW
instance(kind xs):zf (sP kind xs) (fun r=>O.call 330 [qi kind,vv xs] []=some (vv r,[])):=⟨by unfold sP;exact gW⟩
instance(xs):zf (iu xs) (fun r=>O.call 305 [vv xs] []=some (vv r,[])):=⟨by unfold iu;exact gW⟩
instance(xs):zf (iq xs) (fun r=>O.call 307 [vv xs] []=some (vv r,[])):=⟨by unfold iq;exact gW⟩
@[go_sem] def yF:((Int×qd×qG×(List qG))⊕(Int×qd×qG))->Ex×St
 | .inl y=>(G?,⟨[(4,x? 1 0),(5,qi y.1)],[(0,bb y.2.1),(1,bb y.2.2.1),(2,br y.2.2.2)],3⟩)
 | .inr y=>(G?,⟨[(4,x? 1 0),(5,qi y.1)],[(0,bb y.2.1),(1,bb y.2.2),(2,g!)],3⟩)
@[go_sem] def yG (deep:Int) (t4:qG) (alts:(List qG)):((Int×qd×qG×(List qG))⊕(qd×(List qG)))->Ex×St
 | .inl y=>(G?,⟨[(0,x? 0 0),(1,qi deep),(4,x? 1 0),(5,qi y.1),(6,qt 2 alts),(7,qt 3 y.2.2.2)],[(0,bb y.2.1),(1,bb y.2.2.1),(2,br alts),(3,br y.2.2.2)],4⟩)
 | .inr y=>(j?,⟨[(0,x? 0 0),(1,qi deep),(4,x? 1 0),(5,f?),(6,qt 2 alts),(7,qt 3 y.2)],[(0,bb y.1),(1,bb t4),(2,br alts),(3,br y.2)],4⟩)
theorem kl:(∀ p r,zI p=some r->match p with|(deep,b)=>O.call 265 [x? 0 0,qi deep] [(0,bb b)]=some (Y? [vv r.1,qi r.2.1],[(0,bb r.2.2)]))/\(∀ p r,xt p=some r->match p with|(deep,r_,t4,alts)=>O.loop 265 0 ⟨[(0,x? 0 0),(1,qi deep),(4,x? 1 0),(6,qt 2 alts)],[(0,bb r_),(1,bb t4),(2,br alts)],3⟩=some (yF r))/\(∀ p r,xu p=some r->match p with|(deep,r_,t4,alts,sx)=>O.loop 265 2 ⟨[(0,x? 0 0),(1,qi deep),(4,x? 1 0),(6,qt 2 alts),(7,qt 3 sx)],[(0,bb r_),(1,bb t4),(2,br alts),(3,br sx)],4⟩=some (yG deep t4 alts r))/\(∀ p r,vP p=some r->match p with|(deep,b)=>O.call 304 [x? 0 0,qi deep] [(0,bb b)]=some (Y? [vv r.1,qi r.2.1],[(0,bb r.2.2)]))/\(∀ p r,ke p=some r->match p with|(deep,b)=>O.call 328 [x? 0 0,qi deep] [(0,bb b)]=some (Y? [vv r.1,qi r.2.1],[(0,bb r.2.2)])):=by refine zI.mutual_partial_correctness _ _ _ _ _ ?_ ?_ ?_ ?_ ?_;intro xt i;have j244:=fun p=>zf.mk (i p);clear i;rintro⟨_,_⟩;exact gW;intro xt xu i244 LO;have j244:=fun p=>zf.mk (i244 p);clear i244;have j245:=fun p=>zf.mk (LO p);clear LO;rintro⟨_,_,_,_⟩;exact gW;intro xu vP LO i247;have j245:=fun p=>zf.mk (LO p);clear LO;have j247:=fun p=>zf.mk (i247 p);clear i247;rintro⟨_,_,_,_,_⟩;exact gW;intro ke i;have j249:=fun p=>zf.mk (i p);clear i;rintro⟨_,_⟩;exact gW;intro zI i;have j243:=fun p=>zf.mk (i p);clear i;rintro⟨_,_⟩;exact gW
instance(p):zf (zI p) (fun r=>match p with|(deep,b)=>O.call 265 [x? 0 0,qi deep] [(0,bb b)]=some (Y? [vv r.1,qi r.2.1],[(0,bb r.2.2)])):=⟨fun r=>kl.1 p r⟩
instance(p):zf (xt p) (fun r=>match p with|(deep,r_,t4,alts)=>O.loop 265 0 ⟨[(0,x? 0 0),(1,qi deep),(4,x? 1 0),(6,qt 2 alts)],[(0,bb r_),(1,bb t4),(2,br alts)],3⟩=some (yF r)):=⟨fun r=>kl.2.1 p r⟩
instance(p):zf (xu p) (fun r=>match p with|(deep,r_,t4,alts,sx)=>O.loop 265 2 ⟨[(0,x? 0 0),(1,qi deep),(4,x? 1 0),(6,qt 2 alts),(7,qt 3 sx)],[(0,bb r_),(1,bb t4),(2,br alts),(3,br sx)],4⟩=some (yG deep t4 alts r)):=⟨fun r=>kl.2.2.1 p r⟩
instance(p):zf (vP p) (fun r=>match p with|(deep,b)=>O.call 304 [x? 0 0,qi deep] [(0,bb b)]=some (Y? [vv r.1,qi r.2.1],[(0,bb r.2.2)])):=⟨fun r=>kl.2.2.2.1 p r⟩
instance(p):zf (ke p) (fun r=>match p with|(deep,b)=>O.call 328 [x? 0 0,qi deep] [(0,bb b)]=some (Y? [vv r.1,qi r.2.1],[(0,bb r.2.2)])):=⟨fun r=>kl.2.2.2.2 p r⟩
instance(s):zf (fx s) (fun r=>O.call 217 [qM s] []=some (Y? [vv r.1,qi r.2],[])):=⟨by unfold fx;exact gW⟩
@[go_sem] def aX (t4:zt) (f:zt):((Int×Bool×zt×zt)⊕(Unit))->Ex×St
 | .inl y=>(G?,⟨[(4,x? 0 0),(5,qi y.1),(6,zu y.2.1)],[(0,bb y.2.2.1),(1,bb y.2.2.2)],2⟩)
 | .inr y=>(j?,⟨[(4,x? 0 0),(5,f?),(6,f?)],[(0,bb t4),(1,bb f)],2⟩)
instance:xy gH fun(s,end_,w,t4,f) r=>O.loop 266 1 ⟨[(0,qM s),(4,x? 0 0),(8,qi end_),(10,x? 1 0),(11,qi w)],[(0,bb t4),(1,bb f)],2⟩=some (aX t4 f r):=gP gH.partial_correctness fun _ _⟨_,_,_,_,_⟩=>gW
instance(s qp colon):zf (tQ s qp colon) (fun r=>O.call 267 [qM s,qi qp,zu colon] []=some (zu r,[])):=⟨by unfold tQ;exact gW⟩
instance:xy ug fun(s,qp,stop,b) r=>O.loop 309 0 ⟨[(0,qM s),(1,qi qp),(2,A? (n? R? (stop.toNat:Int))),(9,qt 0 b)],[(0,br b)],1⟩=some (j?,⟨[(0,qM s),(1,qi r.1),(9,qt 0 r.2)],[(0,br r.2)],1⟩):=gP ug.partial_correctness fun _ _⟨_,_,_,_⟩=>gW
instance(s qp stop):zf (hJ s qp stop) (fun r=>O.call 309 [qM s,qi qp,A? (n? R? (stop.toNat:Int))] []=some (Y? [qM r.1,qi r.2.1,zu r.2.2],[])):=⟨by unfold hJ;exact gW⟩
instance(s qp):zf (fG s qp) (fun r=>O.call 266 [qM s,qi qp] []=some (Y? [vv r.1,qi r.2.1,zu r.2.2],[])):=⟨by unfold fG;exact gW⟩
instance(c r_):zf (mT c r_) (fun r=>O.call 268 [qt 0 r_,A? (n? R? (c.toNat:Int))] [(0,br r_)]=some (qt 0 r,[(0,br r)])):=⟨by unfold mT;exact gW⟩
instance:xy kS fun(s,qp,fs) r=>O.loop 218 0 ⟨[(0,qM s),(1,qi qp),(7,qt 0 fs)],[(0,br fs)],1⟩=some (j?,⟨[(0,qM s),(1,qi r.1),(7,qt 0 r.2)],[(0,br r.2)],1⟩):=gP kS.partial_correctness fun _ _⟨_,_,_⟩=>gW
instance(s qp):zf (fE s qp) (fun r=>O.call 218 [qM s,qi qp] []=some (Y? [vv r.1,qi r.2.1,zu r.2.2],[])):=⟨by unfold fE;exact gW⟩
@[go_sem] def fI (s:qa) (t4:zn) (z7:(List UInt8)) (BF:qG):((Int×Bool×Int×zn×zn)⊕(Int×zn))->Ex×St
 | .inl y=>(G?,⟨[(0,qM s),(4,x? 0 0),(5,qi y.1),(6,zu y.2.1),(12,qi y.2.2.1),(14,x? 3 0)],[(0,bb y.2.2.2.1),(1,br z7),(2,bb BF),(3,bb y.2.2.2.2)],4⟩)
 | .inr y=>(j?,⟨[(0,qM s),(4,x? 0 0),(5,f?),(6,f?),(12,qi y.1),(14,x? 3 0)],[(0,bb t4),(1,br z7),(2,bb BF),(3,bb y.2)],4⟩)
instance:xy vu fun(s,end_,t4,z7,BF,f) r=>O.loop 166 2 ⟨[(0,qM s),(4,x? 0 0),(12,qi end_),(14,x? 3 0)],[(0,bb t4),(1,br z7),(2,bb BF),(3,bb f)],4⟩=some (fI s t4 z7 BF r):=gP vu.partial_correctness fun _ _⟨_,_,_,_,_,_⟩=>gW
instance(s qp):zf (cU s qp) (fun r=>O.call 166 [qM s,qi qp] []=some (Y? [vv r.1,qi r.2.1,zu r.2.2],[])):=⟨by unfold cU;exact gW⟩
instance:xy j9 fun(qp,r_,z7,qT,l,text) r=>O.loop 167 0 ⟨[(0,x? 0 0),(1,qi qp),(6,qt 3 l),(7,qt 4 text)],[(0,y? [qM r_,qt 1 z7,qt 2 qT]),(1,bm z7),(2,bm qT),(3,br l),(4,br text)],5⟩=some (j?,⟨[(0,x? 0 0),(1,qi r.1),(6,qt 3 r.2.1),(7,qt 4 r.2.2)],[(0,y? [qM r_,qt 1 z7,qt 2 qT]),(1,bm z7),(2,bm qT),(3,br r.2.1),(4,br r.2.2)],5⟩):=gP j9.partial_correctness fun _ _⟨_,_,_,_,_,_⟩=>gW
instance(qp b r_ r_2):zf (gf qp b r_ r_2) (fun r=>O.call 167 [x? 0 0,qi qp] [(0,y? [qM b,qt 1 r_,qt 2 r_2]),(1,bm r_),(2,bm r_2)]=some (Y? [vv r.1,qi r.2],[(0,y? [qM b,qt 1 r_,qt 2 r_2]),(1,bm r_),(2,bm r_2)])):=⟨by unfold gf;exact gW⟩
instance(qp b r_ r_2):zf (yx qp b r_ r_2) (fun r=>O.call 109 [x? 0 0,qi qp] [(0,y? [qM b,qt 1 r_,qt 2 r_2]),(1,bm r_),(2,bm r_2)]=some (Y? [vv r.1,qi r.2.1,zu r.2.2],[(0,y? [qM b,qt 1 r_,qt 2 r_2]),(1,bm r_),(2,bm r_2)])):=⟨by unfold yx;exact gW⟩
instance:xy yL fun(s,qp,QG,z7,r_) r=>O.loop 63 0 ⟨[(0,qM s),(4,x? 2 0),(5,qi qp)],[(0,bm QG),(1,bm z7),(2,y? [qM r_,qt 0 QG,qt 1 z7])],3⟩=some (j?,⟨[(4,x? 2 0)],[(0,bm r.1),(1,bm r.2),(2,y? [qM r_,qt 0 r.1,qt 1 r.2])],3⟩):=gP yL.partial_correctness fun _ _⟨_,_,_,_,_⟩=>gW
theorem Q0:(∀ p r,nf p=some r->O.call 111 [vv p] []=some (qi r,[]))/\(∀ p r,kT p=some r->match p with|(l,n,i)=>O.loop 111 0 ⟨[(0,vv l),(3,qi n),(4,qi i)],[],0⟩=some (j?,⟨[(3,qi r)],[],0⟩)):=by refine nf.mutual_partial_correctness _ _ ?_ ?_;intro kT i;have j279:=fun p=>zf.mk (i p);clear i;rintro _;exact gW;intro nf kT i278 i279;have j278:=fun p=>zf.mk (i278 p);clear i278;have j279:=fun p=>zf.mk (i279 p);clear i279;rintro⟨_,_,_⟩;exact gW
instance(p):zf (nf p) (fun r=>O.call 111 [vv p] []=some (qi r,[])):=⟨fun r=>Q0.1 p r⟩
instance(p):zf (kT p) (fun r=>match p with|(l,n,i)=>O.loop 111 0 ⟨[(0,vv l),(3,qi n),(4,qi i)],[],0⟩=some (j?,⟨[(3,qi r)],[],0⟩)):=⟨fun r=>Q0.2 p r⟩
instance(s):zf (fK s) (fun r=>O.call 63 [qM s] []=some (Y? [vv r.1,qi r.2],[])):=⟨by unfold fK;exact gW⟩
@[go_sem] def aW (a:qG) (b:qG):((Bool)⊕(Unit))->Ex×St
 | .inl y=>(G?,⟨[(2,x? 0 0),(3,x? 1 0),(4,zu y)],[(0,bb a),(1,bb b)],2⟩)
 | .inr y=>(j?,⟨[(2,x? 0 0),(3,x? 1 0),(4,f?)],[(0,bb a),(1,bb b)],2⟩)
instance:xy th fun(i,a,b) r=>O.loop 269 0 ⟨[(2,x? 0 0),(3,x? 1 0),(5,qi i)],[(0,bb a),(1,bb b)],2⟩=some (aW a b r):=gP th.partial_correctness fun _ _⟨_,_,_⟩=>gW
end Go.Proofs.YtnojdepmnnebnaaGreat
