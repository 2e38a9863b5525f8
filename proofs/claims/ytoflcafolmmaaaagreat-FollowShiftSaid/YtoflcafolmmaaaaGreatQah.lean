/-
  What the machine's calls come to: the plain functions.
-/
import Derived.Test.YtoflcafolmmaaaaGreatQag
open Go.Gm.AV renaming ptr->x?,undef->f?,xR->V?,pv->C?
open Go.Gm.Ex renaming normal->j?,ret->G?
open Go.Gm.PV renaming int->n?
open Go.Gm.qD renaming box->y?,xt->h!
open Go.IntKind renaming u8->P?
open Go.Proofs.YtoflcafolmmaaaaGreat.qe renaming cx->a_
set_option linter.unusedSimpArgs false
set_option linter.unusedVariables false
set_option maxRecDepth 100000
namespace Go.Proofs.YtoflcafolmmaaaaGreat
open Go Go.Gm
set_option maxHeartbeats 4000000
instance(x i b):zf (nS x i b) (fun r=>O.call 379 [x? 0 0,vv x,qi i] [(0,bb b)]=some (V? [qi r.1,zu r.2],[(0,bb b)])):=⟨by unfold nS;exact gW⟩
@[go_sem] def pM:((Int×(Sl qn)×Bool×qf)⊕(qf))->Ex×St
 | .inl y=>(G?,⟨[(8,qi y.1),(9,vv y.2.1),(10,zu y.2.2.1)],[(0,bb y.2.2.2)],1⟩)
 | .inr y=>(j?,⟨[(8,f?),(9,f?),(10,f?)],[(0,bb y)],1⟩)
theorem bg:(∀ p r,za p=some r->match p with|(k,i,parts,b)=>O.call 353 [x? 0 0,C? (a_ k),qi i,vv parts] [(0,bb b)]=some (V? [qi r.1,vv r.2.1,zu r.2.2.1],[(0,bb r.2.2.2)]))/\(∀ p r,uP p=some r->match p with|(k,i,parts,b)=>O.call 369 [x? 0 0,C? (a_ k),qi i,vv parts] [(0,bb b)]=some (V? [qi r.1,vv r.2.1,zu r.2.2.1],[(0,bb r.2.2.2)]))/\(∀ p r,kq p=some r->match p with|(k,i,parts,g,j,r_)=>O.loop 353 3 ⟨[(0,x? 0 0),(1,C? (a_ k)),(2,qi i),(3,vv parts),(15,qi g),(16,qi j)],[(0,bb r_)],1⟩=some (pM r))/\(∀ p r,jQ p=some r->match p with|(k,i,parts,b)=>O.call 368 [x? 0 0,C? (a_ k),qi i,vv parts] [(0,bb b)]=some (V? [qi r.1,vv r.2.1,zu r.2.2.1],[(0,bb r.2.2.2)]))/\(∀ p r,xx p=some r->match p with|(k,i,parts,b)=>O.call 378 [x? 0 0,C? (a_ k),qi i,vv parts] [(0,bb b)]=some (V? [qi r.1,vv r.2.1,zu r.2.2.1],[(0,bb r.2.2.2)])):=by refine za.mutual_partial_correctness _ _ _ _ _ ?_ ?_ ?_ ?_ ?_;intro za uP kq jQ BW i163 Li i158;have j157:=fun p=>zf.mk (BW p);clear BW;have j163:=fun p=>zf.mk (i163 p);clear i163;have j162:=fun p=>zf.mk (Li p);clear Li;have j158:=fun p=>zf.mk (i158 p);clear i158;rintro⟨_,_,_,_⟩;exact gW;intro za i;have j157:=fun p=>zf.mk (i p);clear i;rintro⟨_,_,_,_⟩;exact gW;intro za kq BW Li;have j157:=fun p=>zf.mk (BW p);clear BW;have j162:=fun p=>zf.mk (Li p);clear Li;rintro⟨_,_,_,_,_,_⟩;exact gW;intro za xx BW i159;have j157:=fun p=>zf.mk (BW p);clear BW;have j159:=fun p=>zf.mk (i159 p);clear i159;rintro⟨_,_,_,_⟩;exact gW;intro za i;have j157:=fun p=>zf.mk (i p);clear i;rintro⟨_,_,_,_⟩;exact gW
instance(p):zf (za p) (fun r=>match p with|(k,i,parts,b)=>O.call 353 [x? 0 0,C? (a_ k),qi i,vv parts] [(0,bb b)]=some (V? [qi r.1,vv r.2.1,zu r.2.2.1],[(0,bb r.2.2.2)])):=⟨fun r=>bg.1 p r⟩
instance(p):zf (uP p) (fun r=>match p with|(k,i,parts,b)=>O.call 369 [x? 0 0,C? (a_ k),qi i,vv parts] [(0,bb b)]=some (V? [qi r.1,vv r.2.1,zu r.2.2.1],[(0,bb r.2.2.2)])):=⟨fun r=>bg.2.1 p r⟩
instance(p):zf (kq p) (fun r=>match p with|(k,i,parts,g,j,r_)=>O.loop 353 3 ⟨[(0,x? 0 0),(1,C? (a_ k)),(2,qi i),(3,vv parts),(15,qi g),(16,qi j)],[(0,bb r_)],1⟩=some (pM r)):=⟨fun r=>bg.2.2.1 p r⟩
instance(p):zf (jQ p) (fun r=>match p with|(k,i,parts,b)=>O.call 368 [x? 0 0,C? (a_ k),qi i,vv parts] [(0,bb b)]=some (V? [qi r.1,vv r.2.1,zu r.2.2.1],[(0,bb r.2.2.2)])):=⟨fun r=>bg.2.2.2.1 p r⟩
instance(p):zf (xx p) (fun r=>match p with|(k,i,parts,b)=>O.call 378 [x? 0 0,C? (a_ k),qi i,vv parts] [(0,bb b)]=some (V? [qi r.1,vv r.2.1,zu r.2.2.1],[(0,bb r.2.2.2)])):=⟨fun r=>bg.2.2.2.2 p r⟩
instance(x i b):zf (rM x i b) (fun r=>O.call 332 [x? 0 0,vv x,qi i] [(0,bb b)]=some (V? [vv r.1,zu r.2.1],[(0,bb r.2.2)])):=⟨by unfold rM;exact gW⟩
@[go_sem] def se (x:qE) (t6:qj):((Bool×qf×qj)⊕(qf))->Ex×St
 | .inl y=>(G?,⟨[(6,x? 2 0),(7,zu y.1)],[(0,bb y.2.1),(1,bb x),(2,bb y.2.2)],3⟩)
 | .inr y=>(j?,⟨[(6,x? 2 0),(7,f?)],[(0,bb y),(1,bb x),(2,bb t6)],3⟩)
instance:xv vP fun(i,r_,x,t6) r=>O.loop 305 0 ⟨[(0,x? 0 0),(2,qi i),(4,x? 1 0),(6,x? 2 0)],[(0,bb r_),(1,bb x),(2,bb t6)],3⟩=some (se x t6 r):=gP vP.partial_correctness fun _ _⟨_,_,_,_⟩=>gW
instance(x i b):zf (bf x i b) (fun r=>O.call 305 [x? 0 0,vv x,qi i] [(0,bb b)]=some (V? [vv r.1,zu r.2.1],[(0,bb r.2.2)])):=⟨by unfold bf;exact gW⟩
@[go_sem] def rO (r_:qf):((Int)⊕(Unit))->Ex×St
 | .inl y=>(G?,⟨[(4,qi y)],[(0,bb r_)],1⟩)
 | .inr y=>(j?,⟨[(4,f?)],[(0,bb r_)],1⟩)
instance:xv kA fun(qo,i,r_) r=>O.loop 306 0 ⟨[(0,x? 0 0),(1,qi qo),(5,qi i)],[(0,bb r_)],1⟩=some (rO r_ r):=gP kA.partial_correctness fun _ _⟨_,_,_⟩=>gW
instance(qo b):zf (uQ qo b) (fun r=>O.call 306 [x? 0 0,qi qo] [(0,bb b)]=some (qi r,[(0,bb b)])):=⟨by unfold uQ;exact gW⟩
@[go_sem] def iv (x:qE):(((Sl qj)×Int×Int×qf×(List qj))⊕(qf×(List qj)))->Ex×St
 | .inl y=>(G?,⟨[(8,vv y.1),(9,qi y.2.1),(10,qi y.2.2.1),(11,x? 1 0),(12,qq 2 y.2.2.2.2)],[(0,bb x),(1,bb y.2.2.2.1),(2,br y.2.2.2.2)],3⟩)
 | .inr y=>(j?,⟨[(8,f?),(9,f?),(10,f?),(11,x? 1 0),(12,qq 2 y.2)],[(0,bb x),(1,bb y.1),(2,br y.2)],3⟩)
instance:xv bU fun(i,x,r_,out) r=>O.loop 269 0 ⟨[(4,x? 0 0),(11,x? 1 0),(12,qq 2 out),(13,qi i)],[(0,bb x),(1,bb r_),(2,br out)],3⟩=some (iv x r):=gP bU.partial_correctness fun _ _⟨_,_,_,_⟩=>gW
instance(x fold s fuel):zf (iu x fold s fuel) (fun r=>O.call 269 [vv x,zu fold,qM s,qi fuel] []=some (V? [vv r.1,qi r.2.1,qi r.2.2],[])):=⟨by unfold iu;exact gW⟩
instance:xv hQ fun(s,i,f,m,parts) r=>O.loop 271 0 ⟨[(1,qM s),(3,x? 0 0),(5,x? 1 0),(7,qq 2 parts),(8,qi i)],[(0,bb f),(1,bb m),(2,bm parts)],3⟩=some (j?,⟨[(3,x? 0 0),(7,qq 2 r)],[(0,bb f),(1,bb m),(2,bm r)],3⟩):=gP hQ.partial_correctness fun _ _⟨_,_,_,_,_⟩=>gW
instance(c):zf (fA c) (fun r=>O.call 354 [C? (n? P? (c.toNat:Int))] []=some (C? (n? P? (r.toNat:Int)),[])):=⟨by unfold fA;exact gW⟩
instance:xv mg fun(i,b) r=>O.loop 333 1 ⟨[(6,qq 0 b),(7,qi i)],[(0,bm b)],1⟩=some (j?,⟨[(6,qq 0 r)],[(0,bm r)],1⟩):=gP mg.partial_correctness fun _ _⟨_,_⟩=>gW
instance(c):zf (sM c) (fun r=>O.call 355 [C? (n? P? (c.toNat:Int))] []=some (C? (n? P? (r.toNat:Int)),[])):=⟨by unfold sM;exact gW⟩
instance:xv mh fun(i,b) r=>O.loop 333 3 ⟨[(6,qq 0 b),(8,qi i)],[(0,bm b)],1⟩=some (j?,⟨[(6,qq 0 r)],[(0,bm r)],1⟩):=gP mh.partial_correctness fun _ _⟨_,_⟩=>gW
instance(c):zf (dy c) (fun r=>O.call 380 [C? (n? P? (c.toNat:Int))] []=some (zu r,[])):=⟨by unfold dy;exact gW⟩
instance(c):zf (fx c) (fun r=>O.call 370 [C? (n? P? (c.toNat:Int))] []=some (zu r,[])):=⟨by unfold fx;exact gW⟩
instance:xv jz fun(s,i,l) r=>O.loop 356 0 ⟨[(0,qM s),(3,qq 0 l),(4,qi i)],[(0,br l)],1⟩=some (j?,⟨[(3,qq 0 r)],[(0,br r)],1⟩):=gP jz.partial_correctness fun _ _⟨_,_,_⟩=>gW
instance(s):zf (cI s) (fun r=>O.call 356 [qM s] []=some (vv r,[])):=⟨by unfold cI;exact gW⟩
instance:xv yL fun(wC,l,out,i,Qz) r=>O.loop 333 5 ⟨[(1,qi wC),(9,vv l),(10,qM out),(11,qi i)],[(0,bm Qz)],1⟩=some (j?,⟨[(10,qM r)],[(0,bm Qz)],1⟩):=gP yL.partial_correctness fun _ _⟨_,_,_,_,_⟩=>gW
instance(s wC):zf (sL s wC) (fun r=>O.call 333 [qM s,qi wC] []=some (V? [qM r.1,qi r.2],[])):=⟨by unfold sL;exact gW⟩
instance:xv zr fun(fs,parts,s,i) r=>O.loop 308 0 ⟨[(0,vv fs),(1,vv parts),(5,qM s),(6,qi i)],[],0⟩=some (j?,⟨[(5,qM r)],[],0⟩):=gP zr.partial_correctness fun _ _⟨_,_,_,_⟩=>gW
instance(fs parts):zf (cJ fs parts) (fun r=>O.call 308 [vv fs,vv parts] []=some (qM r,[])):=⟨by unfold cJ;exact gW⟩
instance(f s m):zf (dJ f s m) (fun r=>O.call 271 [vv f,qM s,vv m] []=some (qM r,[])):=⟨by unfold dJ;exact gW⟩
@[go_sem] def fD (s:qa) (left:Int) (f:zn):((qa×Int×Int×qa×Int)⊕(qa×Int))->Ex×St
 | .inl y=>(G?,⟨[(1,qM s),(6,qM y.1),(7,qi y.2.1),(8,qi y.2.2.1),(10,qi left),(14,qM y.2.2.2.1),(15,qi y.2.2.2.2)],[(0,bb f)],1⟩)
 | .inr y=>(j?,⟨[(1,qM s),(6,f?),(7,f?),(8,f?),(10,qi left),(14,qM y.1),(15,qi y.2)],[(0,bb f)],1⟩)
instance:xv uj fun(s,ms,left,out,qo,i,f) r=>O.loop 223 0 ⟨[(1,qM s),(3,x? 0 0),(9,vv ms),(10,qi left),(14,qM out),(15,qi qo),(16,qi i)],[(0,bb f)],1⟩=some (fD s left f r):=gP uj.partial_correctness fun _ _⟨_,_,_,_,_,_,_⟩=>gW
instance(m ok_ b):zf (fu m ok_ b) (fun r=>O.call 307 [x? 0 0,vv m,zu ok_] [(0,bb b)]=some (V? [vv r.1,qi r.2.1,zu r.2.2.1,qi r.2.2.2],[(0,bb b)])):=⟨by unfold fu;exact gW⟩
instance(x fold s qo fuel):zf (ft x fold s qo fuel) (fun r=>O.call 270 [vv x,zu fold,qM s,qi qo,qi fuel] []=some (V? [vv r.1,qi r.2.1,zu r.2.2.1,qi r.2.2.2],[])):=⟨by unfold ft;exact gW⟩
@[go_sem] def cK (s:qa) (left:Int) (f:zn) (ej:qj) (qT:(List qj)) (ms:(List qj)):((qa×Int×Int×qa×Int)⊕(qa×Int))->Ex×St
 | .inl y=>(G?,⟨[(1,qM s),(6,qM y.1),(7,qi y.2.1),(8,qi y.2.2.1),(10,qi left),(14,qM y.2.2.2.1),(15,qi y.2.2.2.2)],[(0,bb f),(1,bb ej),(2,bm qT),(3,bm ms)],4⟩)
 | .inr y=>(j?,⟨[(1,qM s),(6,f?),(7,f?),(8,f?),(10,qi left),(14,qM y.1),(15,qi y.2)],[(0,bb f),(1,bb ej),(2,bm qT),(3,bm ms)],4⟩)
instance:xv wH fun(s,left,out,qo,i,f,ej,qT,ms) r=>O.loop 223 0 ⟨[(1,qM s),(3,x? 0 0),(9,qq 3 ms),(10,qi left),(14,qM out),(15,qi qo),(16,qi i)],[(0,bb f),(1,bb ej),(2,bm qT),(3,bm ms)],4⟩=some (cK s left f ej qT ms r):=gP wH.partial_correctness fun _ _⟨_,_,_,_,_,_,_,_,_⟩=>gW
instance(f s fuel):zf (hK f s fuel) (fun r=>O.call 223 [vv f,qM s,qi fuel] []=some (V? [qM r.1,qi r.2.1,qi r.2.2],[])):=⟨by unfold hK;exact gW⟩
@[go_sem] def pG (E8:qk):((Int×qa×(Sl qy)×(List qb)×(Sl (Sl (Sl Int))))⊕(qa×(Sl qy)×(List qb)×(Sl (Sl (Sl Int)))))->Ex×St
 | .inl y=>(G?,⟨[(8,qi y.1)],[(0,y? [qM y.2.1,vv y.2.2.1,qq 1 y.2.2.2.1,qq 2 y.2.2.2.2.l]),(1,bm y.2.2.2.1),(2,m9 [1,1] 1 (my 1 zK) y.2.2.2.2),(3,bb E8),(4,h!),(5,h!),(6,h!)],7⟩)
 | .inr y=>(j?,⟨[(8,f?)],[(0,y? [qM y.1,vv y.2.1,qq 1 y.2.2.1,qq 2 y.2.2.2.l]),(1,bm y.2.2.1),(2,m9 [1,1] 1 (my 1 zK) y.2.2.2),(3,bb E8),(4,h!),(5,h!),(6,h!)],7⟩)
instance:xv zp fun(i,a,n,t,j,w,w2,z8,qT,E8) r=>O.loop 168 4 ⟨[(0,x? 0 0),(1,qi i),(2,qi a),(3,qi n),(14,qM t),(15,qi j)],[(0,y? [qM w,vv w2,qq 1 z8,qq 2 qT.l]),(1,bm z8),(2,m9 [1,1] 1 (my 1 zK) qT),(3,bb E8),(4,h!),(5,h!),(6,h!)],7⟩=some (pG E8 r):=gP zp.partial_correctness fun _ _⟨_,_,_,_,_,_,_,_,_,_⟩=>gW
instance(i a n b b_2 r_ r_2):zf (uB i a n b b_2 r_ r_2) (fun r=>O.call 168 [x? 0 0,qi i,qi a,qi n] [(0,y? [qM b,vv b_2,qq 1 r_,qq 2 r_2.l]),(1,bm r_),(2,m9 [1,1] 1 (my 1 zK) r_2)]=some (qi r.1,[(0,y? [qM r.2.1,vv r.2.2.1,qq 1 r.2.2.2.1,qq 2 r.2.2.2.2.l]),(1,bm r.2.2.2.1),(2,m9 [1,1] 1 (my 1 zK) r.2.2.2.2)])):=⟨by unfold uB;exact gW⟩
@[go_sem] def pF (i:Int) (a:Int):((Int×qa×(Sl qy)×(List qb)×(Sl (Sl (Sl Int))))⊕(qa×(Sl qy)×(List qb)×(Sl (Sl (Sl Int)))))->Ex×St
 | .inl y=>(G?,⟨[(0,x? 0 0),(2,qi y.1),(3,qi i),(4,qi a)],[(0,y? [qM y.2.1,vv y.2.2.1,qq 1 y.2.2.2.1,qq 2 y.2.2.2.2.l]),(1,bm y.2.2.2.1),(2,m9 [1,1] 1 (my 1 zK) y.2.2.2.2)],3⟩)
 | .inr y=>(j?,⟨[(0,x? 0 0),(2,f?),(3,qi i),(4,qi a)],[(0,y? [qM y.1,vv y.2.1,qq 1 y.2.2.1,qq 2 y.2.2.2.l]),(1,bm y.2.2.1),(2,m9 [1,1] 1 (my 1 zK) y.2.2.2)],3⟩)
instance:xv jl fun(i,a,ns,k,w,w2,z8,qT) r=>O.loop 118 4 ⟨[(0,x? 0 0),(3,qi i),(4,qi a),(5,vv ns),(6,qi k)],[(0,y? [qM w,vv w2,qq 1 z8,qq 2 qT.l]),(1,bm z8),(2,m9 [1,1] 1 (my 1 zK) qT)],3⟩=some (pF i a r):=gP jl.partial_correctness fun _ _⟨_,_,_,_,_,_,_,_⟩=>gW
@[go_sem] def pE (i:Int):((Int×qa×(Sl qy)×(List qb)×(Sl (Sl (Sl Int))))⊕(qa×(Sl qy)×(List qb)×(Sl (Sl (Sl Int)))))->Ex×St
 | .inl y=>(G?,⟨[(0,x? 0 0),(2,qi y.1),(3,qi i)],[(0,y? [qM y.2.1,vv y.2.2.1,qq 1 y.2.2.2.1,qq 2 y.2.2.2.2.l]),(1,bm y.2.2.2.1),(2,m9 [1,1] 1 (my 1 zK) y.2.2.2.2)],3⟩)
 | .inr y=>(j?,⟨[(0,x? 0 0),(2,f?),(3,qi i)],[(0,y? [qM y.1,vv y.2.1,qq 1 y.2.2.1,qq 2 y.2.2.2.l]),(1,bm y.2.2.1),(2,m9 [1,1] 1 (my 1 zK) y.2.2.2)],3⟩)
instance:xv jk fun(i,a,w,w2,z8,qT) r=>O.loop 118 2 ⟨[(0,x? 0 0),(3,qi i),(4,qi a)],[(0,y? [qM w,vv w2,qq 1 z8,qq 2 qT.l]),(1,bm z8),(2,m9 [1,1] 1 (my 1 zK) qT)],3⟩=some (pE i r):=gP jk.partial_correctness fun _ _⟨_,_,_,_,_,_⟩=>gW
@[go_sem] def pD:((Int×qa×(Sl qy)×(List qb)×(Sl (Sl (Sl Int))))⊕(qa×(Sl qy)×(List qb)×(Sl (Sl (Sl Int)))))->Ex×St
 | .inl y=>(G?,⟨[(2,qi y.1)],[(0,y? [qM y.2.1,vv y.2.2.1,qq 1 y.2.2.2.1,qq 2 y.2.2.2.2.l]),(1,bm y.2.2.2.1),(2,m9 [1,1] 1 (my 1 zK) y.2.2.2.2)],3⟩)
 | .inr y=>(j?,⟨[(2,f?)],[(0,y? [qM y.1,vv y.2.1,qq 1 y.2.2.1,qq 2 y.2.2.2.l]),(1,bm y.2.2.1),(2,m9 [1,1] 1 (my 1 zK) y.2.2.2)],3⟩)
instance:xv jj fun(i,w,w2,z8,qT) r=>O.loop 118 0 ⟨[(0,x? 0 0),(3,qi i)],[(0,y? [qM w,vv w2,qq 1 z8,qq 2 qT.l]),(1,bm z8),(2,m9 [1,1] 1 (my 1 zK) qT)],3⟩=some (pD r):=gP jj.partial_correctness fun _ _⟨_,_,_,_,_⟩=>gW
instance(b b_2 r_ r_2):zf (wO b b_2 r_ r_2) (fun r=>O.call 118 [x? 0 0] [(0,y? [qM b,vv b_2,qq 1 r_,qq 2 r_2.l]),(1,bm r_),(2,m9 [1,1] 1 (my 1 zK) r_2)]=some (qi r.1,[(0,y? [qM r.2.1,vv r.2.2.1,qq 1 r.2.2.2.1,qq 2 r.2.2.2.2.l]),(1,bm r.2.2.2.1),(2,m9 [1,1] 1 (my 1 zK) r.2.2.2.2)])):=⟨by unfold wO;exact gW⟩
instance:xv xy fun(i,a,w,w2,z8,qT,s,is) r=>O.loop 119 2 ⟨[(0,x? 0 0),(2,qi i),(3,x? 3 0),(4,qq 4 is),(5,qi a)],[(0,y? [qM w,vv w2,qq 1 z8,qq 2 qT.l]),(1,bm z8),(2,m9 [1,1] 1 (my 1 zK) qT),(3,bb s),(4,br is)],5⟩=some (j?,⟨[(0,x? 0 0),(2,qi i),(3,x? 3 0),(4,qq 4 r)],[(0,y? [qM w,vv w2,qq 1 z8,qq 2 qT.l]),(1,bm z8),(2,m9 [1,1] 1 (my 1 zK) qT),(3,bb s),(4,br r)],5⟩):=gP xy.partial_correctness fun _ _⟨_,_,_,_,_,_,_,_⟩=>gW
@[go_sem] def pY (w:qa) (w2:(Sl qy)) (qT:(Sl (Sl (Sl Int)))):((qb×(List qb))⊕((List qb)))->Ex×St
 | .inl y=>(G?,⟨[],[(0,y? [qM w,vv w2,qq 5 y.2,qq 2 qT.l]),(1,h!),(2,m9 [1,1] 1 (my 1 zK) qT),(3,bb y.1),(4,h!),(5,bm y.2)],6⟩)
 | .inr y=>(j?,⟨[],[(0,y? [qM w,vv w2,qq 1 y,qq 2 qT.l]),(1,bm y),(2,m9 [1,1] 1 (my 1 zK) qT)],3⟩)
instance:xv jB fun(i,w,w2,z8,qT) r=>O.loop 119 0 ⟨[(0,x? 0 0),(2,qi i)],[(0,y? [qM w,vv w2,qq 1 z8,qq 2 qT.l]),(1,bm z8),(2,m9 [1,1] 1 (my 1 zK) qT)],3⟩=some (pY w w2 qT r):=gP jB.partial_correctness fun _ _⟨_,_,_,_,_⟩=>gW
@[go_sem] def si (b:qa) (b_2:(Sl qy)) (r_2:(Sl (Sl (Sl Int)))):(((List qb))⊕((List qb)))->AV×qp
 | .inl y=>(V? [],[(0,y? [qM b,vv b_2,qq 3 y,qq 2 r_2.l]),(1,h!),(2,m9 [1,1] 1 (my 1 zK) r_2),(3,bm y)])
 | .inr y=>(V? [],[(0,y? [qM b,vv b_2,qq 1 y,qq 2 r_2.l]),(1,bm y),(2,m9 [1,1] 1 (my 1 zK) r_2)])
instance(b b_2 r_ r_2):zf (vS b b_2 r_ r_2) (fun r=>O.call 119 [x? 0 0] [(0,y? [qM b,vv b_2,qq 1 r_,qq 2 r_2.l]),(1,bm r_),(2,m9 [1,1] 1 (my 1 zK) r_2)]=some (si b b_2 r_2 r)):=⟨by unfold vS;exact gW⟩
instance(st es):zf (rS st es) (fun r=>O.call 68 [vv st,vv es] []=some (V? [vv r.1,qi r.2],[])):=⟨by unfold rS;exact gW⟩
instance(wC):zf (dM wC) (fun r=>O.call 224 [qi wC] []=some (zu r,[])):=⟨by unfold dM;exact gW⟩
instance:xv wd fun(s,i,t2,t) r=>O.loop 189 0 ⟨[(0,qM s),(2,x? 0 0),(3,x? 1 0),(4,qi i)],[(0,bb t2),(1,bb t)],2⟩=some (j?,⟨[(2,x? 0 0),(3,x? 1 0)],[(0,bb t2),(1,bb r)],2⟩):=gP wd.partial_correctness fun _ _⟨_,_,_,_⟩=>gW
instance(s):zf (oC s) (fun r=>O.call 189 [qM s] []=some (vv r,[])):=⟨by unfold oC;exact gW⟩
instance(s off):zf (dz s off) (fun r=>O.call 131 [qM s,qi off] []=some (V? [qi r.1,qi r.2],[])):=⟨by unfold dz;exact gW⟩
instance:xv vG fun(s,i,l) r=>O.loop 227 0 ⟨[(0,qM s),(3,qq 0 l),(4,qi i)],[(0,bm l)],1⟩=some (j?,⟨[(3,qq 0 r)],[(0,bm r)],1⟩):=gP vG.partial_correctness fun _ _⟨_,_,_⟩=>gW
instance(s):zf (mV s) (fun r=>O.call 227 [qM s] []=some (vv r,[])):=⟨by unfold mV;exact gW⟩
instance(s line):zf (uF s line) (fun r=>O.call 172 [qM s,qi line] []=some (V? [qi r.1,qi r.2],[])):=⟨by unfold uF;exact gW⟩
instance(t wC):zf (gY t wC) (fun r=>O.call 225 [vv t,qi wC] []=some (qi r,[])):=⟨by unfold gY;exact gW⟩
instance(s off wC):zf (fX s off wC) (fun r=>O.call 169 [qM s,qi off,qi wC] []=some (V? [qi r.1,qi r.2.1,qi r.2.2],[])):=⟨by unfold fX;exact gW⟩
instance:xv yG fun(s,qo) r=>O.loop 170 0 ⟨[(0,qM s),(1,qi qo)],[],0⟩=some (j?,⟨[(1,qi r)],[],0⟩):=gP yG.partial_correctness fun _ _⟨_,_⟩=>gW
instance(s qo):zf (iN s qo) (fun r=>O.call 170 [qM s,qi qo] []=some (qi r,[])):=⟨by unfold iN;exact gW⟩
instance:xv vi fun(s,qo) r=>O.loop 171 0 ⟨[(0,qM s),(1,qi qo)],[],0⟩=some (j?,⟨[(0,qM s),(1,qi r)],[],0⟩):=gP vi.partial_correctness fun _ _⟨_,_⟩=>gW
instance(s qo):zf (ag s qo) (fun r=>O.call 171 [qM s,qi qo] []=some (qi r,[])):=⟨by unfold ag;exact gW⟩
instance(s line):zf (rW s line) (fun r=>O.call 173 [qM s,qi line] []=some (V? [qi r.1,qi r.2],[])):=⟨by unfold rW;exact gW⟩
@[go_sem] def iI (s:qa):((Int)⊕(Unit))->Ex×St
 | .inl y=>(G?,⟨[(0,qM s),(6,qi y)],[],0⟩)
 | .inr y=>(j?,⟨[(0,qM s),(6,f?)],[],0⟩)
instance:xv ni fun(s,wC,n,many,k) r=>O.loop 228 0 ⟨[(0,qM s),(1,qi wC),(2,qi n),(7,qi many),(8,qi k)],[],0⟩=some (iI s r):=gP ni.partial_correctness fun _ _⟨_,_,_,_,_⟩=>gW
instance(s wC n):zf (iH s wC n) (fun r=>O.call 228 [qM s,qi wC,qi n] []=some (qi r,[])):=⟨by unfold iH;exact gW⟩
instance(s line col wC):zf (rb s line col wC) (fun r=>O.call 174 [qM s,qi line,qi col,qi wC] []=some (V? [qi r.1,qi r.2],[])):=⟨by unfold rb;exact gW⟩
instance(s):zf (Qk s) (fun r=>O.call 175 [qM s] []=some (qi r,[])):=⟨by unfold Qk;exact gW⟩
theorem HJ{c r}(h:yZ c=some r):O.call 176 [C? (n? P? (c.toNat:Int))] []=some (zu r,[]):=by revert h;unfold yZ;refine JR ?_ ?_;{rintro(⟨h1,h2,Xj,K3,Va,W1,W2⟩|⟨h1,h2,Xj,K3,Va,W1,W2⟩|⟨h1,h2,Xj,K3,Va,W1,W2⟩|⟨h1,h2,Xj,K3,Va,W1,W2⟩|⟨h1,h2,Xj,K3,Va,W1,W2⟩|⟨h1,h2,Xj,K3,Va,W1,W2⟩|⟨h1,h2,Xj,K3,Va,W1,W2⟩|⟨h1,h2,Xj,K3,Va,W1,W2⟩|⟨h1,h2,Xj,K3,Va,W1,W2⟩|⟨h1,h2,Xj,K3,Va,W1,W2⟩|⟨h1,h2,Xj,K3,Va,W1,W2⟩|⟨h1,h2,Xj,K3,Va,W1,W2⟩|⟨h1,h2,Xj,K3,Va,W1,W2⟩|⟨h1,h2,Xj,K3,Va,W1,W2⟩|⟨h1,h2,Xj,K3,Va,W1,W2⟩);all_goals rintro⟨⟩;exact fF fn176.h};rintro(⟨h1,h2,Xj,K3,Va,W1,W2⟩|⟨h1,h2,Xj,K3,Va,W1,W2⟩|⟨h1,h2,Xj,K3,Va,W1,W2⟩|⟨h1,h2,Xj,K3,Va,W1,W2⟩|⟨h1,h2,Xj,K3,Va,W1,W2⟩|⟨h1,h2,Xj,K3,Va,W1,W2⟩|⟨h1,h2,Xj,K3,Va,W1,W2⟩|⟨h1,h2,Xj,K3,Va,W1,W2⟩);all_goals rintro⟨⟩;exact fF fn176.h
instance(c:UInt8):zf (yZ c) (fun r=>O.call 176 [C? (n? P? (c.toNat:Int))] []=some (zu r,[])):=⟨fun r=>HJ (r:=r)⟩
instance:xv nA fun(s,qo) r=>O.loop 121 5 ⟨[(0,qM s),(1,qi qo)],[],0⟩=some (j?,⟨[(0,qM s),(1,qi r)],[],0⟩):=gP nA.partial_correctness fun _ _⟨_,_⟩=>gW
instance:xv nB fun(s,qo) r=>O.loop 121 7 ⟨[(0,qM s),(1,qi qo)],[],0⟩=some (j?,⟨[(1,qi r)],[],0⟩):=gP nB.partial_correctness fun _ _⟨_,_⟩=>gW
instance:xv nw fun(s,qo) r=>O.loop 121 1 ⟨[(0,qM s),(1,qi qo)],[],0⟩=some (j?,⟨[(0,qM s),(1,qi r)],[],0⟩):=gP nw.partial_correctness fun _ _⟨_,_⟩=>gW
instance:xv ny fun(s,qo) r=>O.loop 121 3 ⟨[(0,qM s),(1,qi qo)],[],0⟩=some (j?,⟨[(1,qi r)],[],0⟩):=gP ny.partial_correctness fun _ _⟨_,_⟩=>gW
instance(s qo wC):zf (sS s qo wC) (fun r=>O.call 121 [qM s,qi qo,qi wC] []=some (V? [qi r.1,qi r.2],[])):=⟨by unfold sS;exact gW⟩
instance:xv xm fun(s,l,aM,i,sp) r=>O.loop 70 0 ⟨[(0,qM s),(1,vv l),(2,zu aM),(7,qq 0 sp),(8,qi i)],[(0,br sp)],1⟩=some (j?,⟨[(7,qq 0 r)],[(0,br r)],1⟩):=gP xm.partial_correctness fun _ _⟨_,_,_,_,_⟩=>gW
instance:xv km fun(s,i,out) r=>O.loop 122 0 ⟨[(3,vv s),(4,qq 0 out),(5,qi i)],[(0,br out)],1⟩=some (j?,⟨[(4,qq 0 r)],[(0,br r)],1⟩):=gP km.partial_correctness fun _ _⟨_,_,_⟩=>gW
instance(l):zf (fZ l) (fun r=>O.call 122 [vv l] []=some (vv r,[])):=⟨by unfold fZ;exact gW⟩
instance:xv ye fun(u,i,es) r=>O.loop 70 2 ⟨[(14,vv u),(15,qq 1 es),(16,qi i)],[(0,h!),(1,br es)],2⟩=some (j?,⟨[(15,qq 1 r)],[(0,h!),(1,br r)],2⟩):=gP ye.partial_correctness fun _ _⟨_,_,_⟩=>gW
instance(s l aM):zf (rI s l aM) (fun r=>O.call 70 [qM s,vv l,zu aM] []=some (vv r,[])):=⟨by unfold rI;exact gW⟩
instance:xv wQ fun(s,wC,extend,l,i,out) r=>O.loop 72 0 ⟨[(0,qM s),(1,qi wC),(2,zu extend),(10,vv l),(12,qq 0 out),(13,qi i)],[(0,br out)],1⟩=some (j?,⟨[(0,qM s),(12,qq 0 r)],[(0,br r)],1⟩):=gP wQ.partial_correctness fun _ _⟨_,_,_,_,_,_⟩=>gW
instance(s wC extend ss):zf (X9 s wC extend ss) (fun r=>O.call 72 [qM s,qi wC,zu extend,vv ss] []=some (V? [vv r.1,qi r.2],[])):=⟨by unfold X9;exact gW⟩
instance:xv uR fun(s,qo,n,end_) r=>O.loop 229 0 ⟨[(0,qM s),(1,qi qo),(7,qi n),(8,qi end_)],[],0⟩=some (j?,⟨[(0,qM s),(1,qi qo),(7,qi r.1),(8,qi r.2)],[],0⟩):=gP uR.partial_correctness fun _ _⟨_,_,_,_⟩=>gW
instance(s qo):zf (bV s qo) (fun r=>O.call 229 [qM s,qi qo] []=some (V? [qi r.1,qi r.2.1,zu r.2.2],[])):=⟨by unfold bV;exact gW⟩
instance:xv xX fun(qo,end_,r_,z8,qT) r=>O.loop 230 0 ⟨[(0,x? 0 0),(1,qi qo),(7,qi end_)],[(0,y? [qM r_,qq 1 z8,qq 2 qT]),(1,bm z8),(2,bm qT)],3⟩=some (j?,⟨[(0,x? 0 0),(1,qi qo),(7,qi r)],[(0,y? [qM r_,qq 1 z8,qq 2 qT]),(1,bm z8),(2,bm qT)],3⟩):=gP xX.partial_correctness fun _ _⟨_,_,_,_,_⟩=>gW
instance(qo b r_ r_2):zf (hZ qo b r_ r_2) (fun r=>O.call 230 [x? 0 0,qi qo] [(0,y? [qM b,qq 1 r_,qq 2 r_2]),(1,bm r_),(2,bm r_2)]=some (V? [qM r.1,qi r.2.1,zu r.2.2],[(0,y? [qM b,qq 1 r_,qq 2 r_2]),(1,bm r_),(2,bm r_2)])):=⟨by unfold hZ;exact gW⟩
instance(qo b r_ r_2):zf (vR qo b r_ r_2) (fun r=>O.call 181 [x? 0 0,qi qo] [(0,y? [qM b,qq 1 r_,qq 2 r_2]),(1,bm r_),(2,bm r_2)]=some (V? [vv r.1,qi r.2.1,zu r.2.2],[(0,y? [qM b,qq 1 r_,qq 2 r_2]),(1,bm r_),(2,bm r_2)])):=⟨by unfold vR;exact gW⟩
instance(s qo opt):zf (tD s qo opt) (fun r=>O.call 184 [qM s,qi qo,zu opt] []=some (zu r,[])):=⟨by unfold tD;exact gW⟩
instance:xv zj fun(qo,pK,r_,z8,qT,l,text) r=>O.loop 126 0 ⟨[(0,x? 0 0),(1,qi qo),(2,zu pK),(8,qq 3 l),(9,qq 4 text)],[(0,y? [qM r_,qq 1 z8,qq 2 qT]),(1,bm z8),(2,bm qT),(3,br l),(4,br text)],5⟩=some (j?,⟨[(0,x? 0 0),(1,qi r.1),(2,zu pK),(8,qq 3 r.2.1),(9,qq 4 r.2.2)],[(0,y? [qM r_,qq 1 z8,qq 2 qT]),(1,bm z8),(2,bm qT),(3,br r.2.1),(4,br r.2.2)],5⟩):=gP zj.partial_correctness fun _ _⟨_,_,_,_,_,_,_⟩=>gW
instance:xv jJ fun(l,i,out) r=>O.loop 185 0 ⟨[(0,vv l),(3,qq 0 out),(4,qi i)],[(0,br out)],1⟩=some (j?,⟨[(3,qq 0 r)],[(0,br r)],1⟩):=gP jJ.partial_correctness fun _ _⟨_,_,_⟩=>gW
instance(l):zf (fG l) (fun r=>O.call 185 [vv l] []=some (vv r,[])):=⟨by unfold fG;exact gW⟩
instance(qo pK b r_ r_2):zf (wI qo pK b r_ r_2) (fun r=>O.call 126 [x? 0 0,qi qo,zu pK] [(0,y? [qM b,qq 1 r_,qq 2 r_2]),(1,bm r_),(2,bm r_2)]=some (V? [vv r.1,qi r.2],[(0,y? [qM b,qq 1 r_,qq 2 r_2]),(1,bm r_),(2,bm r_2)])):=⟨by unfold wI;exact gW⟩
instance:xv vu fun(s,k,t4,b) r=>O.loop 182 0 ⟨[(0,qM s),(4,x? 0 0),(7,qq 1 b),(8,qi k)],[(0,bb t4),(1,br b)],2⟩=some (j?,⟨[(0,qM s),(4,x? 0 0),(7,qq 1 r.2),(8,qi r.1)],[(0,bb t4),(1,br r.2)],2⟩):=gP vu.partial_correctness fun _ _⟨_,_,_,_⟩=>gW
instance(b):zf (xj b) (fun r=>O.call 309 [x? 0 0] [(0,bb b)]=some (qM r,[(0,bb b)])):=⟨by unfold xj;exact gW⟩
instance(c b):zf (qK c b) (fun r=>O.call 312 [x? 0 0,qM c] [(0,bb b)]=some (zu r.1,[(0,bb r.2)])):=⟨by unfold qK;exact gW⟩
instance(c):zf (tQ c) (fun r=>O.call 374 [C? (n? P? (c.toNat:Int))] []=some (V? [vv r.1,zu r.2],[])):=⟨by unfold tQ;exact gW⟩
instance(c):zf (wZ c) (fun r=>O.call 375 [qM c] []=some (V? [qM r.1,zu r.2],[])):=⟨by unfold wZ;exact gW⟩
instance(b):zf (vN b) (fun r=>O.call 371 [x? 0 0] [(0,bb b)]=some (V? [vv r.1,qM r.2.1,zu r.2.2.1],[(0,bb r.2.2.2)])):=⟨by unfold vN;exact gW⟩
@[go_sem] def pC (t2:qE) (x:qE):((Int×qd×qE×(List qV))⊕(qd×(List qV)))->Ex×St
 | .inl y=>(G?,⟨[(2,x? 1 0),(3,qi y.1),(4,x? 2 0),(5,qq 3 y.2.2.2)],[(0,bb y.2.1),(1,bb y.2.2.1),(2,bb x),(3,br y.2.2.2)],4⟩)
 | .inr y=>(j?,⟨[(2,x? 1 0),(3,f?),(4,x? 2 0),(5,qq 3 y.2)],[(0,bb y.1),(1,bb t2),(2,bb x),(3,br y.2)],4⟩)
instance:xv zy fun(r_,t2,x,rows) r=>O.loop 357 0 ⟨[(0,x? 0 0),(2,x? 1 0),(4,x? 2 0),(5,qq 3 rows)],[(0,bb r_),(1,bb t2),(2,bb x),(3,br rows)],4⟩=some (pC t2 x r):=gP zy.partial_correctness fun _ _⟨_,_,_,_⟩=>gW
instance:xv uf fun(rows,s,i,k,r_) r=>O.loop 372 2 ⟨[(0,vv rows),(3,vv s),(4,qi i),(5,x? 0 0),(6,qi k)],[(0,bb r_)],1⟩=some (j?,⟨[(0,vv rows),(3,vv s),(4,qi i),(5,x? 0 0),(6,qi r)],[(0,bb r_)],1⟩):=gP uf.partial_correctness fun _ _⟨_,_,_,_,_⟩=>gW
instance:xv kX fun(rows,s,i) r=>O.loop 372 0 ⟨[(0,vv rows),(3,vv s),(4,qi i)],[],0⟩=some (j?,⟨[(3,vv r)],[],0⟩):=gP kX.partial_correctness fun _ _⟨_,_,_⟩=>gW
instance:xv kY fun(s,i,out) r=>O.loop 372 4 ⟨[(3,vv s),(7,qq 0 out),(8,qi i)],[(0,br out)],1⟩=some (j?,⟨[(7,qq 0 r)],[(0,br r)],1⟩):=gP kY.partial_correctness fun _ _⟨_,_,_⟩=>gW
instance(rows):zf (cH rows) (fun r=>O.call 372 [vv rows] []=some (vv r,[])):=⟨by unfold cH;exact gW⟩
instance(b):zf (uh b) (fun r=>O.call 357 [x? 0 0] [(0,bb b)]=some (V? [vv r.1,qi r.2.1],[(0,bb r.2.2)])):=⟨by unfold uh;exact gW⟩
instance(b):zf (hC b) (fun r=>O.call 358 [x? 0 0] [(0,bb b)]=some (V? [vv r.1,qi r.2.1],[(0,bb r.2.2)])):=⟨by unfold hC;exact gW⟩
instance:xv jO fun(n,many,r_) r=>O.loop 359 0 ⟨[(0,x? 0 0),(4,qi n),(5,qi many)],[(0,bb r_)],1⟩=some (j?,⟨[(4,qi r.1),(5,qi r.2.1)],[(0,bb r.2.2)],1⟩):=gP jO.partial_correctness fun _ _⟨_,_,_⟩=>gW
instance(b):zf (wm b) (fun r=>O.call 359 [x? 0 0] [(0,bb b)]=some (V? [qi r.1,zu r.2.1],[(0,bb r.2.2)])):=⟨by unfold wm;exact gW⟩
instance(x b):zf (kz x b) (fun r=>O.call 335 [x? 0 0,vv x] [(0,bb b)]=some (V? [vv r.1,qi r.2.1],[(0,bb r.2.2)])):=⟨by unfold kz;exact gW⟩
instance:xv wY fun(kind,xs,i,l) r=>O.loop 336 0 ⟨[(0,qi kind),(1,vv xs),(5,qq 0 l),(6,qi i)],[(0,br l)],1⟩=some (j?,⟨[(5,qq 0 r)],[(0,br r)],1⟩):=gP wY.partial_correctness fun _ _⟨_,_,_,_⟩=>gW
instance(kind xs):zf (sI kind xs) (fun r=>O.call 336 [qi kind,vv xs] []=some (vv r,[])):=⟨by unfold sI;exact gW⟩
instance(xs):zf (ip xs) (fun r=>O.call 311 [vv xs] []=some (vv r,[])):=⟨by unfold ip;exact gW⟩
instance(xs):zf (ij xs) (fun r=>O.call 313 [vv xs] []=some (vv r,[])):=⟨by unfold ij;exact gW⟩
@[go_sem] def yE:((Int×qd×qE×(List qE))⊕(Int×qd×qE))->Ex×St
 | .inl y=>(G?,⟨[(4,x? 1 0),(5,qi y.1)],[(0,bb y.2.1),(1,bb y.2.2.1),(2,br y.2.2.2)],3⟩)
 | .inr y=>(G?,⟨[(4,x? 1 0),(5,qi y.1)],[(0,bb y.2.1),(1,bb y.2.2),(2,h!)],3⟩)
@[go_sem] def yF (deep:Int) (t4:qE) (alts:(List qE)):((Int×qd×qE×(List qE))⊕(qd×(List qE)))->Ex×St
 | .inl y=>(G?,⟨[(0,x? 0 0),(1,qi deep),(4,x? 1 0),(5,qi y.1),(6,qq 2 alts),(7,qq 3 y.2.2.2)],[(0,bb y.2.1),(1,bb y.2.2.1),(2,br alts),(3,br y.2.2.2)],4⟩)
 | .inr y=>(j?,⟨[(0,x? 0 0),(1,qi deep),(4,x? 1 0),(5,f?),(6,qq 2 alts),(7,qq 3 y.2)],[(0,bb y.1),(1,bb t4),(2,br alts),(3,br y.2)],4⟩)
theorem kj:(∀ p r,zG p=some r->match p with|(deep,b)=>O.call 273 [x? 0 0,qi deep] [(0,bb b)]=some (V? [vv r.1,qi r.2.1],[(0,bb r.2.2)]))/\(∀ p r,xp p=some r->match p with|(deep,r_,t4,alts)=>O.loop 273 0 ⟨[(0,x? 0 0),(1,qi deep),(4,x? 1 0),(6,qq 2 alts)],[(0,bb r_),(1,bb t4),(2,br alts)],3⟩=some (yE r))/\(∀ p r,xq p=some r->match p with|(deep,r_,t4,alts,sk)=>O.loop 273 2 ⟨[(0,x? 0 0),(1,qi deep),(4,x? 1 0),(6,qq 2 alts),(7,qq 3 sk)],[(0,bb r_),(1,bb t4),(2,br alts),(3,br sk)],4⟩=some (yF deep t4 alts r))/\(∀ p r,vO p=some r->match p with|(deep,b)=>O.call 310 [x? 0 0,qi deep] [(0,bb b)]=some (V? [vv r.1,qi r.2.1],[(0,bb r.2.2)]))/\(∀ p r,ka p=some r->match p with|(deep,b)=>O.call 334 [x? 0 0,qi deep] [(0,bb b)]=some (V? [vv r.1,qi r.2.1],[(0,bb r.2.2)])):=by refine zG.mutual_partial_correctness _ _ _ _ _ ?_ ?_ ?_ ?_ ?_;intro xp i;have j244:=fun p=>zf.mk (i p);clear i;rintro⟨_,_⟩;exact gW;intro xp xq i244 Lj;have j244:=fun p=>zf.mk (i244 p);clear i244;have j245:=fun p=>zf.mk (Lj p);clear Lj;rintro⟨_,_,_,_⟩;exact gW;intro xq vO Lj i247;have j245:=fun p=>zf.mk (Lj p);clear Lj;have j247:=fun p=>zf.mk (i247 p);clear i247;rintro⟨_,_,_,_,_⟩;exact gW;intro ka i;have j249:=fun p=>zf.mk (i p);clear i;rintro⟨_,_⟩;exact gW;intro zG i;have j243:=fun p=>zf.mk (i p);clear i;rintro⟨_,_⟩;exact gW
instance(p):zf (zG p) (fun r=>match p with|(deep,b)=>O.call 273 [x? 0 0,qi deep] [(0,bb b)]=some (V? [vv r.1,qi r.2.1],[(0,bb r.2.2)])):=⟨fun r=>kj.1 p r⟩
instance(p):zf (xp p) (fun r=>match p with|(deep,r_,t4,alts)=>O.loop 273 0 ⟨[(0,x? 0 0),(1,qi deep),(4,x? 1 0),(6,qq 2 alts)],[(0,bb r_),(1,bb t4),(2,br alts)],3⟩=some (yE r)):=⟨fun r=>kj.2.1 p r⟩
instance(p):zf (xq p) (fun r=>match p with|(deep,r_,t4,alts,sk)=>O.loop 273 2 ⟨[(0,x? 0 0),(1,qi deep),(4,x? 1 0),(6,qq 2 alts),(7,qq 3 sk)],[(0,bb r_),(1,bb t4),(2,br alts),(3,br sk)],4⟩=some (yF deep t4 alts r)):=⟨fun r=>kj.2.2.1 p r⟩
instance(p):zf (vO p) (fun r=>match p with|(deep,b)=>O.call 310 [x? 0 0,qi deep] [(0,bb b)]=some (V? [vv r.1,qi r.2.1],[(0,bb r.2.2)])):=⟨fun r=>kj.2.2.2.1 p r⟩
instance(p):zf (ka p) (fun r=>match p with|(deep,b)=>O.call 334 [x? 0 0,qi deep] [(0,bb b)]=some (V? [vv r.1,qi r.2.1],[(0,bb r.2.2)])):=⟨fun r=>kj.2.2.2.2 p r⟩
instance(s):zf (fq s) (fun r=>O.call 231 [qM s] []=some (V? [vv r.1,qi r.2],[])):=⟨by unfold fq;exact gW⟩
@[go_sem] def aT (t4:zs) (f:zs):((Int×Bool×zs×zs)⊕(Unit))->Ex×St
 | .inl y=>(G?,⟨[(4,x? 0 0),(5,qi y.1),(6,zu y.2.1)],[(0,bb y.2.2.1),(1,bb y.2.2.2)],2⟩)
 | .inr y=>(j?,⟨[(4,x? 0 0),(5,f?),(6,f?)],[(0,bb t4),(1,bb f)],2⟩)
instance:xv gD fun(s,end_,w,t4,f) r=>O.loop 274 1 ⟨[(0,qM s),(4,x? 0 0),(8,qi end_),(10,x? 1 0),(11,qi w)],[(0,bb t4),(1,bb f)],2⟩=some (aT t4 f r):=gP gD.partial_correctness fun _ _⟨_,_,_,_,_⟩=>gW
instance(s qo colon):zf (tC s qo colon) (fun r=>O.call 275 [qM s,qi qo,zu colon] []=some (zu r,[])):=⟨by unfold tC;exact gW⟩
instance:xv ui fun(s,qo,stop,b) r=>O.loop 315 0 ⟨[(0,qM s),(1,qi qo),(2,C? (n? P? (stop.toNat:Int))),(9,qq 0 b)],[(0,br b)],1⟩=some (j?,⟨[(0,qM s),(1,qi r.1),(9,qq 0 r.2)],[(0,br r.2)],1⟩):=gP ui.partial_correctness fun _ _⟨_,_,_,_⟩=>gW
instance(s qo stop):zf (hJ s qo stop) (fun r=>O.call 315 [qM s,qi qo,C? (n? P? (stop.toNat:Int))] []=some (V? [qM r.1,qi r.2.1,zu r.2.2],[])):=⟨by unfold hJ;exact gW⟩
instance(s qo):zf (fC s qo) (fun r=>O.call 274 [qM s,qi qo] []=some (V? [vv r.1,qi r.2.1,zu r.2.2],[])):=⟨by unfold fC;exact gW⟩
instance(c r_):zf (mO c r_) (fun r=>O.call 276 [qq 0 r_,C? (n? P? (c.toNat:Int))] [(0,br r_)]=some (qq 0 r,[(0,br r)])):=⟨by unfold mO;exact gW⟩
instance:xv kU fun(s,qo,fs) r=>O.loop 232 0 ⟨[(0,qM s),(1,qi qo),(7,qq 0 fs)],[(0,br fs)],1⟩=some (j?,⟨[(0,qM s),(1,qi r.1),(7,qq 0 r.2)],[(0,br r.2)],1⟩):=gP kU.partial_correctness fun _ _⟨_,_,_⟩=>gW
instance(s qo):zf (fB s qo) (fun r=>O.call 232 [qM s,qi qo] []=some (V? [vv r.1,qi r.2.1,zu r.2.2],[])):=⟨by unfold fB;exact gW⟩
@[go_sem] def fE (s:qa) (t4:zn) (z8:(List UInt8)) (Bi:qE):((Int×Bool×Int×zn×zn)⊕(Int×zn))->Ex×St
 | .inl y=>(G?,⟨[(0,qM s),(4,x? 0 0),(5,qi y.1),(6,zu y.2.1),(12,qi y.2.2.1),(14,x? 3 0)],[(0,bb y.2.2.2.1),(1,br z8),(2,bb Bi),(3,bb y.2.2.2.2)],4⟩)
 | .inr y=>(j?,⟨[(0,qM s),(4,x? 0 0),(5,f?),(6,f?),(12,qi y.1),(14,x? 3 0)],[(0,bb t4),(1,br z8),(2,bb Bi),(3,bb y.2)],4⟩)
instance:xv vw fun(s,end_,t4,z8,Bi,f) r=>O.loop 182 2 ⟨[(0,qM s),(4,x? 0 0),(12,qi end_),(14,x? 3 0)],[(0,bb t4),(1,br z8),(2,bb Bi),(3,bb f)],4⟩=some (fE s t4 z8 Bi r):=gP vw.partial_correctness fun _ _⟨_,_,_,_,_,_⟩=>gW
instance(s qo):zf (cL s qo) (fun r=>O.call 182 [qM s,qi qo] []=some (V? [vv r.1,qi r.2.1,zu r.2.2],[])):=⟨by unfold cL;exact gW⟩
instance:xv xY fun(qo,r_,z8,qT,l,text) r=>O.loop 183 0 ⟨[(0,x? 0 0),(1,qi qo),(6,qq 3 l),(7,qq 4 text)],[(0,y? [qM r_,qq 1 z8,qq 2 qT]),(1,bm z8),(2,bm qT),(3,br l),(4,br text)],5⟩=some (j?,⟨[(0,x? 0 0),(1,qi r.1),(6,qq 3 r.2.1),(7,qq 4 r.2.2)],[(0,y? [qM r_,qq 1 z8,qq 2 qT]),(1,bm z8),(2,bm qT),(3,br r.2.1),(4,br r.2.2)],5⟩):=gP xY.partial_correctness fun _ _⟨_,_,_,_,_,_⟩=>gW
instance(qo b r_ r_2):zf (gb qo b r_ r_2) (fun r=>O.call 183 [x? 0 0,qi qo] [(0,y? [qM b,qq 1 r_,qq 2 r_2]),(1,bm r_),(2,bm r_2)]=some (V? [vv r.1,qi r.2],[(0,y? [qM b,qq 1 r_,qq 2 r_2]),(1,bm r_),(2,bm r_2)])):=⟨by unfold gb;exact gW⟩
instance(qo b r_ r_2):zf (yw qo b r_ r_2) (fun r=>O.call 125 [x? 0 0,qi qo] [(0,y? [qM b,qq 1 r_,qq 2 r_2]),(1,bm r_),(2,bm r_2)]=some (V? [vv r.1,qi r.2.1,zu r.2.2],[(0,y? [qM b,qq 1 r_,qq 2 r_2]),(1,bm r_),(2,bm r_2)])):=⟨by unfold yw;exact gW⟩
instance:xv yM fun(s,qo,Qz,z8,r_) r=>O.loop 73 0 ⟨[(0,qM s),(4,x? 2 0),(5,qi qo)],[(0,bm Qz),(1,bm z8),(2,y? [qM r_,qq 0 Qz,qq 1 z8])],3⟩=some (j?,⟨[(4,x? 2 0)],[(0,bm r.1),(1,bm r.2),(2,y? [qM r_,qq 0 r.1,qq 1 r.2])],3⟩):=gP yM.partial_correctness fun _ _⟨_,_,_,_,_⟩=>gW
theorem lW:(∀ p r,bX p=some r->O.call 127 [vv p] []=some (qi r,[]))/\(∀ p r,kV p=some r->match p with|(l,n,i)=>O.loop 127 0 ⟨[(0,vv l),(3,qi n),(4,qi i)],[],0⟩=some (j?,⟨[(3,qi r)],[],0⟩)):=by refine bX.mutual_partial_correctness _ _ ?_ ?_;intro kV i;have j279:=fun p=>zf.mk (i p);clear i;rintro _;exact gW;intro bX kV i278 i279;have j278:=fun p=>zf.mk (i278 p);clear i278;have j279:=fun p=>zf.mk (i279 p);clear i279;rintro⟨_,_,_⟩;exact gW
instance(p):zf (bX p) (fun r=>O.call 127 [vv p] []=some (qi r,[])):=⟨fun r=>lW.1 p r⟩
instance(p):zf (kV p) (fun r=>match p with|(l,n,i)=>O.loop 127 0 ⟨[(0,vv l),(3,qi n),(4,qi i)],[],0⟩=some (j?,⟨[(3,qi r)],[],0⟩)):=⟨fun r=>lW.2 p r⟩
instance(s):zf (fI s) (fun r=>O.call 73 [qM s] []=some (V? [vv r.1,qi r.2],[])):=⟨by unfold fI;exact gW⟩
@[go_sem] def aS (a:qE) (b:qE):((Bool)⊕(Unit))->Ex×St
 | .inl y=>(G?,⟨[(2,x? 0 0),(3,x? 1 0),(4,zu y)],[(0,bb a),(1,bb b)],2⟩)
 | .inr y=>(j?,⟨[(2,x? 0 0),(3,x? 1 0),(4,f?)],[(0,bb a),(1,bb b)],2⟩)
instance:xv yK fun(i,a,b) r=>O.loop 140 0 ⟨[(2,x? 0 0),(3,x? 1 0),(5,qi i)],[(0,bb a),(1,bb b)],2⟩=some (aS a b r):=gP yK.partial_correctness fun _ _⟨_,_,_⟩=>gW
end Go.Proofs.YtoflcafolmmaaaaGreat
