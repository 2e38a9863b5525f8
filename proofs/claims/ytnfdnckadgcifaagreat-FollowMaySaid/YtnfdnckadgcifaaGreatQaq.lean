/-
  What the machine's calls come to: the plain functions.
-/
import Derived.Test.YtnfdnckadgcifaaGreatQag
import Derived.Test.YtnfdnckadgcifaaGreatQaj
import Derived.Test.YtnfdnckadgcifaaGreatQal
import Derived.Test.YtnfdnckadgcifaaGreatQam
import Derived.Test.YtnfdnckadgcifaaGreatQan
import Derived.Test.YtnfdnckadgcifaaGreatQao
import Derived.Test.YtnfdnckadgcifaaGreatQap
open Go.Gm.AV renaming ptr->x?,undef->Q?,xW->C?,pv->I?
open Go.Gm.Ex renaming normal->j?,ret->x!
open Go.Gm.qJ renaming box->h?,xH->K!
open Go.Proofs.YtnfdnckadgcifaaGreat.qe renaming cB->Y_
set_option linter.unusedSimpArgs false
set_option linter.unusedVariables false
set_option maxRecDepth 100000
namespace Go.Proofs.YtnfdnckadgcifaaGreat
open Go Go.Gm
set_option maxHeartbeats 4000000
instance(s inst stop e deep mark r_):zl (yX s inst stop e deep mark r_) (fun r=>O.call 201 [vv s,qr 0 r_.l,qj inst,qj stop,vv e,zD deep,zD mark] [(0,pA [1] 1 zY r_)]=some (C? [vv r.1,qr 1 r.2.2.l],[(0,pA [1] 1 zY r.2.1),(1,pA [1] 1 zY r.2.2)])):=⟨by unfold yX;exact gW⟩
instance:xL jO fun(top,mark,i,w,w2,ss,qZ,e,is,ks,b6_) r=>O.loop 148 4 ⟨[(0,x? 0 0),(1,qj top),(5,zD mark),(10,x? 3 0),(12,qr 1 ss),(13,qr 4 is),(14,qr 5 ks),(20,qj i)],[(0,h? [qS w,vv w2,qr 1 ss,qr 2 qZ.l]),(1,bm ss),(2,pA [1,1] 1 (bo 1 zY) qZ),(3,bb e),(4,bm is),(5,bm ks),(6,bb b6_)],7⟩=some (j?,⟨[(0,x? 0 0),(10,x? 3 0)],[(0,h? [qS w,vv w2,qr 1 r.1,qr 2 r.2.l]),(1,bm r.1),(2,pA [1,1] 1 (bo 1 zY) r.2),(3,bb e),(4,bm is),(5,bm ks),(6,bb b6_)],7⟩):=gP jO.partial_correctness fun _ _⟨_,_,_,_,_,_,_,_,_,_,_⟩=>gW
instance:xL jk fun(top,mark,i,w,w2,ss,qZ,e,is,ks) r=>O.loop 148 4 ⟨[(0,x? 0 0),(1,qj top),(5,zD mark),(10,x? 3 0),(12,qr 1 ss),(13,qr 4 is),(14,qr 5 ks),(20,qj i)],[(0,h? [qS w,vv w2,qr 1 ss,qr 2 qZ.l]),(1,bm ss),(2,pA [1,1] 1 (bo 1 zY) qZ),(3,bb e),(4,bm is),(5,bm ks)],6⟩=some (j?,⟨[(0,x? 0 0),(10,x? 3 0)],[(0,h? [qS w,vv w2,qr 1 r.1,qr 2 r.2.l]),(1,bm r.1),(2,pA [1,1] 1 (bo 1 zY) r.2),(3,bb e),(4,bm is),(5,bm ks)],6⟩):=gP jk.partial_correctness fun _ _⟨_,_,_,_,_,_,_,_,_,_⟩=>gW
instance(top inst stop e mark b b_2 r_ r_2):zl (jW top inst stop e mark b b_2 r_ r_2) (fun r=>O.call 148 [x? 0 0,qj top,qj inst,qj stop,vv e,zD mark] [(0,h? [qS b,vv b_2,qr 1 r_,qr 2 r_2.l]),(1,bm r_),(2,pA [1,1] 1 (bo 1 zY) r_2)]=some (C? [],[(0,h? [qS r.1,vv r.2.1,qr 1 r.2.2.1,qr 2 r.2.2.2.l]),(1,bm r.2.2.1),(2,pA [1,1] 1 (bo 1 zY) r.2.2.2)])):=⟨by unfold jW;exact gW⟩
instance:xL xZ fun(n,l,i,w,w2,xu,pY) r=>O.loop 105 2 ⟨[(0,x? 0 0),(4,qj n),(5,vv l),(6,qj i)],[(0,h? [qS w,vv w2,qr 3 xu,qr 4 pY.l]),(1,K!),(2,K!),(3,bm xu),(4,pA [1,1] 1 (bo 1 zY) pY)],5⟩=some (j?,⟨[],[(0,h? [qS r.1,vv r.2.1,qr 3 r.2.2.1,qr 4 r.2.2.2.l]),(1,K!),(2,K!),(3,bm r.2.2.1),(4,pA [1,1] 1 (bo 1 zY) r.2.2.2)],5⟩):=gP xZ.partial_correctness fun _ _⟨_,_,_,_,_,_,_⟩=>gW
instance(es b b_2 r_ r_2):zl (ue es b b_2 r_ r_2) (fun r=>O.call 105 [x? 0 0,vv es] [(0,h? [qS b,vv b_2,qr 1 r_,qr 2 r_2.l]),(1,bm r_),(2,pA [1,1] 1 (bo 1 zY) r_2)]=some (C? [],[(0,h? [qS r.1,vv r.2.1,qr 3 r.2.2.1,qr 4 r.2.2.2.l]),(1,K!),(2,K!),(3,bm r.2.2.1),(4,pA [1,1] 1 (bo 1 zY) r.2.2.2)])):=⟨by unfold ue;exact gW⟩
@[go_sem] def pO:((Int×(Sl qk)×Bool×qg)⊕(qg))->Ex×St
 | .inl y=>(x!,⟨[(8,qj y.1),(9,vv y.2.1),(10,zD y.2.2.1)],[(0,bb y.2.2.2)],1⟩)
 | .inr y=>(j?,⟨[(8,Q?),(9,Q?),(10,Q?)],[(0,bb y)],1⟩)
theorem bC:(∀ p r,zd p=some r->match p with|(k,i,parts,b)=>O.call 346 [x? 0 0,I? (Y_ k),qj i,vv parts] [(0,bb b)]=some (C? [qj r.1,vv r.2.1,zD r.2.2.1],[(0,bb r.2.2.2)]))/\(∀ p r,hJ p=some r->match p with|(k,i,parts,b)=>O.call 362 [x? 0 0,I? (Y_ k),qj i,vv parts] [(0,bb b)]=some (C? [qj r.1,vv r.2.1,zD r.2.2.1],[(0,bb r.2.2.2)]))/\(∀ p r,kF p=some r->match p with|(k,i,parts,g,j,r_)=>O.loop 346 3 ⟨[(0,x? 0 0),(1,I? (Y_ k)),(2,qj i),(3,vv parts),(15,qj g),(16,qj j)],[(0,bb r_)],1⟩=some (pO r))/\(∀ p r,ke p=some r->match p with|(k,i,parts,b)=>O.call 361 [x? 0 0,I? (Y_ k),qj i,vv parts] [(0,bb b)]=some (C? [qj r.1,vv r.2.1,zD r.2.2.1],[(0,bb r.2.2.2)]))/\(∀ p r,xN p=some r->match p with|(k,i,parts,b)=>O.call 371 [x? 0 0,I? (Y_ k),qj i,vv parts] [(0,bb b)]=some (C? [qj r.1,vv r.2.1,zD r.2.2.1],[(0,bb r.2.2.2)])):=by refine zd.mutual_partial_correctness _ _ _ _ _ ?_ ?_ ?_ ?_ ?_;intro zd hJ kF ke Nb i215 L8 i210;have j209:=fun p=>zl.mk (Nb p);clear Nb;have j215:=fun p=>zl.mk (i215 p);clear i215;have j214:=fun p=>zl.mk (L8 p);clear L8;have j210:=fun p=>zl.mk (i210 p);clear i210;rintro⟨_,_,_,_⟩;exact gW;intro zd i;have j209:=fun p=>zl.mk (i p);clear i;rintro⟨_,_,_,_⟩;exact gW;intro zd kF Nb L8;have j209:=fun p=>zl.mk (Nb p);clear Nb;have j214:=fun p=>zl.mk (L8 p);clear L8;rintro⟨_,_,_,_,_,_⟩;exact gW;intro zd xN Nb i211;have j209:=fun p=>zl.mk (Nb p);clear Nb;have j211:=fun p=>zl.mk (i211 p);clear i211;rintro⟨_,_,_,_⟩;exact gW;intro zd i;have j209:=fun p=>zl.mk (i p);clear i;rintro⟨_,_,_,_⟩;exact gW
instance(p):zl (zd p) (fun r=>match p with|(k,i,parts,b)=>O.call 346 [x? 0 0,I? (Y_ k),qj i,vv parts] [(0,bb b)]=some (C? [qj r.1,vv r.2.1,zD r.2.2.1],[(0,bb r.2.2.2)])):=⟨fun r=>bC.1 p r⟩
instance(p):zl (hJ p) (fun r=>match p with|(k,i,parts,b)=>O.call 362 [x? 0 0,I? (Y_ k),qj i,vv parts] [(0,bb b)]=some (C? [qj r.1,vv r.2.1,zD r.2.2.1],[(0,bb r.2.2.2)])):=⟨fun r=>bC.2.1 p r⟩
instance(p):zl (kF p) (fun r=>match p with|(k,i,parts,g,j,r_)=>O.loop 346 3 ⟨[(0,x? 0 0),(1,I? (Y_ k)),(2,qj i),(3,vv parts),(15,qj g),(16,qj j)],[(0,bb r_)],1⟩=some (pO r)):=⟨fun r=>bC.2.2.1 p r⟩
instance(p):zl (ke p) (fun r=>match p with|(k,i,parts,b)=>O.call 361 [x? 0 0,I? (Y_ k),qj i,vv parts] [(0,bb b)]=some (C? [qj r.1,vv r.2.1,zD r.2.2.1],[(0,bb r.2.2.2)])):=⟨fun r=>bC.2.2.2.1 p r⟩
instance(p):zl (xN p) (fun r=>match p with|(k,i,parts,b)=>O.call 371 [x? 0 0,I? (Y_ k),qj i,vv parts] [(0,bb b)]=some (C? [qj r.1,vv r.2.1,zD r.2.2.1],[(0,bb r.2.2.2)])):=⟨fun r=>bC.2.2.2.2 p r⟩
instance(x i b):zl (rT x i b) (fun r=>O.call 325 [x? 0 0,vv x,qj i] [(0,bb b)]=some (C? [vv r.1,zD r.2.1],[(0,bb r.2.2)])):=⟨by unfold rT;exact gW⟩
@[go_sem] def su (x:qF) (t6:ql):((Bool×qg×ql)⊕(qg))->Ex×St
 | .inl y=>(x!,⟨[(6,x? 2 0),(7,zD y.1)],[(0,bb y.2.1),(1,bb x),(2,bb y.2.2)],3⟩)
 | .inr y=>(j?,⟨[(6,x? 2 0),(7,Q?)],[(0,bb y),(1,bb x),(2,bb t6)],3⟩)
instance:xL vZ fun(i,r_,x,t6) r=>O.loop 298 0 ⟨[(0,x? 0 0),(2,qj i),(4,x? 1 0),(6,x? 2 0)],[(0,bb r_),(1,bb x),(2,bb t6)],3⟩=some (su x t6 r):=gP vZ.partial_correctness fun _ _⟨_,_,_,_⟩=>gW
instance(x i b):zl (bB x i b) (fun r=>O.call 298 [x? 0 0,vv x,qj i] [(0,bb b)]=some (C? [vv r.1,zD r.2.1],[(0,bb r.2.2)])):=⟨by unfold bB;exact gW⟩
@[go_sem] def ip (x:qF):(((Sl ql)×Int×Int×qg×(List ql))⊕(qg×(List ql)))->Ex×St
 | .inl y=>(x!,⟨[(8,vv y.1),(9,qj y.2.1),(10,qj y.2.2.1),(11,x? 1 0),(12,qr 2 y.2.2.2.2)],[(0,bb x),(1,bb y.2.2.2.1),(2,br y.2.2.2.2)],3⟩)
 | .inr y=>(j?,⟨[(8,Q?),(9,Q?),(10,Q?),(11,x? 1 0),(12,qr 2 y.2)],[(0,bb x),(1,bb y.1),(2,br y.2)],3⟩)
instance:xL nj fun(i,x,r_,out) r=>O.loop 261 0 ⟨[(4,x? 0 0),(11,x? 1 0),(12,qr 2 out),(13,qj i)],[(0,bb x),(1,bb r_),(2,br out)],3⟩=some (ip x r):=gP nj.partial_correctness fun _ _⟨_,_,_,_⟩=>gW
instance(x fold s fuel):zl (ik x fold s fuel) (fun r=>O.call 261 [vv x,zD fold,qS s,qj fuel] []=some (C? [vv r.1,qj r.2.1,qj r.2.2],[])):=⟨by unfold ik;exact gW⟩
instance:xL md fun(i,b) r=>O.loop 326 1 ⟨[(6,qr 0 b),(7,qj i)],[(0,bm b)],1⟩=some (j?,⟨[(6,qr 0 r)],[(0,bm r)],1⟩):=gP md.partial_correctness fun _ _⟨_,_⟩=>gW
instance:xL yR fun(wP,l,out,i,K7) r=>O.loop 326 5 ⟨[(1,qj wP),(9,vv l),(10,qS out),(11,qj i)],[(0,bm K7)],1⟩=some (j?,⟨[(10,qS r)],[(0,bm K7)],1⟩):=gP yR.partial_correctness fun _ _⟨_,_,_,_,_⟩=>gW
instance(s wP):zl (sT s wP) (fun r=>O.call 326 [qS s,qj wP] []=some (C? [qS r.1,qj r.2],[])):=⟨by unfold sT;exact gW⟩
instance:xL zz fun(fs,parts,s,i) r=>O.loop 301 0 ⟨[(0,vv fs),(1,vv parts),(5,qS s),(6,qj i)],[],0⟩=some (j?,⟨[(5,qS r)],[],0⟩):=gP zz.partial_correctness fun _ _⟨_,_,_,_⟩=>gW
instance(fs parts):zl (cN fs parts) (fun r=>O.call 301 [vv fs,vv parts] []=some (qS r,[])):=⟨by unfold cN;exact gW⟩
instance(f s m):zl (dK f s m) (fun r=>O.call 263 [vv f,qS s,vv m] []=some (qS r,[])):=⟨by unfold dK;exact gW⟩
instance(c):zl (vA c) (fun r=>O.call 368 [qS c] []=some (C? [qS r.1,zD r.2],[])):=⟨by unfold vA;exact gW⟩
end Go.Proofs.YtnfdnckadgcifaaGreat
