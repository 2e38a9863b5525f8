/-
  What the machine's calls come to: the plain functions.
-/
import Derived.Test.YtnfdnckadgcifaaGreatQag
import Derived.Test.YtnfdnckadgcifaaGreatQaj
open Go.Gm.AV renaming ptr->x?,undef->Q?
open Go.Gm.Ex renaming normal->j?,ret->x!
open Go.Gm.qJ renaming box->h?
set_option linter.unusedSimpArgs false
set_option linter.unusedVariables false
set_option maxRecDepth 100000
namespace Go.Proofs.YtnfdnckadgcifaaGreat
open Go Go.Gm
set_option maxHeartbeats 4000000
instance:xL yW fun(l,xV,deep,r_,e,h_,yB) r=>O.loop 256 0 ⟨[(0,vv l),(1,qj xV),(3,zD deep),(6,x? 0 0),(9,qr 1 h_),(10,qr 2 yB),(11,qj r_)],[(0,bb e),(1,bm h_),(2,bm yB)],3⟩=some (j?,⟨[(0,vv l),(1,qj xV),(3,zD deep),(6,x? 0 0),(9,qr 1 r),(10,qr 2 yB)],[(0,bb e),(1,bm r),(2,bm yB)],3⟩):=gP yW.partial_correctness fun _ _⟨_,_,_,_,_,_,_⟩=>gW
instance:xL qK fun(l,xV,deep,r_,e,h_,yB) r=>O.loop 256 2 ⟨[(0,vv l),(1,qj xV),(3,zD deep),(6,x? 0 0),(9,qr 1 h_),(10,qr 2 yB),(12,qj r_)],[(0,bb e),(1,bm h_),(2,bm yB)],3⟩=some (j?,⟨[(9,qr 1 r.1)],[(0,bb e),(1,bm r.1),(2,bm r.2)],3⟩):=gP qK.partial_correctness fun _ _⟨_,_,_,_,_,_,_⟩=>gW
instance(l xV e deep):zl (fV l xV e deep) (fun r=>O.call 256 [vv l,qj xV,vv e,zD deep] []=some (vv r,[])):=⟨by unfold fV;exact gW⟩
instance:xL vP fun(l,h_,last,r_,e) r=>O.loop 255 0 ⟨[(0,vv l),(1,vv h_),(5,x? 0 0),(7,qj last),(8,qj r_)],[(0,bb e)],1⟩=some (j?,⟨[(0,vv l),(1,vv h_),(5,x? 0 0),(7,qj r)],[(0,bb e)],1⟩):=gP vP.partial_correctness fun _ _⟨_,_,_,_,_⟩=>gW
instance:xL xj fun(l,h_,last,r_,e,out) r=>O.loop 255 2 ⟨[(0,vv l),(1,vv h_),(5,x? 0 0),(7,qj last),(9,qr 1 out),(10,qj r_)],[(0,bb e),(1,bm out)],2⟩=some (j?,⟨[(9,qr 1 r)],[(0,bb e),(1,bm r)],2⟩):=gP xj.partial_correctness fun _ _⟨_,_,_,_,_,_⟩=>gW
instance(l h_ e):zl (cV l h_ e) (fun r=>O.call 255 [vv l,vv h_,vv e] []=some (vv r,[])):=⟨by unfold cV;exact gW⟩
instance:xL nq fun(ns,n,k) r=>O.loop 174 0 ⟨[(0,vv ns),(1,qj n),(5,qj k)],[],0⟩=some (j?,⟨[(0,vv ns),(1,qj n),(5,qj r)],[],0⟩):=gP nq.partial_correctness fun _ _⟨_,_,_⟩=>gW
instance(ns n):zl (rb ns n) (fun r=>O.call 174 [vv ns,qj n] []=some (vv r,[])):=⟨by unfold rb;exact gW⟩
instance:xL uC fun(sj,k,i) r=>O.loop 149 0 ⟨[(1,x? 0 0),(3,vv sj),(4,qj k)],[(0,bb i)],1⟩=some (j?,⟨[(1,x? 0 0),(3,vv r)],[(0,bb i)],1⟩):=gP uC.partial_correctness fun _ _⟨_,_,_⟩=>gW
@[go_sem] def fQ (l:(List Int)):((Bool)⊕(Unit))->Ex×St
 | .inl y=>(x!,⟨[(4,zD y)],[(0,br l)],1⟩)
 | .inr y=>(j?,⟨[(4,Q?)],[(0,br l)],1⟩)
instance:xL uF fun(n,i,l) r=>O.loop 203 0 ⟨[(0,qr 0 l),(1,qj n),(5,qj i)],[(0,br l)],1⟩=some (fQ l r):=gP uF.partial_correctness fun _ _⟨_,_,_⟩=>gW
instance(n r_):zl (mO n r_) (fun r=>O.call 203 [qr 0 r_,qj n] [(0,br r_)]=some (zD r,[(0,br r_)])):=⟨by unfold mO;exact gW⟩
@[go_sem] def e9 (l:(Sl qt)) (n:Int) (a:Int) (xc:(List Int)):((Bool)⊕(Unit))->Ex×St
 | .inl y=>(x!,⟨[(0,vv l),(1,qj n),(2,qr 0 xc),(6,zD y),(7,qj a)],[(0,br xc)],1⟩)
 | .inr y=>(j?,⟨[(0,vv l),(1,qj n),(2,qr 0 xc),(6,Q?),(7,qj a)],[(0,br xc)],1⟩)
instance:xL yV fun(l,n,a,b,xc) r=>O.loop 204 2 ⟨[(0,vv l),(1,qj n),(2,qr 0 xc),(7,qj a),(8,qj b)],[(0,br xc)],1⟩=some (e9 l n a xc r):=gP yV.partial_correctness fun _ _⟨_,_,_,_,_⟩=>gW
@[go_sem] def e8 (xc:(List Int)):((Bool)⊕(Unit))->Ex×St
 | .inl y=>(x!,⟨[(6,zD y)],[(0,br xc)],1⟩)
 | .inr y=>(j?,⟨[(6,Q?)],[(0,br xc)],1⟩)
instance:xL vD fun(l,n,a,xc) r=>O.loop 204 0 ⟨[(0,vv l),(1,qj n),(2,qr 0 xc),(7,qj a)],[(0,br xc)],1⟩=some (e8 xc r):=gP vD.partial_correctness fun _ _⟨_,_,_,_⟩=>gW
instance(l n r_):zl (fR l n r_) (fun r=>O.call 204 [vv l,qj n,qr 0 r_] [(0,br r_)]=some (zD r,[(0,br r_)])):=⟨by unfold fR;exact gW⟩
instance:xL wB fun(sj,next,found,k,i,xc) r=>O.loop 149 4 ⟨[(1,x? 0 0),(3,vv sj),(5,qr 1 xc),(6,qj next),(7,zD found),(8,qj k)],[(0,bb i),(1,br xc)],2⟩=some (j?,⟨[(1,x? 0 0),(3,vv sj),(5,qr 1 xc),(6,qj r.1),(7,zD r.2)],[(0,bb i),(1,br xc)],2⟩):=gP wB.partial_correctness fun _ _⟨_,_,_,_,_,_⟩=>gW
instance:xL vM fun(sj,next,found,k,i,xc) r=>O.loop 149 6 ⟨[(1,x? 0 0),(3,vv sj),(5,qr 1 xc),(6,qj next),(7,zD found),(9,qj k)],[(0,bb i),(1,br xc)],2⟩=some (j?,⟨[(1,x? 0 0),(3,vv sj),(5,qr 1 xc),(6,qj r)],[(0,bb i),(1,br xc)],2⟩):=gP vM.partial_correctness fun _ _⟨_,_,_,_,_,_⟩=>gW
instance:xL uD fun(sj,i,xc) r=>O.loop 149 2 ⟨[(1,x? 0 0),(3,vv sj),(5,qr 1 xc)],[(0,bb i),(1,br xc)],2⟩=some (j?,⟨[(5,qr 1 r)],[(0,bb i),(1,br r)],2⟩):=gP uD.partial_correctness fun _ _⟨_,_,_⟩=>gW
instance(i):zl (cT i) (fun r=>O.call 149 [vv i] []=some (vv r,[])):=⟨by unfold cT;exact gW⟩
instance:xL jA fun(i,a,n,k,w,w2,zr,qZ,yB,held) r=>O.loop 150 0 ⟨[(0,x? 0 0),(1,qj i),(2,qj a),(3,qj n),(9,x? 3 0),(10,qr 4 held),(11,qj k)],[(0,h? [qS w,vv w2,qr 1 zr,qr 2 qZ.l]),(1,bm zr),(2,pA [1,1] 1 (bo 1 zY) qZ),(3,bb yB),(4,bm held)],5⟩=some (j?,⟨[(0,x? 0 0),(1,qj i),(2,qj a),(3,qj n),(9,x? 3 0),(10,qr 4 r.2)],[(0,h? [qS w,vv w2,qr 1 zr,qr 2 r.1.l]),(1,bm zr),(2,pA [1,1] 1 (bo 1 zY) r.1),(3,bb yB),(4,bm r.2)],5⟩):=gP jA.partial_correctness fun _ _⟨_,_,_,_,_,_,_,_,_,_⟩=>gW
@[go_sem] def dn (i:qu):((Int×Int×Int)⊕(Int×Int))->Ex×St
 | .inl y=>(x!,⟨[(6,qj y.1),(7,qj y.2.1),(8,qj y.2.2)],[(0,bb i)],1⟩)
 | .inr y=>(j?,⟨[(6,Q?),(7,qj y.1),(8,qj y.2)],[(0,bb i)],1⟩)
instance:xL zW fun(n,held,first,Xx,k,i) r=>O.loop 205 0 ⟨[(1,qj n),(2,vv held),(3,x? 0 0),(7,qj first),(8,qj Xx),(9,qj k)],[(0,bb i)],1⟩=some (dn i r):=gP zW.partial_correctness fun _ _⟨_,_,_,_,_,_⟩=>gW
instance(i n held):zl (rX i n held) (fun r=>O.call 205 [vv i,qj n,vv held] []=some (qj r,[])):=⟨by unfold rX;exact gW⟩
instance:xL jB fun(i,a,n,src,k,w,w2,zr,qZ,yB) r=>O.loop 150 2 ⟨[(0,x? 0 0),(1,qj i),(2,qj a),(3,qj n),(9,x? 3 0),(12,qj src),(13,qj k)],[(0,h? [qS w,vv w2,qr 1 zr,qr 2 qZ.l]),(1,bm zr),(2,pA [1,1] 1 (bo 1 zY) qZ),(3,bb yB),(4,qJ.xH)],5⟩=some (j?,⟨[(0,x? 0 0),(1,qj i),(2,qj a),(3,qj n),(9,x? 3 0),(12,qj src)],[(0,h? [qS w,vv w2,qr 1 zr,qr 2 r.l]),(1,bm zr),(2,pA [1,1] 1 (bo 1 zY) r),(3,bb yB),(4,qJ.xH)],5⟩):=gP jB.partial_correctness fun _ _⟨_,_,_,_,_,_,_,_,_,_⟩=>gW
theorem oR:(∀ p r,gn p=some r->O.call 321 [vv p] []=some (qj r,[]))/\(∀ p r,wv p=some r->match p with|(n,i,x)=>O.loop 321 0 ⟨[(1,x? 0 0),(3,qj n),(4,qj i)],[(0,bb x)],1⟩=some (j?,⟨[(3,qj r)],[(0,bb x)],1⟩)):=by refine gn.mutual_partial_correctness _ _ ?_ ?_;intro wv i;have j180:=fun p=>zl.mk (i p);clear i;rintro _;exact gW;intro gn wv i179 i180;have j179:=fun p=>zl.mk (i179 p);clear i179;have j180:=fun p=>zl.mk (i180 p);clear i180;rintro⟨_,_,_⟩;exact gW
instance(p):zl (gn p) (fun r=>O.call 321 [vv p] []=some (qj r,[])):=⟨fun r=>oR.1 p r⟩
instance(p):zl (wv p) (fun r=>match p with|(n,i,x)=>O.loop 321 0 ⟨[(1,x? 0 0),(3,qj n),(4,qj i)],[(0,bb x)],1⟩=some (j?,⟨[(3,qj r)],[(0,bb x)],1⟩)):=⟨fun r=>oR.2 p r⟩
theorem lM:(∀ p r,ng p=some r->O.call 322 [vv p] []=some (qj r,[]))/\(∀ p r,vu p=some r->match p with|(n,i,x)=>O.loop 322 0 ⟨[(1,x? 0 0),(3,qj n),(4,qj i)],[(0,bb x)],1⟩=some (j?,⟨[(1,x? 0 0),(3,qj r)],[(0,bb x)],1⟩)):=by refine ng.mutual_partial_correctness _ _ ?_ ?_;intro vu i;have j182:=fun p=>zl.mk (i p);clear i;rintro _;exact gW;intro ng vu i181 i182;have j181:=fun p=>zl.mk (i181 p);clear i181;have j182:=fun p=>zl.mk (i182 p);clear i182;rintro⟨_,_,_⟩;exact gW
instance(p):zl (ng p) (fun r=>O.call 322 [vv p] []=some (qj r,[])):=⟨fun r=>lM.1 p r⟩
instance(p):zl (vu p) (fun r=>match p with|(n,i,x)=>O.loop 322 0 ⟨[(1,x? 0 0),(3,qj n),(4,qj i)],[(0,bb x)],1⟩=some (j?,⟨[(1,x? 0 0),(3,qj r)],[(0,bb x)],1⟩)):=⟨fun r=>lM.2 p r⟩
@[go_sem] def ig (n:Int) (x:qF):((Bool)⊕(Unit))->Ex×St
 | .inl y=>(x!,⟨[(1,x? 0 0),(2,zD y),(3,qj n)],[(0,bb x)],1⟩)
 | .inr y=>(j?,⟨[(1,x? 0 0),(2,Q?),(3,qj n)],[(0,bb x)],1⟩)
instance:xL nh fun(n,i,x) r=>O.loop 323 3 ⟨[(1,x? 0 0),(3,qj n),(5,qj i)],[(0,bb x)],1⟩=some (ig n x r):=gP nh.partial_correctness fun _ _⟨_,_,_⟩=>gW
instance(x):zl (ur x) (fun r=>O.call 341 [vv x] []=some (zD r,[])):=⟨by unfold ur;exact gW⟩
end Go.Proofs.YtnfdnckadgcifaaGreat
