/-
  What the machine's calls come to: the plain functions.
-/
import Derived.Test.YtnfdnckadgcifaaGreatQag
import Derived.Test.YtnfdnckadgcifaaGreatQaj
import Derived.Test.YtnfdnckadgcifaaGreatQal
import Derived.Test.YtnfdnckadgcifaaGreatQam
open Go.Gm.AV renaming ptr->x?,undef->Q?,pv->I?
open Go.Gm.Ex renaming normal->j?,ret->x!
open Go.Gm.PV renaming int->m?
open Go.Gm.qJ renaming xH->K!
open Go.IntKind renaming u8->R?
open Go.Proofs.YtnfdnckadgcifaaGreat.qe renaming cB->Y_
set_option linter.unusedSimpArgs false
set_option linter.unusedVariables false
set_option maxRecDepth 100000
namespace Go.Proofs.YtnfdnckadgcifaaGreat
open Go Go.Gm
set_option maxHeartbeats 4000000
instance:xL pj fun(qo,right,l,i) r=>O.loop 259 0 ⟨[(0,qj qo),(1,zD right),(7,vv l),(8,qj i)],[],0⟩=some (j?,⟨[(0,qj r)],[],0⟩):=gP pj.partial_correctness fun _ _⟨_,_,_,_⟩=>gW
instance(qo right es):zl (dP qo right es) (fun r=>O.call 259 [qj qo,zD right,vv es] []=some (qj r,[])):=⟨by unfold dP;exact gW⟩
instance:xL nF fun(l,es,i,out) r=>O.loop 202 0 ⟨[(0,vv l),(1,vv es),(5,qr 1 out),(6,qj i)],[(0,K!),(1,br out)],2⟩=some (j?,⟨[(5,qr 1 r)],[(0,K!),(1,br r)],2⟩):=gP nF.partial_correctness fun _ _⟨_,_,_,_⟩=>gW
instance(l r_):zl (dR l r_) (fun r=>O.call 202 [vv l,qr 0 r_] [(0,bm r_)]=some (vv r,[(0,K!)])):=⟨by unfold dR;exact gW⟩
@[go_sem] def ij (n:Int) (x:qF):((Bool)⊕(Unit))->Ex×St
 | .inl y=>(x!,⟨[(1,x? 0 0),(2,zD y),(3,qj n)],[(0,bb x)],1⟩)
 | .inr y=>(j?,⟨[(1,x? 0 0),(2,Q?),(3,qj n)],[(0,bb x)],1⟩)
instance:xL ni fun(n,i,x) r=>O.loop 323 5 ⟨[(1,x? 0 0),(3,qj n),(6,qj i)],[(0,bb x)],1⟩=some (ij n x r):=gP ni.partial_correctness fun _ _⟨_,_,_⟩=>gW
instance(c):zl (ye c) (fun r=>O.call 209 [I? (m? R? (c.toNat:Int))] []=some (zD r,[])):=⟨by unfold ye;exact gW⟩
instance:xL zS fun(s,qO,i,l) r=>O.loop 264 0 ⟨[(0,qS s),(3,qr 0 l),(4,qj qO),(5,qj i)],[(0,br l)],1⟩=some (j?,⟨[(3,qr 0 r)],[(0,br r)],1⟩):=gP zS.partial_correctness fun _ _⟨_,_,_,_⟩=>gW
instance(s):zl (yQ s) (fun r=>O.call 264 [qS s] []=some (vv r,[])):=⟨by unfold yQ;exact gW⟩
instance(c):zl (jE c) (fun r=>O.call 342 [qS c] []=some (zD r,[])):=⟨by unfold jE;exact gW⟩
@[go_sem] def i9:((Bool)⊕(Unit))->Ex×St
 | .inl y=>(x!,⟨[(2,zD y)],[],0⟩)
 | .inr y=>(j?,⟨[(2,Q?)],[],0⟩)
instance:xL gm fun(rows,i) r=>O.loop 343 0 ⟨[(0,vv rows),(3,qj i)],[],0⟩=some (i9 r):=gP gm.partial_correctness fun _ _⟨_,_⟩=>gW
instance(rows):zl (i7 rows) (fun r=>O.call 343 [vv rows] []=some (zD r,[])):=⟨by unfold i7;exact gW⟩
instance(x):zl (rS x) (fun r=>O.call 344 [vv x] []=some (zD r,[])):=⟨by unfold rS;exact gW⟩
@[go_sem] def sR (n:Int) (x:qF):((Bool)⊕(Unit))->Ex×St
 | .inl y=>(x!,⟨[(1,x? 0 0),(2,zD y),(3,qj n)],[(0,bb x)],1⟩)
 | .inr y=>(j?,⟨[(1,x? 0 0),(2,Q?),(3,qj n)],[(0,bb x)],1⟩)
theorem QL:(∀ p r,ph p=some r->O.call 323 [vv p] []=some (zD r,[]))/\(∀ p r,yH p=some r->match p with|(n,i,x)=>O.loop 323 0 ⟨[(1,x? 0 0),(3,qj n),(4,qj i)],[(0,bb x)],1⟩=some (sR n x r)):=by refine ph.mutual_partial_correctness _ _ ?_ ?_;intro yH i;have j184:=fun p=>zl.mk (i p);clear i;rintro _;exact gW;intro ph yH i183 i184;have j183:=fun p=>zl.mk (i183 p);clear i183;have j184:=fun p=>zl.mk (i184 p);clear i184;rintro⟨_,_,_⟩;exact gW
instance(p):zl (ph p) (fun r=>O.call 323 [vv p] []=some (zD r,[])):=⟨fun r=>QL.1 p r⟩
instance(p):zl (yH p) (fun r=>match p with|(n,i,x)=>O.loop 323 0 ⟨[(1,x? 0 0),(3,qj n),(4,qj i)],[(0,bb x)],1⟩=some (sR n x r)):=⟨fun r=>QL.2 p r⟩
instance(x):zl (sP x) (fun r=>O.call 295 [vv x] []=some (zD r,[])):=⟨by unfold sP;exact gW⟩
instance(wP):zl (sS wP) (fun r=>O.call 307 [qj wP] []=some (qS r,[])):=⟨by unfold sS;exact gW⟩
@[go_sem] def iq:((Bool)⊕(Unit))->Ex×St
 | .inl y=>(x!,⟨[(2,zD y)],[],0⟩)
 | .inr y=>(j?,⟨[(2,Q?)],[],0⟩)
instance:xL xX fun(fs,i) r=>O.loop 296 0 ⟨[(0,vv fs),(3,qj i)],[],0⟩=some (iq r):=gP xX.partial_correctness fun _ _⟨_,_⟩=>gW
instance(fs):zl (dI fs) (fun r=>O.call 296 [vv fs] []=some (zD r,[])):=⟨by unfold dI;exact gW⟩
instance(f):zl (dJ f) (fun r=>O.call 260 [vv f] []=some (zD r,[])):=⟨by unfold dJ;exact gW⟩
instance:xL js fun(s,i,l) r=>O.loop 324 0 ⟨[(0,qS s),(3,qr 0 l),(4,qj i)],[(0,bm l)],1⟩=some (j?,⟨[(3,qr 0 r)],[(0,bm r)],1⟩):=gP js.partial_correctness fun _ _⟨_,_,_⟩=>gW
instance(s):zl (rQ s) (fun r=>O.call 324 [qS s] []=some (vv r,[])):=⟨by unfold rQ;exact gW⟩
instance(fold s fuel):zl (r9 fold s fuel) (fun r=>O.call 297 [zD fold,qS s,qj fuel] []=some (x? 0 0,[(0,bb r)])):=⟨by unfold r9;exact gW⟩
theorem ic:(∀ p r,ka p=some r->O.call 345 [vv p] []=some (qj r,[]))/\(∀ p r,jU p=some r->match p with|(n,i,x)=>O.loop 345 0 ⟨[(1,x? 0 0),(3,qj n),(4,qj i)],[(0,bb x)],1⟩=some (j?,⟨[(3,qj r)],[(0,bb x)],1⟩)):=by refine ka.mutual_partial_correctness _ _ ?_ ?_;intro jU i;have j208:=fun p=>zl.mk (i p);clear i;rintro _;exact gW;intro ka jU i207 i208;have j207:=fun p=>zl.mk (i207 p);clear i207;have j208:=fun p=>zl.mk (i208 p);clear i208;rintro⟨_,_,_⟩;exact gW
instance(p):zl (ka p) (fun r=>O.call 345 [vv p] []=some (qj r,[])):=⟨fun r=>ic.1 p r⟩
instance(p):zl (jU p) (fun r=>match p with|(n,i,x)=>O.loop 345 0 ⟨[(1,x? 0 0),(3,qj n),(4,qj i)],[(0,bb x)],1⟩=some (j?,⟨[(3,qj r)],[(0,bb x)],1⟩)):=⟨fun r=>ic.2 p r⟩
instance:xL hC fun(i,j,r_,x,t6,U2) r=>O.loop 325 0 ⟨[(0,x? 0 0),(2,qj i),(4,x? 1 0),(6,x? 2 0),(8,qr 3 U2),(9,qj j)],[(0,bb r_),(1,bb x),(2,bb t6),(3,br U2)],4⟩=some (j?,⟨[(0,x? 0 0),(2,qj i),(4,x? 1 0),(6,x? 2 0),(8,qr 3 r)],[(0,bb r_),(1,bb x),(2,bb t6),(3,br r)],4⟩):=gP hC.partial_correctness fun _ _⟨_,_,_,_,_,_⟩=>gW
instance:xL yb fun(k,i,j,r_,p_) r=>O.loop 371 0 ⟨[(0,x? 0 0),(1,I? (Y_ k)),(2,qj i),(11,qr 1 p_),(12,qj j)],[(0,bb r_),(1,bm p_)],2⟩=some (j?,⟨[(0,x? 0 0),(1,I? (Y_ k)),(2,qj i),(11,qr 1 r)],[(0,bb r_),(1,bm r)],2⟩):=gP yb.partial_correctness fun _ _⟨_,_,_,_,_⟩=>gW
instance:xL yl fun(k,i,parts,rest,g,j,r_) r=>O.loop 346 1 ⟨[(0,x? 0 0),(1,I? (Y_ k)),(2,qj i),(3,vv parts),(12,I? (Y_ rest)),(13,qj g),(14,qj j)],[(0,bb r_)],1⟩=some (j?,⟨[(0,x? 0 0),(2,qj i),(3,vv parts),(12,I? (Y_ r))],[(0,bb r_)],1⟩):=gP yl.partial_correctness fun _ _⟨_,_,_,_,_,_,_⟩=>gW
instance(c):zl (tM c) (fun r=>O.call 374 [qS c] []=some (zD r,[])):=⟨by unfold tM;exact gW⟩
@[go_sem] def oQ:((Bool)⊕(Unit))->Ex×St
 | .inl y=>(x!,⟨[(4,zD y)],[],0⟩)
 | .inr y=>(j?,⟨[(4,Q?)],[],0⟩)
instance:xL bQ fun(rows,c,i) r=>O.loop 376 0 ⟨[(0,vv rows),(1,qS c),(5,qj i)],[],0⟩=some (oQ r):=gP bQ.partial_correctness fun _ _⟨_,_,_⟩=>gW
instance(rows c):zl (ft rows c) (fun r=>O.call 376 [vv rows,qS c] []=some (zD r,[])):=⟨by unfold ft;exact gW⟩
instance:xL wj fun(i,b) r=>O.loop 366 0 ⟨[(3,qr 0 b),(4,qj i)],[(0,bm b)],1⟩=some (j?,⟨[(3,qr 0 r)],[(0,bm r)],1⟩):=gP wj.partial_correctness fun _ _⟨_,_⟩=>gW
instance(s):zl (gQ s) (fun r=>O.call 366 [qS s] []=some (qS r,[])):=⟨by unfold gQ;exact gW⟩
instance:xL vJ fun(i,b) r=>O.loop 377 0 ⟨[(3,qr 0 b),(4,qj i)],[(0,bm b)],1⟩=some (j?,⟨[(3,qr 0 r)],[(0,bm r)],1⟩):=gP vJ.partial_correctness fun _ _⟨_,_⟩=>gW
instance(s):zl (cK s) (fun r=>O.call 377 [qS s] []=some (qS r,[])):=⟨by unfold cK;exact gW⟩
instance(rows not fold c):zl (i6 rows not fold c) (fun r=>O.call 375 [vv rows,zD not,zD fold,qS c] []=some (zD r,[])):=⟨by unfold i6;exact gW⟩
instance(x i b):zl (nU x i b) (fun r=>O.call 372 [x? 0 0,vv x,qj i] [(0,bb b)]=some (AV.xW [qj r.1,zD r.2],[(0,bb b)])):=⟨by unfold nU;exact gW⟩
@[go_sem] def rU (r_:qg):((Int)⊕(Unit))->Ex×St
 | .inl y=>(x!,⟨[(4,qj y)],[(0,bb r_)],1⟩)
 | .inr y=>(j?,⟨[(4,Q?)],[(0,bb r_)],1⟩)
instance:xL kN fun(qo,i,r_) r=>O.loop 299 0 ⟨[(0,x? 0 0),(1,qj qo),(5,qj i)],[(0,bb r_)],1⟩=some (rU r_ r):=gP kN.partial_correctness fun _ _⟨_,_,_⟩=>gW
instance(qo b):zl (hK qo b) (fun r=>O.call 299 [x? 0 0,qj qo] [(0,bb b)]=some (qj r,[(0,bb b)])):=⟨by unfold hK;exact gW⟩
instance(c):zl (fC c) (fun r=>O.call 347 [I? (m? R? (c.toNat:Int))] []=some (I? (m? R? (r.toNat:Int)),[])):=⟨by unfold fC;exact gW⟩
end Go.Proofs.YtnfdnckadgcifaaGreat
