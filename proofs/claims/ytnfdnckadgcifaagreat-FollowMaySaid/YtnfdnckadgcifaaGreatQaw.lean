/-
  What the machine's calls come to: the plain functions.
-/
import Derived.Test.YtnfdnckadgcifaaGreatQag
import Derived.Test.YtnfdnckadgcifaaGreatQaj
import Derived.Test.YtnfdnckadgcifaaGreatQao
import Derived.Test.YtnfdnckadgcifaaGreatQap
import Derived.Test.YtnfdnckadgcifaaGreatQar
import Derived.Test.YtnfdnckadgcifaaGreatQas
import Derived.Test.YtnfdnckadgcifaaGreatQat
import Derived.Test.YtnfdnckadgcifaaGreatQau
import Derived.Test.YtnfdnckadgcifaaGreatQav
open Go.Gm.AV renaming ptr->x?,undef->Q?,xW->C?
open Go.Gm.Ex renaming normal->j?,ret->x!
open Go.Gm.qJ renaming box->h?
set_option linter.unusedSimpArgs false
set_option linter.unusedVariables false
set_option maxRecDepth 100000
namespace Go.Proofs.YtnfdnckadgcifaaGreat
open Go Go.Gm
set_option maxHeartbeats 4000000
@[go_sem] def yI:((Int×qd×qF×(List qF))⊕(Int×qd×qF))->Ex×St
 | .inl y=>(x!,⟨[(4,x? 1 0),(5,qj y.1)],[(0,bb y.2.1),(1,bb y.2.2.1),(2,br y.2.2.2)],3⟩)
 | .inr y=>(x!,⟨[(4,x? 1 0),(5,qj y.1)],[(0,bb y.2.1),(1,bb y.2.2),(2,qJ.xH)],3⟩)
@[go_sem] def yJ (deep:Int) (t4:qF) (alts:(List qF)):((Int×qd×qF×(List qF))⊕(qd×(List qF)))->Ex×St
 | .inl y=>(x!,⟨[(0,x? 0 0),(1,qj deep),(4,x? 1 0),(5,qj y.1),(6,qr 2 alts),(7,qr 3 y.2.2.2)],[(0,bb y.2.1),(1,bb y.2.2.1),(2,br alts),(3,br y.2.2.2)],4⟩)
 | .inr y=>(j?,⟨[(0,x? 0 0),(1,qj deep),(4,x? 1 0),(5,Q?),(6,qr 2 alts),(7,qr 3 y.2)],[(0,bb y.1),(1,bb t4),(2,br alts),(3,br y.2)],4⟩)
theorem kA:(∀ p r,zR p=some r->match p with|(deep,b)=>O.call 265 [x? 0 0,qj deep] [(0,bb b)]=some (C? [vv r.1,qj r.2.1],[(0,bb r.2.2)]))/\(∀ p r,xA p=some r->match p with|(deep,r_,t4,alts)=>O.loop 265 0 ⟨[(0,x? 0 0),(1,qj deep),(4,x? 1 0),(6,qr 2 alts)],[(0,bb r_),(1,bb t4),(2,br alts)],3⟩=some (yI r))/\(∀ p r,xB p=some r->match p with|(deep,r_,t4,alts,sB)=>O.loop 265 2 ⟨[(0,x? 0 0),(1,qj deep),(4,x? 1 0),(6,qr 2 alts),(7,qr 3 sB)],[(0,bb r_),(1,bb t4),(2,br alts),(3,br sB)],4⟩=some (yJ deep t4 alts r))/\(∀ p r,vY p=some r->match p with|(deep,b)=>O.call 303 [x? 0 0,qj deep] [(0,bb b)]=some (C? [vv r.1,qj r.2.1],[(0,bb r.2.2)]))/\(∀ p r,kv p=some r->match p with|(deep,b)=>O.call 327 [x? 0 0,qj deep] [(0,bb b)]=some (C? [vv r.1,qj r.2.1],[(0,bb r.2.2)])):=by refine zR.mutual_partial_correctness _ _ _ _ _ ?_ ?_ ?_ ?_ ?_;intro xA i;have j296:=fun p=>zl.mk (i p);clear i;rintro⟨_,_⟩;exact gW;intro xA xB i296 L9;have j296:=fun p=>zl.mk (i296 p);clear i296;have j297:=fun p=>zl.mk (L9 p);clear L9;rintro⟨_,_,_,_⟩;exact gW;intro xB vY L9 i299;have j297:=fun p=>zl.mk (L9 p);clear L9;have j299:=fun p=>zl.mk (i299 p);clear i299;rintro⟨_,_,_,_,_⟩;exact gW;intro kv i;have j301:=fun p=>zl.mk (i p);clear i;rintro⟨_,_⟩;exact gW;intro zR i;have j295:=fun p=>zl.mk (i p);clear i;rintro⟨_,_⟩;exact gW
instance(p):zl (zR p) (fun r=>match p with|(deep,b)=>O.call 265 [x? 0 0,qj deep] [(0,bb b)]=some (C? [vv r.1,qj r.2.1],[(0,bb r.2.2)])):=⟨fun r=>kA.1 p r⟩
instance(p):zl (xA p) (fun r=>match p with|(deep,r_,t4,alts)=>O.loop 265 0 ⟨[(0,x? 0 0),(1,qj deep),(4,x? 1 0),(6,qr 2 alts)],[(0,bb r_),(1,bb t4),(2,br alts)],3⟩=some (yI r)):=⟨fun r=>kA.2.1 p r⟩
instance(p):zl (xB p) (fun r=>match p with|(deep,r_,t4,alts,sB)=>O.loop 265 2 ⟨[(0,x? 0 0),(1,qj deep),(4,x? 1 0),(6,qr 2 alts),(7,qr 3 sB)],[(0,bb r_),(1,bb t4),(2,br alts),(3,br sB)],4⟩=some (yJ deep t4 alts r)):=⟨fun r=>kA.2.2.1 p r⟩
instance(p):zl (vY p) (fun r=>match p with|(deep,b)=>O.call 303 [x? 0 0,qj deep] [(0,bb b)]=some (C? [vv r.1,qj r.2.1],[(0,bb r.2.2)])):=⟨fun r=>kA.2.2.2.1 p r⟩
instance(p):zl (kv p) (fun r=>match p with|(deep,b)=>O.call 327 [x? 0 0,qj deep] [(0,bb b)]=some (C? [vv r.1,qj r.2.1],[(0,bb r.2.2)])):=⟨fun r=>kA.2.2.2.2 p r⟩
instance(s):zl (fu s) (fun r=>O.call 214 [qS s] []=some (C? [vv r.1,qj r.2],[])):=⟨by unfold fu;exact gW⟩
instance(s qo):zl (cP s qo) (fun r=>O.call 161 [qS s,qj qo] []=some (C? [vv r.1,qj r.2.1,zD r.2.2],[])):=⟨by unfold cP;exact gW⟩
instance(qo b r_ r_2):zl (yy qo b r_ r_2) (fun r=>O.call 110 [x? 0 0,qj qo] [(0,h? [qS b,qr 1 r_,qr 2 r_2]),(1,bm r_),(2,bm r_2)]=some (C? [vv r.1,qj r.2.1,zD r.2.2],[(0,h? [qS b,qr 1 r_,qr 2 r_2]),(1,bm r_),(2,bm r_2)])):=⟨by unfold yy;exact gW⟩
instance:xL yS fun(s,qo,K7,zr,r_) r=>O.loop 74 0 ⟨[(0,qS s),(4,x? 2 0),(5,qj qo)],[(0,bm K7),(1,bm zr),(2,h? [qS r_,qr 0 K7,qr 1 zr])],3⟩=some (j?,⟨[(4,x? 2 0)],[(0,bm r.1),(1,bm r.2),(2,h? [qS r_,qr 0 r.1,qr 1 r.2])],3⟩):=gP yS.partial_correctness fun _ _⟨_,_,_,_,_⟩=>gW
instance(s):zl (fJ s) (fun r=>O.call 74 [qS s] []=some (C? [vv r.1,qj r.2],[])):=⟨by unfold fJ;exact gW⟩
instance:xL kP fun(i,k,w,w2,w3,zr,qZ,xu,yB) r=>O.loop 171 2 ⟨[(0,x? 0 0),(3,qj i),(4,qr 4 yB),(5,qj k)],[(0,h? [vv w,qS w2,qS w3,qr 1 zr,qr 2 qZ,qr 3 xu]),(1,br zr),(2,br qZ),(3,br xu),(4,br yB)],5⟩=some (j?,⟨[(0,x? 0 0),(3,qj i),(4,qr 4 r)],[(0,h? [vv w,qS w2,qS w3,qr 1 zr,qr 2 qZ,qr 3 xu]),(1,br zr),(2,br qZ),(3,br xu),(4,br r)],5⟩):=gP kP.partial_correctness fun _ _⟨_,_,_,_,_,_,_,_,_⟩=>gW
@[go_sem] def rV (w:(Sl qx)) (w2:qa) (w3:qa) (zr:(List qb)) (qZ:(List Int)) (xu:(List qa)):((Bool)⊕(Unit))->Ex×St
 | .inl y=>(x!,⟨[(2,zD y)],[(0,h? [vv w,qS w2,qS w3,qr 1 zr,qr 2 qZ,qr 3 xu]),(1,br zr),(2,br qZ),(3,br xu)],4⟩)
 | .inr y=>(j?,⟨[(2,Q?)],[(0,h? [vv w,qS w2,qS w3,qr 1 zr,qr 2 qZ,qr 3 xu]),(1,br zr),(2,br qZ),(3,br xu)],4⟩)
instance:xL xT fun(i,w,w2,w3,zr,qZ,xu) r=>O.loop 171 0 ⟨[(0,x? 0 0),(3,qj i)],[(0,h? [vv w,qS w2,qS w3,qr 1 zr,qr 2 qZ,qr 3 xu]),(1,br zr),(2,br qZ),(3,br xu)],4⟩=some (rV w w2 w3 zr qZ xu r):=gP xT.partial_correctness fun _ _⟨_,_,_,_,_,_,_⟩=>gW
instance(b b_2 jq r_ r_2 jG):zl (nX b b_2 jq r_ r_2 jG) (fun r=>O.call 171 [x? 0 0] [(0,h? [vv b,qS b_2,qS jq,qr 1 r_,qr 2 r_2,qr 3 jG]),(1,br r_),(2,br r_2),(3,br jG)]=some (zD r,[(0,h? [vv b,qS b_2,qS jq,qr 1 r_,qr 2 r_2,qr 3 jG]),(1,br r_),(2,br r_2),(3,br jG)])):=⟨by unfold nX;exact gW⟩
instance(cur is):zl (fO cur is) (fun r=>O.call 122 [qj cur,vv is] []=some (C? [qj r.1,zD r.2],[])):=⟨by unfold fO;exact gW⟩
instance(st):zl (fW st) (fun r=>O.call 76 [vv st] []=some (C? [vv r.1,qj r.2],[])):=⟨by unfold fW;exact gW⟩
instance(cur is):zl (fP cur is) (fun r=>O.call 124 [qj cur,vv is] []=some (C? [qj r.1,zD r.2],[])):=⟨by unfold fP;exact gW⟩
instance(st):zl (fX st) (fun r=>O.call 77 [vv st] []=some (C? [vv r.1,qj r.2],[])):=⟨by unfold fX;exact gW⟩
instance(st):zl (cW st) (fun r=>O.call 78 [vv st] []=some (C? [vv r.1,qj r.2],[])):=⟨by unfold cW;exact gW⟩
instance(st k):zl (s7 st k) (fun r=>O.call 79 [vv st,qj k] []=some (C? [vv r.1,qj r.2],[])):=⟨by unfold s7;exact gW⟩
end Go.Proofs.YtnfdnckadgcifaaGreat
