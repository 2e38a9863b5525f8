/-
  What the machine's calls come to: the plain functions.
-/
import Derived.Test.YtnfdnckadgcifaaGreatQag
import Derived.Test.YtnfdnckadgcifaaGreatQas
open Go.Gm.AV renaming ptr->x?,undef->Q?
open Go.Gm.Ex renaming normal->j?,ret->x!
open Go.Gm.qJ renaming box->h?
set_option linter.unusedSimpArgs false
set_option linter.unusedVariables false
set_option maxRecDepth 100000
namespace Go.Proofs.YtnfdnckadgcifaaGreat
open Go Go.Gm
set_option maxHeartbeats 4000000
@[go_sem] def rf (name:qa) (w:(Sl qx)) (w2:qa) (w3:qa) (zr:(List qb)) (qZ:(List Int)) (xu:(List qa)):((Int)⊕(Unit))->Ex×St
 | .inl y=>(x!,⟨[(0,x? 0 0),(1,qS name),(4,qj y)],[(0,h? [vv w,qS w2,qS w3,qr 1 zr,qr 2 qZ,qr 3 xu]),(1,br zr),(2,br qZ),(3,br xu)],4⟩)
 | .inr y=>(j?,⟨[(0,x? 0 0),(1,qS name),(4,Q?)],[(0,h? [vv w,qS w2,qS w3,qr 1 zr,qr 2 qZ,qr 3 xu]),(1,br zr),(2,br qZ),(3,br xu)],4⟩)
instance:xL kp fun(name,i,w,w2,w3,zr,qZ,xu) r=>O.loop 222 0 ⟨[(0,x? 0 0),(1,qS name),(5,qj i)],[(0,h? [vv w,qS w2,qS w3,qr 1 zr,qr 2 qZ,qr 3 xu]),(1,br zr),(2,br qZ),(3,br xu)],4⟩=some (rf name w w2 w3 zr qZ xu r):=gP kp.partial_correctness fun _ _⟨_,_,_,_,_,_,_,_⟩=>gW
instance(name b b_2 jq r_ r_2 jG):zl (ua name b b_2 jq r_ r_2 jG) (fun r=>O.call 222 [x? 0 0,qS name] [(0,h? [vv b,qS b_2,qS jq,qr 1 r_,qr 2 r_2,qr 3 jG]),(1,br r_),(2,br r_2),(3,br jG)]=some (qj r.1,[(0,h? [vv b,qS b_2,qS jq,qr 1 r_,qr 2 r_2,qr 3 r.2]),(1,br r_),(2,br r_2),(3,br r.2)])):=⟨by unfold ua;exact gW⟩
@[go_sem] def fN (l:(List Int)):((Bool)⊕(Unit))->Ex×St
 | .inl y=>(x!,⟨[(4,zD y)],[(0,br l)],1⟩)
 | .inr y=>(j?,⟨[(4,Q?)],[(0,br l)],1⟩)
instance:xL uB fun(n,i,l) r=>O.loop 224 0 ⟨[(0,qr 0 l),(1,qj n),(5,qj i)],[(0,br l)],1⟩=some (fN l r):=gP uB.partial_correctness fun _ _⟨_,_,_⟩=>gW
instance(n r_):zl (yU n r_) (fun r=>O.call 224 [qr 0 r_,qj n] [(0,br r_)]=some (zD r,[(0,br r_)])):=⟨by unfold yU;exact gW⟩
instance:xL wY fun(plain,qo,i,w,w2,w3,zr,qZ,xu,pY,x,x_2,Gq,Il,RS,RT,RU,RV,RW,Zl,Zm,Zn,Zo,Zp,Zq,Zr,J5,p_,p_2,p_3,p_4,p_5,p_6,p_7,p_8,p_9,Hy,Hz,HA,HB,HC,HD,HF,HG,HH,HJ,oP) r=>O.loop 221 0 ⟨[(0,x? 0 0),(3,zD plain),(5,x? 5 0),(8,qj qo),(9,x? 6 0),(10,qj i)],[(0,h? [vv w,qS w2,qS w3,qr 2 qZ,qr 3 xu,qr 4 pY]),(1,bm zr),(2,br qZ),(3,br xu),(4,br pY),(5,h? [qj x,qS x_2,qj Gq,zD Il,zD RS,qj RT,qS RU,zD RV,vv RW,qj Zl,qj Zm,zD Zn,vv Zo,vv Zp,zD Zq,zD Zr,vv J5,qr 1 zr]),(6,h? [qj p_,qS p_2,qj p_3,zD p_4,zD p_5,zD p_6,qj p_7,qS p_8,zD p_9,vv Hy,qj Hz,qj HA,zD HB,vv HC,vv HD,zD HF,zD HG,qr 7 oP,qj HH,qj HJ]),(7,br oP)],8⟩=some (j?,⟨[(0,x? 0 0),(3,zD plain),(5,x? 5 0),(8,qj qo),(9,x? 6 0)],[(0,h? [vv w,qS w2,qS w3,qr 2 qZ,qr 3 xu,qr 4 pY]),(1,bm zr),(2,br qZ),(3,br xu),(4,br pY),(5,h? [qj x,qS x_2,qj Gq,zD Il,zD RS,qj RT,qS RU,zD RV,vv RW,qj Zl,qj Zm,zD Zn,vv Zo,vv Zp,zD Zq,zD Zr,vv J5,qr 1 zr]),(6,h? [qj p_,qS p_2,qj p_3,zD p_4,zD p_5,zD p_6,qj p_7,qS p_8,zD p_9,vv Hy,qj Hz,qj HA,zD HB,vv HC,vv HD,zD HF,zD HG,qr 7 r,qj HH,qj HJ]),(7,br r)],8⟩):=gP wY.partial_correctness fun _ _⟨_,_,_,_,_,_,_,_,_,_,_,_,_,_,_,_,_,_,_,_,_,_,_,_,_,_,_,_,_,_,_,_,_,_,_,_,_,_,_,_,_,_,_,_,_,_,_⟩=>gW
instance:xL xq fun(plain,qo,i,w,w2,w3,zr,qZ,xu,x,p_,p_2,p_3,p_4,p_5,p_6,p_7,p_8,p_9,Hy,Hz,HA,HB,HC,HD,HF,HG,HH,HJ,ry) r=>O.loop 221 0 ⟨[(0,x? 0 0),(3,zD plain),(5,x? 4 0),(8,qj qo),(9,x? 5 0),(10,qj i)],[(0,h? [vv w,qS w2,qS w3,qr 1 zr,qr 2 qZ,qr 3 xu]),(1,br zr),(2,br qZ),(3,br xu),(4,bb x),(5,h? [qj p_,qS p_2,qj p_3,zD p_4,zD p_5,zD p_6,qj p_7,qS p_8,zD p_9,vv Hy,qj Hz,qj HA,zD HB,vv HC,vv HD,zD HF,zD HG,qr 6 ry,qj HH,qj HJ]),(6,br ry)],7⟩=some (j?,⟨[(0,x? 0 0),(3,zD plain),(5,x? 4 0),(8,qj qo),(9,x? 5 0)],[(0,h? [vv w,qS w2,qS w3,qr 1 zr,qr 2 qZ,qr 3 xu]),(1,br zr),(2,br qZ),(3,br xu),(4,bb x),(5,h? [qj p_,qS p_2,qj p_3,zD p_4,zD p_5,zD p_6,qj p_7,qS p_8,zD p_9,vv Hy,qj Hz,qj HA,zD HB,vv HC,vv HD,zD HF,zD HG,qr 6 r,qj HH,qj HJ]),(6,br r)],7⟩):=gP xq.partial_correctness fun _ _⟨_,_,_,_,_,_,_,_,_,_,_,_,_,_,_,_,_,_,_,_,_,_,_,_,_,_,_,_,_,_⟩=>gW
instance:xL jL fun(most,i,w,w2,w3,zr,qZ,xu) r=>O.loop 170 0 ⟨[(0,x? 0 0),(2,qj most),(3,qj i)],[(0,h? [vv w,qS w2,qS w3,qr 1 zr,qr 2 qZ,qr 3 xu]),(1,br zr),(2,br qZ),(3,br xu)],4⟩=some (j?,⟨[(0,x? 0 0),(2,qj r)],[(0,h? [vv w,qS w2,qS w3,qr 1 zr,qr 2 qZ,qr 3 xu]),(1,br zr),(2,br qZ),(3,br xu)],4⟩):=gP jL.partial_correctness fun _ _⟨_,_,_,_,_,_,_,_⟩=>gW
instance:xL jj fun(most,i,w,w2,w3,zr,qZ,xu) r=>O.loop 170 2 ⟨[(0,x? 0 0),(2,qj most),(4,qj i)],[(0,h? [vv w,qS w2,qS w3,qr 1 zr,qr 2 qZ,qr 3 xu]),(1,br zr),(2,br qZ),(3,br xu)],4⟩=some (j?,⟨[(0,x? 0 0)],[(0,h? [vv w,qS w2,qS w3,qr 1 r,qr 2 qZ,qr 3 xu]),(1,br r),(2,br qZ),(3,br xu)],4⟩):=gP jj.partial_correctness fun _ _⟨_,_,_,_,_,_,_,_⟩=>gW
@[go_sem] def tc (w:(Sl qx)) (w2:qa) (w3:qa) (zr:(List qb)) (qZ:(List Int)) (xu:(List qa)):((Int)⊕(Unit))->Ex×St
 | .inl y=>(x!,⟨[(4,qj y)],[(0,h? [vv w,qS w2,qS w3,qr 1 zr,qr 2 qZ,qr 3 xu]),(1,br zr),(2,br qZ),(3,br xu)],4⟩)
 | .inr y=>(j?,⟨[(4,Q?)],[(0,h? [vv w,qS w2,qS w3,qr 1 zr,qr 2 qZ,qr 3 xu]),(1,br zr),(2,br qZ),(3,br xu)],4⟩)
instance:xL xp fun(n,i,w,w2,w3,zr,qZ,xu) r=>O.loop 223 0 ⟨[(0,x? 0 0),(1,qj n),(5,qj i)],[(0,h? [vv w,qS w2,qS w3,qr 1 zr,qr 2 qZ,qr 3 xu]),(1,br zr),(2,br qZ),(3,br xu)],4⟩=some (tc w w2 w3 zr qZ xu r):=gP xp.partial_correctness fun _ _⟨_,_,_,_,_,_,_,_⟩=>gW
instance(n b b_2 jq r_ r_2 jG):zl (wy n b b_2 jq r_ r_2 jG) (fun r=>O.call 223 [x? 0 0,qj n] [(0,h? [vv b,qS b_2,qS jq,qr 1 r_,qr 2 r_2,qr 3 jG]),(1,br r_),(2,br r_2),(3,br jG)]=some (qj r,[(0,h? [vv b,qS b_2,qS jq,qr 1 r_,qr 2 r_2,qr 3 jG]),(1,br r_),(2,br r_2),(3,br jG)])):=⟨by unfold wy;exact gW⟩
instance:xL zx fun(i,w,w2,w3,zr,qZ,xu,xc) r=>O.loop 170 4 ⟨[(0,x? 0 0),(5,qr 4 xc),(6,qj i)],[(0,h? [vv w,qS w2,qS w3,qr 1 zr,qr 2 qZ,qr 3 xu]),(1,br zr),(2,br qZ),(3,br xu),(4,br xc)],5⟩=some (j?,⟨[],[(0,h? [vv w,qS w2,qS w3,qr 1 r.1,qr 2 qZ,qr 3 xu]),(1,br r.1),(2,br qZ),(3,br xu),(4,br r.2)],5⟩):=gP zx.partial_correctness fun _ _⟨_,_,_,_,_,_,_,_⟩=>gW
instance(b b_2 jq r_ r_2 jG):zl (gA b b_2 jq r_ r_2 jG) (fun r=>O.call 170 [x? 0 0] [(0,h? [vv b,qS b_2,qS jq,qr 1 r_,qr 2 r_2,qr 3 jG]),(1,br r_),(2,br r_2),(3,br jG)]=some (AV.xW [],[(0,h? [vv b,qS b_2,qS jq,qr 1 r,qr 2 r_2,qr 3 jG]),(1,br r),(2,br r_2),(3,br jG)])):=⟨by unfold gA;exact gW⟩
instance:xL kU fun(d,i,w,w2,w3,zr,qZ,xu,ns) r=>O.loop 225 0 ⟨[(0,x? 0 0),(1,qj d),(2,qr 4 ns),(7,qj i)],[(0,h? [vv w,qS w2,qS w3,qr 1 zr,qr 2 qZ,qr 3 xu]),(1,br zr),(2,br qZ),(3,br xu),(4,br ns)],5⟩=some (j?,⟨[(2,qr 4 r)],[(0,h? [vv w,qS w2,qS w3,qr 1 zr,qr 2 qZ,qr 3 xu]),(1,br zr),(2,br qZ),(3,br xu),(4,br r)],5⟩):=gP kU.partial_correctness fun _ _⟨_,_,_,_,_,_,_,_,_⟩=>gW
instance(d b b_2 jq r_ r_2 jG):zl (tg d b b_2 jq r_ r_2 jG) (fun r=>O.call 225 [x? 0 0,qj d,AV.pv (PV.sl true 0 [])] [(0,h? [vv b,qS b_2,qS jq,qr 1 r_,qr 2 r_2,qr 3 jG]),(1,br r_),(2,br r_2),(3,br jG)]=some (qr 4 r,[(0,h? [vv b,qS b_2,qS jq,qr 1 r_,qr 2 r_2,qr 3 jG]),(1,br r_),(2,br r_2),(3,br jG),(4,br r)])):=⟨by unfold tg;exact gW⟩
instance:xL jn fun(d,i,w,w2,w3,ns,qZ,xu,pY) r=>O.loop 225 0 ⟨[(0,x? 0 0),(1,qj d),(2,qr 1 ns),(7,qj i)],[(0,h? [vv w,qS w2,qS w3,qr 2 qZ,qr 3 xu,qr 4 pY]),(1,br ns),(2,br qZ),(3,br xu),(4,br pY)],5⟩=some (j?,⟨[(2,qr 1 r)],[(0,h? [vv w,qS w2,qS w3,qr 2 qZ,qr 3 xu,qr 4 pY]),(1,br r),(2,br qZ),(3,br xu),(4,br pY)],5⟩):=gP jn.partial_correctness fun _ _⟨_,_,_,_,_,_,_,_,_⟩=>gW
instance(d b b_2 jq r_ r_2 jG pS):zl (nV d b b_2 jq r_ r_2 jG pS) (fun r=>O.call 225 [x? 0 0,qj d,qr 1 r_] [(0,h? [vv b,qS b_2,qS jq,qr 2 r_2,qr 3 jG,qr 4 pS]),(1,br r_),(2,br r_2),(3,br jG),(4,br pS)]=some (qr 1 r,[(0,h? [vv b,qS b_2,qS jq,qr 2 r_2,qr 3 jG,qr 4 pS]),(1,br r),(2,br r_2),(3,br jG),(4,br pS)])):=⟨by unfold nV;exact gW⟩
instance:xL wZ fun(is,ns,zero,i) r=>O.loop 119 0 ⟨[(0,vv is),(3,vv ns),(4,zD zero),(5,qj i)],[],0⟩=some (j?,⟨[(3,vv r.1),(4,zD r.2)],[],0⟩):=gP wZ.partial_correctness fun _ _⟨_,_,_,_⟩=>gW
instance(is):zl (gV is) (fun r=>O.call 119 [vv is] []=some (vv r,[])):=⟨by unfold gV;exact gW⟩
end Go.Proofs.YtnfdnckadgcifaaGreat
