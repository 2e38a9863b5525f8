/-
  What the machine's calls come to: the plain functions.
-/
import Derived.Test.YtnfdnckadgcifaaGreatQag
import Derived.Test.YtnfdnckadgcifaaGreatQas
import Derived.Test.YtnfdnckadgcifaaGreatQat
import Derived.Test.YtnfdnckadgcifaaGreatQau
open Go.Gm.AV renaming ptr->x?,xW->C?,pv->I?
open Go.Gm.Ex renaming normal->j?
open Go.Gm.PV renaming sl->l?
open Go.Gm.qJ renaming box->h?
set_option linter.unusedSimpArgs false
set_option linter.unusedVariables false
set_option maxRecDepth 100000
namespace Go.Proofs.YtnfdnckadgcifaaGreat
open Go Go.Gm
set_option maxHeartbeats 4000000
@[go_sem] def pP (b:(Sl qx)) (b_2:qa) (jq:qa) (r_:(List qA)) (pS:(List qa)):(((List qb)×(List Int))⊕((Sl qx)×qa×qa×(List qb)×(List Int)×(List qa)))->AV×qp
 | .inl y=>(C? [],[(0,h? [vv b,qS b_2,qS jq,qr 2 y.1,qr 3 y.2,qr 4 pS]),(1,bm r_),(2,br y.1),(3,br y.2),(4,br pS)])
 | .inr y=>(C? [],[(0,h? [vv y.1,qS y.2.1,qS y.2.2.1,qr 2 y.2.2.2.1,qr 3 y.2.2.2.2.1,qr 4 y.2.2.2.2.2]),(1,qJ.xH),(2,br y.2.2.2.1),(3,br y.2.2.2.2.1),(4,br y.2.2.2.2.2)])
theorem uR:(∀ p r,zZ p=some r->match p with|(l,up,b,b_2,jq,r_,r_2,jG)=>O.call 169 [x? 0 0,vv l,qj up] [(0,h? [vv b,qS b_2,qS jq,qr 1 r_,qr 2 r_2,qr 3 jG]),(1,br r_),(2,br r_2),(3,br jG)]=some (C? [],[(0,h? [vv r.1,qS r.2.1,qS r.2.2.1,qr 1 r.2.2.2.1,qr 2 r.2.2.2.2.1,qr 3 r.2.2.2.2.2]),(1,br r.2.2.2.1),(2,br r.2.2.2.2.1),(3,br r.2.2.2.2.2)]))/\(∀ p r,zn p=some r->match p with|(l,up,i,w,w2,w3,zr,qZ,xu)=>O.loop 169 0 ⟨[(0,x? 0 0),(1,vv l),(2,qj up),(6,qj i)],[(0,h? [vv w,qS w2,qS w3,qr 1 zr,qr 2 qZ,qr 3 xu]),(1,br zr),(2,br qZ),(3,br xu)],4⟩=some (j?,⟨[],[(0,h? [vv r.1,qS r.2.1,qS r.2.2.1,qr 1 r.2.2.2.1,qr 2 r.2.2.2.2.1,qr 3 r.2.2.2.2.2]),(1,br r.2.2.2.1),(2,br r.2.2.2.2.1),(3,br r.2.2.2.2.2)],4⟩))/\(∀ p r,wA p=some r->match p with|(x,up,plain,b,b_2,jq,r_,r_2,jG)=>O.call 221 [x? 0 0,vv x,qj up,zD plain] [(0,h? [vv b,qS b_2,qS jq,qr 1 r_,qr 2 r_2,qr 3 jG]),(1,br r_),(2,br r_2),(3,br jG)]=some (C? [],[(0,h? [vv r.1,qS r.2.1,qS r.2.2.1,qr 1 r.2.2.2.1,qr 2 r.2.2.2.2.1,qr 3 r.2.2.2.2.2]),(1,br r.2.2.2.1),(2,br r.2.2.2.2.1),(3,br r.2.2.2.2.2)]))/\(∀ p r,ym p=some r->match p with|(x,x_2,Gq,Il,RS,RT,RU,RV,RW,Zl,Zm,Zn,Zo,Zp,Zq,Zr,J5,up,plain,b,b_2,jq,r_,r_2,jG,pS)=>O.call 221 [x? 0 0,AV.agg [qj x,qS x_2,qj Gq,zD Il,zD RS,qj RT,qS RU,zD RV,vv RW,qj Zl,qj Zm,zD Zn,vv Zo,vv Zp,zD Zq,zD Zr,vv J5,qr 1 r_],qj up,zD plain] [(0,h? [vv b,qS b_2,qS jq,qr 2 r_2,qr 3 jG,qr 4 pS]),(1,bm r_),(2,br r_2),(3,br jG),(4,br pS)]=some (pP b b_2 jq r_ pS r)):=by refine zZ.mutual_partial_correctness _ _ _ _ ?_ ?_ ?_ ?_;intro zn i;have j363:=fun p=>zl.mk (i p);clear i;rintro⟨_,_,_,_,_,_,_,_⟩;exact gW;intro zZ zn wA ym i362 i363 i373 i369;have j362:=fun p=>zl.mk (i362 p);clear i362;have j363:=fun p=>zl.mk (i363 p);clear i363;have j373:=fun p=>zl.mk (i373 p);clear i373;have j369:=fun p=>zl.mk (i369 p);clear i369;rintro⟨_,_,_,_,_,_,_,_,_⟩;exact gW;intro zZ i;have j362:=fun p=>zl.mk (i p);clear i;rintro⟨_,_,_,_,_,_,_,_,_⟩;exact gW;intro zZ i;have j362:=fun p=>zl.mk (i p);clear i;rintro⟨_,_,_,_,_,_,_,_,_,_,_,_,_,_,_,_,_,_,_,_,_,_,_,_,_,_⟩;exact gW
instance(p):zl (zZ p) (fun r=>match p with|(l,up,b,b_2,jq,r_,r_2,jG)=>O.call 169 [x? 0 0,vv l,qj up] [(0,h? [vv b,qS b_2,qS jq,qr 1 r_,qr 2 r_2,qr 3 jG]),(1,br r_),(2,br r_2),(3,br jG)]=some (C? [],[(0,h? [vv r.1,qS r.2.1,qS r.2.2.1,qr 1 r.2.2.2.1,qr 2 r.2.2.2.2.1,qr 3 r.2.2.2.2.2]),(1,br r.2.2.2.1),(2,br r.2.2.2.2.1),(3,br r.2.2.2.2.2)])):=⟨fun r=>uR.1 p r⟩
instance(p):zl (zn p) (fun r=>match p with|(l,up,i,w,w2,w3,zr,qZ,xu)=>O.loop 169 0 ⟨[(0,x? 0 0),(1,vv l),(2,qj up),(6,qj i)],[(0,h? [vv w,qS w2,qS w3,qr 1 zr,qr 2 qZ,qr 3 xu]),(1,br zr),(2,br qZ),(3,br xu)],4⟩=some (j?,⟨[],[(0,h? [vv r.1,qS r.2.1,qS r.2.2.1,qr 1 r.2.2.2.1,qr 2 r.2.2.2.2.1,qr 3 r.2.2.2.2.2]),(1,br r.2.2.2.1),(2,br r.2.2.2.2.1),(3,br r.2.2.2.2.2)],4⟩)):=⟨fun r=>uR.2.1 p r⟩
instance(p):zl (wA p) (fun r=>match p with|(x,up,plain,b,b_2,jq,r_,r_2,jG)=>O.call 221 [x? 0 0,vv x,qj up,zD plain] [(0,h? [vv b,qS b_2,qS jq,qr 1 r_,qr 2 r_2,qr 3 jG]),(1,br r_),(2,br r_2),(3,br jG)]=some (C? [],[(0,h? [vv r.1,qS r.2.1,qS r.2.2.1,qr 1 r.2.2.2.1,qr 2 r.2.2.2.2.1,qr 3 r.2.2.2.2.2]),(1,br r.2.2.2.1),(2,br r.2.2.2.2.1),(3,br r.2.2.2.2.2)])):=⟨fun r=>uR.2.2.1 p r⟩
instance(p):zl (ym p) (fun r=>match p with|(x,x_2,Gq,Il,RS,RT,RU,RV,RW,Zl,Zm,Zn,Zo,Zp,Zq,Zr,J5,up,plain,b,b_2,jq,r_,r_2,jG,pS)=>O.call 221 [x? 0 0,AV.agg [qj x,qS x_2,qj Gq,zD Il,zD RS,qj RT,qS RU,zD RV,vv RW,qj Zl,qj Zm,zD Zn,vv Zo,vv Zp,zD Zq,zD Zr,vv J5,qr 1 r_],qj up,zD plain] [(0,h? [vv b,qS b_2,qS jq,qr 2 r_2,qr 3 jG,qr 4 pS]),(1,bm r_),(2,br r_2),(3,br jG),(4,br pS)]=some (pP b b_2 jq r_ pS r)):=⟨fun r=>uR.2.2.2 p r⟩
instance:xL zK fun(l,up,i,w,w2,w3,zr,qZ,xu) r=>O.loop 169 0 ⟨[(0,x? 0 0),(1,vv l),(2,qj up),(6,qj i)],[(0,h? [vv w,qS w2,qS w3,qr 1 zr,qr 2 qZ,qr 3 xu]),(1,br zr),(2,br qZ),(3,br xu)],4⟩=some (j?,⟨[],[(0,h? [vv r.1,qS r.2.1,qS r.2.2.1,qr 1 r.2.2.2.1,qr 2 r.2.2.2.2.1,qr 3 r.2.2.2.2.2]),(1,br r.2.2.2.1),(2,br r.2.2.2.2.1),(3,br r.2.2.2.2.2)],4⟩):=gP zK.partial_correctness fun _ _⟨_,_,_,_,_,_,_,_,_⟩=>gW
instance(l up b b_2 jq):zl (nW l up b b_2 jq) (fun r=>O.call 169 [x? 0 0,vv l,qj up] [(0,h? [vv b,qS b_2,qS jq,I? (l? true 0 []),I? (l? true 0 []),I? (l? true 0 [])])]=some (C? [],[(0,h? [vv r.1,qS r.2.1,qS r.2.2.1,qr 1 r.2.2.2.1,qr 2 r.2.2.2.2.1,qr 3 r.2.2.2.2.2]),(1,br r.2.2.2.1),(2,br r.2.2.2.2.1),(3,br r.2.2.2.2.2)])):=⟨by unfold nW;exact gW⟩
end Go.Proofs.YtnfdnckadgcifaaGreat
