/-
  What the machine's calls come to: the plain functions.
-/
import Derived.Test.YtnfdnckadgcifaaGreatQag
open Go.Gm.AV renaming ptr->x?,undef->Q?,pv->I?
open Go.Gm.Ex renaming normal->j?,ret->x!
open Go.Gm.PV renaming fn->W!
open Go.Proofs.YtnfdnckadgcifaaGreat.qm renaming enc->J_
open List renaming length_set->y?
set_option linter.unusedSimpArgs false
set_option linter.unusedVariables false
set_option maxRecDepth 100000
namespace Go.Proofs.YtnfdnckadgcifaaGreat
open Go Go.Gm
set_option maxHeartbeats 4000000
@[go_sem] def rM (os:(Sl yD)) (what:Int) (mw:Int) (i:Int) (st:qq):((Bool)⊕(Unit))->Ex×St
 | .inl y=>(x!,⟨[(1,vv os),(2,qj what),(3,qj mw),(4,x? 0 0),(8,zD y),(9,qj i)],[(0,bb st)],1⟩)
 | .inr y=>(j?,⟨[(1,vv os),(2,qj what),(3,qj mw),(4,x? 0 0),(8,Q?),(9,qj i)],[(0,bb st)],1⟩)
instance:xL kL fun(os,what,mw,i,k,st) r=>O.loop 3 2 ⟨[(1,vv os),(2,qj what),(3,qj mw),(4,x? 0 0),(9,qj i),(10,qj k)],[(0,bb st)],1⟩=some (rM os what mw i st r):=gP kL.partial_correctness fun _ _⟨_,_,_,_,_,_⟩=>gW
@[go_sem] def rL (os:(Sl yD)) (what:Int) (mw:Int) (st:qq):((Bool)⊕(Unit))->Ex×St
 | .inl y=>(x!,⟨[(1,vv os),(2,qj what),(3,qj mw),(4,x? 0 0),(8,zD y)],[(0,bb st)],1⟩)
 | .inr y=>(j?,⟨[(1,vv os),(2,qj what),(3,qj mw),(4,x? 0 0),(8,Q?)],[(0,bb st)],1⟩)
instance:xL kK fun(os,what,mw,i,st) r=>O.loop 3 0 ⟨[(1,vv os),(2,qj what),(3,qj mw),(4,x? 0 0),(9,qj i)],[(0,bb st)],1⟩=some (rL os what mw st r):=gP kK.partial_correctness fun _ _⟨_,_,_,_,_⟩=>gW
@[go_sem] def iM (l:(Sl qm)):(((Sl qm)×Int)⊕(Unit))->Ex×St
 | .inl y=>(x!,⟨[(1,vv l),(4,vv y.1),(5,qj y.2)],[],0⟩)
 | .inr y=>(j?,⟨[(1,vv l),(4,Q?),(5,Q?)],[],0⟩)
instance:xL nL fun(n,l,l7,Ii,CY) r=>O.loop 14 0 ⟨[(0,qj n),(1,vv l),(14,vv l7),(15,qj Ii),(16,qj CY)],[],0⟩=some (iM l r):=gP nL.partial_correctness fun _ _⟨_,_,_,_,_⟩=>gW
@[go_sem] def sA:(((Sl qm))⊕((List qm)))->AV×qp
 | .inl y=>(vv y,[])
 | .inr y=>(qr 0 y,[(0,bm y)])
instance(s):zl (mq s) (fun r=>O.call 49 [vv s] []=some (sA r)):=⟨by unfold mq;exact gW⟩
instance(x):zl (pU x) (fun r=>O.call 100 [qj x] []=some (zD r,[])):=⟨by unfold pU;exact gW⟩
instance(x y):zl (uX x y) (fun r=>O.call 62 [qj x,qj y] []=some (qj r,[])):=⟨by unfold uX;exact gW⟩
@[go_sem] def aH (zero:Int) (t6:(List Int)):((Int)⊕(Unit))->Ex×St
 | .inl y=>(x!,⟨[(2,qj y),(3,qj zero)],[(0,bm t6)],1⟩)
 | .inr y=>(j?,⟨[(2,Q?),(3,qj zero)],[(0,bm t6)],1⟩)
instance:xL gK fun(zero,t7,t8,t6) r=>O.loop 61 0 ⟨[(3,qj zero),(6,qr 0 t6),(7,qj t7),(8,qj t8)],[(0,bm t6)],1⟩=some (aH zero t6 r):=gP gK.partial_correctness fun _ _⟨_,_,_,_⟩=>gW
instance(r_):zl (fc r_) (fun r=>O.call 61 [qr 0 r_] [(0,bm r_)]=some (qj r,[(0,bm r_)])):=⟨by unfold fc;exact gW⟩
instance(a b):zl (yM a b) (fun r=>O.call 60 [vv a,vv b] []=some (qj r,[])):=⟨by unfold yM;exact gW⟩
theorem jR: ∀p r,qP p=some r->r.length=p.2.2.2.2.length/\O.loop 140 2 ⟨[(0,qr 0 p.2.2.2.2),(1,qj p.1),(2,qj p.2.1),(3,I? (W! 60)),(8,qj p.2.2.1),(9,qj p.2.2.2.1)],[(0,bm p.2.2.2.2)],1⟩=some (j?,⟨[(0,qr 0 r),(1,qj p.1),(2,qj p.2.1),(3,I? (W! 60)),(8,qj p.2.2.1)],[(0,bm r)],1⟩):=by refine qP.partial_correctness _ ?_;rintro qP ih23 ⟨a,b,i,j,data⟩ r;dsimp only;apply it<;>intro h1;{(refine bw J_ fun x3 h2 f1 f2 f3=>?_;refine bw J_ fun x5 h4 f4 f5 f6=>?_;refine bs fun v7 h6=>?_;have f7:=zl.ok _ h6;try simp only[en.down,xJ,xE,xG,xF]at f7);apply it<;>intro h8;{(refine bw J_ fun Xl h9 f8 f9 f10=>?_;try simp only[en.down,xJ,xE,xG,xF]at f8 f9 f10);(try simp only[y?]at f10);(intro h;obtain⟨VR,f11⟩:=ih23 _ _ h;clear h;try simp only[en.down,xJ,xE,xG,xF]at f11);clear ih23;exact⟨by first|rfl|(simp only[y?,VR];done),fL Yx.h⟩};rintro⟨⟩;clear ih23;exact⟨by first|rfl|(simp only[y?];done),fL Yx.h⟩};rintro⟨⟩;clear ih23;exact⟨by first|rfl|(simp only[y?];done),fL Yx.h⟩
instance(p):zl (qP p) (fun r=>r.length=p.2.2.2.2.length/\O.loop 140 2 ⟨[(0,qr 0 p.2.2.2.2),(1,qj p.1),(2,qj p.2.1),(3,I? (W! 60)),(8,qj p.2.2.1),(9,qj p.2.2.2.1)],[(0,bm p.2.2.2.2)],1⟩=some (j?,⟨[(0,qr 0 r),(1,qj p.1),(2,qj p.2.1),(3,I? (W! 60)),(8,qj p.2.2.1)],[(0,bm r)],1⟩)):=⟨fun r=>jR p r⟩
theorem jQ: ∀p r,qI p=some r->r.length=p.2.2.2.length/\O.loop 140 0 ⟨[(0,qr 0 p.2.2.2),(1,qj p.1),(2,qj p.2.1),(3,I? (W! 60)),(8,qj p.2.2.1)],[(0,bm p.2.2.2)],1⟩=some (j?,⟨[],[(0,bm r)],1⟩):=by refine qI.partial_correctness _ ?_;rintro qI ih22 ⟨a,b,i,data⟩ r;dsimp only;apply it<;>intro h1;{(refine bs fun v3 h2=>?_;obtain⟨m9,f1⟩:=jR _ _ h2;try simp only[y?]at m9);(try simp only[en.down,xJ,xE,xG,xF,m9]at f1);(try simp only[m9]at f1);(intro h;obtain⟨QY,f2⟩:=ih22 _ _ h;clear h;try simp only[en.down,xJ,xE,xG,xF,m9]at f2);(try simp only[m9]at f2);clear ih22;exact⟨by first|rfl|(simp only[y?,QY,m9];done),fL Yx.h⟩};rintro⟨⟩;clear ih22;exact⟨by first|rfl|(simp only[y?];done),fL Yx.h⟩
instance(p):zl (qI p) (fun r=>r.length=p.2.2.2.length/\O.loop 140 0 ⟨[(0,qr 0 p.2.2.2),(1,qj p.1),(2,qj p.2.1),(3,I? (W! 60)),(8,qj p.2.2.1)],[(0,bm p.2.2.2)],1⟩=some (j?,⟨[],[(0,bm r)],1⟩)):=⟨fun r=>jQ p r⟩
theorem xQ{a b r_ r}(h:qY a b r_=some r):r.length=r_.length/\O.call 140 [qr 0 r_,qj a,qj b,I? (W! 60)] [(0,bm r_)]=some (AV.xW [],[(0,bm r)]):=by
 revert h;unfold qY;refine bs fun v2 h1=>?_;obtain⟨m9,f1⟩:=jQ _ _ h1;try simp only[y?]at m9
 try simp only[en.down,xJ,xE,xG,xF,m9]at f1
 try simp only[m9]at f1
 rintro⟨⟩;exact⟨by first|rfl|(simp only[y?,m9];done),fF Yx.h⟩
instance(a:Int)(b:Int)(r_:(List qm)):zl (qY a b r_) (fun r=>r.length=r_.length/\O.call 140 [qr 0 r_,qj a,qj b,I? (W! 60)] [(0,bm r_)]=some (AV.xW [],[(0,bm r)])):=⟨fun r=>xQ (r:=r)⟩
theorem w9: ∀p r,qX p=some r->r.2.length=p.2.2.2.2.length/\O.loop 99 0 ⟨[(0,qr 0 p.2.2.2.2),(1,qj p.1),(2,I? (W! 60)),(6,qj p.2.1),(7,qj p.2.2.1),(8,qj p.2.2.2.1)],[(0,bm p.2.2.2.2)],1⟩=some (j?,⟨[(0,qr 0 r.2),(1,qj p.1),(2,I? (W! 60)),(6,qj p.2.1),(7,qj r.1)],[(0,bm r.2)],1⟩):=by refine qX.partial_correctness _ ?_;rintro qX ih20 ⟨n,kS,a,b,data⟩ r;dsimp only;apply it<;>intro h1;{(refine bs fun v3 h2=>?_;obtain⟨m9,f1⟩:=xQ h2;try simp only[y?]at m9);(try simp only[en.down,xJ,xE,xG,xF,m9]at f1);(try simp only[m9]at f1);(intro h;obtain⟨QY,f2⟩:=ih20 _ _ h;clear h;try simp only[en.down,xJ,xE,xG,xF,m9]at f2);(try simp only[m9]at f2);clear ih20;exact⟨by first|rfl|(simp only[y?,QY,m9];done),fL BV.h⟩};rintro⟨⟩;clear ih20;exact⟨by first|rfl|(simp only[y?];done),fL BV.h⟩
instance(p):zl (qX p) (fun r=>r.2.length=p.2.2.2.2.length/\O.loop 99 0 ⟨[(0,qr 0 p.2.2.2.2),(1,qj p.1),(2,I? (W! 60)),(6,qj p.2.1),(7,qj p.2.2.1),(8,qj p.2.2.2.1)],[(0,bm p.2.2.2.2)],1⟩=some (j?,⟨[(0,qr 0 r.2),(1,qj p.1),(2,I? (W! 60)),(6,qj p.2.1),(7,qj r.1)],[(0,bm r.2)],1⟩)):=⟨fun r=>w9 p r⟩
instance:xL zg fun(a,i,j,data) r=>O.loop 141 0 ⟨[(0,qr 0 data),(1,qj a),(4,I? (W! 60)),(10,qj i),(11,qj j)],[(0,bm data)],1⟩=some (j?,⟨[(0,qr 0 data),(1,qj a),(10,qj r)],[(0,bm data)],1⟩):=gP zg.partial_correctness fun _ _⟨_,_,_,_⟩=>gW
instance:xL zi fun(m,i,j,data) r=>O.loop 141 4 ⟨[(0,qr 0 data),(2,qj m),(4,I? (W! 60)),(14,qj i),(15,qj j)],[(0,bm data)],1⟩=some (j?,⟨[(0,qr 0 data),(2,qj m),(14,qj r)],[(0,bm data)],1⟩):=gP zi.partial_correctness fun _ _⟨_,_,_,_⟩=>gW
instance(a b):zl (oG a b) (fun r=>O.call 63 [vv a,vv b] []=some (zD r,[])):=⟨by unfold oG;exact gW⟩
instance(i k):zl (aw i k) (fun r=>O.call 64 [vv i,qj k] []=some (qj r,[])):=⟨by unfold aw;exact gW⟩
end Go.Proofs.YtnfdnckadgcifaaGreat
