/-
  What the machine's calls come to: the plain functions.
-/
import Derived.Test.YtnfdnckadgcifaaGreatQag
import Derived.Test.YtnfdnckadgcifaaGreatQah
import Derived.Test.YtnfdnckadgcifaaGreatQai
import Derived.Test.YtnfdnckadgcifaaGreatQaj
import Derived.Test.YtnfdnckadgcifaaGreatQak
import Derived.Test.YtnfdnckadgcifaaGreatQal
open Go.Gm.AV renaming ptr->x?,undef->Q?,xW->C?,pv->I?
open Go.Gm.Ex renaming normal->j?,ret->x!
open Go.Gm.PV renaming fn->W!
open Go.Gm.qJ renaming box->h?
open List renaming length_set->y?
set_option linter.unusedSimpArgs false
set_option linter.unusedVariables false
set_option maxRecDepth 100000
namespace Go.Proofs.YtnfdnckadgcifaaGreat
open Go Go.Gm
set_option maxHeartbeats 4000000
theorem wb: ∀p r,zb p=some r->r.2.length=p.2.2.2.2.length/\O.loop 99 4 ⟨[(0,qr 0 p.2.2.2.2),(1,qj p.1),(2,I? (W! 60)),(6,qj p.2.1),(7,qj p.2.2.1),(8,qj p.2.2.2.1)],[(0,bm p.2.2.2.2)],1⟩=some (j?,⟨[(0,qr 0 r.2),(1,qj p.1),(2,I? (W! 60)),(6,qj p.2.1),(7,qj r.1)],[(0,bm r.2)],1⟩):=by refine zb.partial_correctness _ ?_;rintro zb ih30 ⟨n,kS,a,b,data⟩ r;dsimp only;apply it<;>intro h1;{(refine bs fun v3 h2=>?_;obtain⟨m9,f1⟩:=jo _ _ h2;try simp only[y?]at m9);(try simp only[en.down,xJ,xE,xG,xF,m9]at f1);(try simp only[m9]at f1);(intro h;obtain⟨QY,f2⟩:=ih30 _ _ h;clear h;try simp only[en.down,xJ,xE,xG,xF,m9]at f2);(try simp only[m9]at f2);clear ih30;exact⟨by first|rfl|(simp only[y?,QY,m9];done),fL BV.h⟩};rintro⟨⟩;clear ih30;exact⟨by first|rfl|(simp only[y?];done),fL BV.h⟩
instance(p):zl (zb p) (fun r=>r.2.length=p.2.2.2.2.length/\O.loop 99 4 ⟨[(0,qr 0 p.2.2.2.2),(1,qj p.1),(2,I? (W! 60)),(6,qj p.2.1),(7,qj p.2.2.1),(8,qj p.2.2.2.1)],[(0,bm p.2.2.2.2)],1⟩=some (j?,⟨[(0,qr 0 r.2),(1,qj p.1),(2,I? (W! 60)),(6,qj p.2.1),(7,qj r.1)],[(0,bm r.2)],1⟩)):=⟨fun r=>wb p r⟩
theorem wa: ∀p r,qT p=some r->r.length=p.2.2.length/\O.loop 99 2 ⟨[(0,qr 0 p.2.2),(1,qj p.1),(2,I? (W! 60)),(6,qj p.2.1)],[(0,bm p.2.2)],1⟩=some (j?,⟨[],[(0,bm r)],1⟩):=by refine qT.partial_correctness _ ?_;rintro qT Lb ⟨n,kS,data⟩ r;dsimp only;apply it<;>intro h1;{(refine bs fun v3 h2=>?_;obtain⟨m9,f1⟩:=wb _ _ h2;try simp only[y?]at m9);(try simp only[en.down,xJ,xE,xG,xF,m9]at f1);apply it<;>intro h4;{(refine bs fun v6 h5=>?_;obtain⟨QY,f2⟩:=jo _ _ h5;try simp only[y?,m9]at QY);(try simp only[en.down,xJ,xE,xG,xF,m9,QY]at f2);(try simp only[m9,QY]at f1 f2);(intro h;obtain⟨DS,f3⟩:=Lb _ _ h;clear h;try simp only[en.down,xJ,xE,xG,xF,m9,QY]at f3);(try simp only[m9,QY]at f3);clear Lb;exact⟨by first|rfl|(simp only[y?,DS,m9,QY];done),fL BV.h⟩};(try simp only[m9]at f1);(intro h;obtain⟨f4L,f4⟩:=Lb _ _ h;clear h;try simp only[en.down,xJ,xE,xG,xF,m9]at f4);(try simp only[m9]at f4);clear Lb;exact⟨by first|rfl|(simp only[y?,f4L,m9];done),fL BV.h⟩};rintro⟨⟩;clear Lb;exact⟨by first|rfl|(simp only[y?];done),fL BV.h⟩
instance(p):zl (qT p) (fun r=>r.length=p.2.2.length/\O.loop 99 2 ⟨[(0,qr 0 p.2.2),(1,qj p.1),(2,I? (W! 60)),(6,qj p.2.1)],[(0,bm p.2.2)],1⟩=some (j?,⟨[],[(0,bm r)],1⟩)):=⟨fun r=>wa p r⟩
theorem wO{n r_ r}(h:zI n r_=some r):r.length=r_.length/\O.call 99 [qr 0 r_,qj n,I? (W! 60)] [(0,bm r_)]=some (C? [],[(0,bm r)]):=by
 revert h;unfold zI;refine bs fun v2 h1=>?_;obtain⟨m9,f1⟩:=w9 _ _ h1;try simp only[y?]at m9
 try simp only[en.down,xJ,xE,xG,xF,m9]at f1
 refine bs fun v4 h3=>?_;obtain⟨QY,f2⟩:=xQ h3;try simp only[y?,m9]at QY
 try simp only[en.down,xJ,xE,xG,xF,m9,QY]at f2
 refine bs fun v6 h5=>?_;obtain⟨DS,f3⟩:=wa _ _ h5;try simp only[y?,m9,QY]at DS
 try simp only[en.down,xJ,xE,xG,xF,m9,QY,DS]at f3
 try simp only[m9,QY,DS]at f1 f2 f3
 rintro⟨⟩;exact⟨by first|rfl|(simp only[y?,m9,QY,DS];done),fF BV.h⟩
instance(n:Int)(r_:(List qm)):zl (zI n r_) (fun r=>r.length=r_.length/\O.call 99 [qr 0 r_,qj n,I? (W! 60)] [(0,bm r_)]=some (C? [],[(0,bm r)])):=⟨fun r=>wO (r:=r)⟩
theorem nM{r_ r}(h:z6 r_=some r):r.length=r_.length/\O.call 59 [qr 0 r_,I? (W! 60)] [(0,bm r_)]=some (C? [],[(0,bm r)]):=by
 revert h;unfold z6;refine bs fun v2 h1=>?_;obtain⟨m9,f1⟩:=wO h1;try simp only[y?]at m9
 try simp only[en.down,xJ,xE,xG,xF,m9]at f1
 try simp only[m9]at f1
 rintro⟨⟩;exact⟨by first|rfl|(simp only[y?,m9];done),fF fn59.h⟩
instance(r_:(List qm)):zl (z6 r_) (fun r=>r.length=r_.length/\O.call 59 [qr 0 r_,I? (W! 60)] [(0,bm r_)]=some (C? [],[(0,bm r)])):=⟨fun r=>nM (r:=r)⟩
instance(l):zl (au l) (fun r=>O.call 34 [vv l] []=some (vv r,[])):=⟨by unfold au;exact gW⟩
instance(n l):zl (iL n l) (fun r=>O.call 14 [qj n,vv l] []=some (C? [vv r.1,qj r.2],[])):=⟨by unfold iL;exact gW⟩
@[go_sem] def iQ (i:qu):((Bool×pz)⊕(pz))->Ex×St
 | .inl y=>(x!,⟨[(4,zD y.1)],[(0,bb i),(1,b_m y.2)],2⟩)
 | .inr y=>(j?,⟨[(4,Q?)],[(0,bb i),(1,b_m y)],2⟩)
instance:xL vH fun(t18,Ij,t20,i,vU) r=>O.loop 16 0 ⟨[(2,x? 0 0),(5,AV.map 1),(18,vv t18),(19,qj Ij),(20,qj t20)],[(0,bb i),(1,b_m vU)],2⟩=some (iQ i r):=gP vH.partial_correctness fun _ _⟨_,_,_,_,_⟩=>gW
instance(i n):zl (iP i n) (fun r=>O.call 16 [vv i,qj n] []=some (zD r,[])):=⟨by unfold iP;exact gW⟩
@[go_sem] def aL (n:Int) (CZ:(Sl qc)) (D1:Int) (t44:Int) (sG:qq) (s:qc):((Bool)⊕(Unit))->Ex×St
 | .inl y=>(x!,⟨[(2,zD y),(3,qj n),(8,x? 1 0),(42,vv CZ),(43,qj D1),(44,qj t44)],[(0,bb sG),(1,bb s)],2⟩)
 | .inr y=>(j?,⟨[(2,Q?),(3,qj n),(8,x? 1 0),(42,vv CZ),(43,qj D1),(44,qj t44)],[(0,bb sG),(1,bb s)],2⟩)
instance:xL yO fun(n,gI,k,end_,CZ,D1,t44,t54,t55,t56,sG,s) r=>O.loop 6 2 ⟨[(3,qj n),(6,vv gI),(7,qj k),(8,x? 1 0),(9,qj end_),(42,vv CZ),(43,qj D1),(44,qj t44),(54,vv t54),(55,qj t55),(56,qj t56)],[(0,bb sG),(1,bb s)],2⟩=some (aL n CZ D1 t44 sG s r):=gP yO.partial_correctness fun _ _⟨_,_,_,_,_,_,_,_,_,_,_,_⟩=>gW
@[go_sem] def aK (sG:qq):((Bool)⊕(Unit))->Ex×St
 | .inl y=>(x!,⟨[(2,zD y)],[(0,bb sG)],1⟩)
 | .inr y=>(j?,⟨[(2,Q?)],[(0,bb sG)],1⟩)
instance:xL gN fun(n,gI,CZ,D1,t44,sG) r=>O.loop 6 0 ⟨[(3,qj n),(6,vv gI),(42,vv CZ),(43,qj D1),(44,qj t44)],[(0,bb sG)],1⟩=some (aK sG r):=gP gN.partial_correctness fun _ _⟨_,_,_,_,_,_⟩=>gW
instance(st):zl (km st) (fun r=>O.call 6 [vv st] []=some (zD r,[])):=⟨by unfold km;exact gW⟩
instance(l text):zl (cJ l text) (fun r=>O.call 71 [vv l,qS text] []=some (vv r,[])):=⟨by unfold cJ;exact gW⟩
instance(s side e):zl (rj s side e) (fun r=>O.call 258 [vv s,qj side,vv e] []=some (vv r,[])):=⟨by unfold rj;exact gW⟩
instance:xL jt fun(mark,sd,r_,a,alive,k,fl,s,e,l7,out,flags,ry,i,i2,zk,f,rq) r=>O.loop 201 2 ⟨[(1,qr 0 fl.l),(6,zD mark),(7,x? 1 0),(11,x? 2 0),(14,x? 3 0),(17,vv sd),(18,x? 4 0),(19,qr 5 flags.l),(20,qj r_),(21,qj a),(22,x? 7 0),(23,zD alive),(24,qr 9 f),(25,qr 8 zk),(26,qj k)],[(0,pA [1] 1 zY fl),(1,bb s),(2,bb e),(3,bb l7),(4,h? [qj out,qr 6 ry]),(5,pA [1] 1 zY flags),(6,br ry),(7,h? [qj i,qj i2,qr 10 rq]),(8,bm zk),(9,br f),(10,br rq)],11⟩=some (j?,⟨[(1,qr 0 r.2.1.l),(6,zD mark),(7,x? 1 0),(11,x? 2 0),(14,x? 3 0),(17,vv sd),(18,x? 4 0),(19,qr 5 flags.l),(20,qj r.1),(21,qj a),(22,x? 7 0),(23,zD alive),(24,qr 9 r.2.2.2.1)],[(0,pA [1] 1 zY r.2.1),(1,bb s),(2,bb e),(3,bb l7),(4,h? [qj out,qr 6 ry]),(5,pA [1] 1 zY flags),(6,br ry),(7,h? [qj i,qj i2,qr 10 r.2.2.2.2]),(8,bm r.2.2.1),(9,br r.2.2.2.1),(10,br r.2.2.2.2)],11⟩):=gP jt.partial_correctness fun _ _⟨_,_,_,_,_,_,_,_,_,_,_,_,_,_,_,_,_,_⟩=>gW
instance:xL vO fun(mark,sd,r_,a,fl,s,e,l7,out,flags,ry) r=>O.loop 201 0 ⟨[(1,qr 0 fl.l),(6,zD mark),(7,x? 1 0),(11,x? 2 0),(14,x? 3 0),(17,vv sd),(18,x? 4 0),(19,qr 5 flags.l),(20,qj r_),(21,qj a)],[(0,pA [1] 1 zY fl),(1,bb s),(2,bb e),(3,bb l7),(4,h? [qj out,qr 6 ry]),(5,pA [1] 1 zY flags),(6,br ry)],7⟩=some (j?,⟨[(14,x? 3 0),(18,x? 4 0),(19,qr 5 r.2.1.l)],[(0,pA [1] 1 zY r.1),(1,bb s),(2,bb e),(3,bb l7),(4,h? [qj out,qr 6 r.2.2]),(5,pA [1] 1 zY r.2.1),(6,br r.2.2)],7⟩):=gP vO.partial_correctness fun _ _⟨_,_,_,_,_,_,_,_,_,_,_⟩=>gW
end Go.Proofs.YtnfdnckadgcifaaGreat
