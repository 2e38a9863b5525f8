/-
  What the machine's calls come to: the plain functions.
-/
import Derived.Test.YtadahlbndbmdeaaGreatQag
import Derived.Test.YtadahlbndbmdeaaGreatQah
import Derived.Test.YtadahlbndbmdeaaGreatQan
import Derived.Test.YtadahlbndbmdeaaGreatQao
open Go.Gm renaming qh->Y,qq->W,bm->V,zV->R,zT->Q,zS->P,zR->N,bs->L,vv->K,fF->E
open Go.Proofs.YtadahlbndbmdeaaGreat renaming en->M
open Option renaming some->Z
open _root_ renaming Int->H
open Go.Gm.AV renaming ptr->D,pv->U,xL->I
open Go.Gm.Ex renaming normal->J
open Go.Gm.PV renaming fn->T
open Go.Gm.qD renaming box->F
open Go.Proofs.YtadahlbndbmdeaaGreat.qm renaming enc->W_
open List renaming length_set->X
set_option linter.unusedSimpArgs false
set_option linter.unusedVariables false
set_option maxRecDepth 100000
namespace Go.Proofs.YtadahlbndbmdeaaGreat
open Go Go.Gm
set_option maxHeartbeats 4000000
@[go_sem] def aP (b:(Sl qz)) (r_:(Sl qv)) (a:(Sl qv)):((H×qa×(Sl qm)×(Sl qb)×(Sl qz))⊕((H×qa×(Sl qm)×(Sl qb)×(Sl qv)×(Sl qv))⊕((H×qa×(Sl qm)×(Sl qb)×(Sl qv)×(Sl qv))⊕(H×qa×(Sl qm)×(Sl qb)×(Sl qv)))))->AV×qt
 | .inl y=>(Y y.1,[(0,F [qP y.2.1,K y.2.2.1,K y.2.2.2.1,K y.2.2.2.2,W 1 r_.l,W 2 a.l]),(1,bN r_),(2,bN a)])
 | .inr (.inl y)=>(Y y.1,[(0,F [qP y.2.1,K y.2.2.1,K y.2.2.2.1,K b,W 3 y.2.2.2.2.2.l,W 2 y.2.2.2.2.1.l]),(1,qD.xA),(2,bN y.2.2.2.2.1),(3,bN y.2.2.2.2.2)])
 | .inr (.inr (.inl y))=>(Y y.1,[(0,F [qP y.2.1,K y.2.2.1,K y.2.2.2.1,K b,W 1 y.2.2.2.2.1.l,W 3 y.2.2.2.2.2.l]),(1,bN y.2.2.2.2.1),(2,qD.xA),(3,bN y.2.2.2.2.2)])
 | .inr (.inr (.inr y))=>(Y y.1,[(0,F [qP y.2.1,K y.2.2.1,K y.2.2.2.1,K b,W 3 y.2.2.2.2.l,U (PV.sl true 0 [])]),(1,bN r_),(2,bN a),(3,bN y.2.2.2.2)])
instance(o b c e d r_ a):z7 (mT o b c e d r_ a) (λr=>O.call 19 [D 0 0,K o] [(0,F [qP b,K c,K e,K d,W 1 r_.l,W 2 a.l]),(1,bN r_),(2,bN a)]=Z (aP d r_ a r)):=⟨by unfold mT;exact gW⟩
instance:xT vB λ(os,i,t2,m,e,d,c,a,b) r=>O.loop 7 0 ⟨[(0,K os),(2,D 0 0),(3,D 1 0),(5,Y i)],[(0,bb t2),(1,F [qP m,K e,K d,K c,W 2 a.l,W 3 b.l]),(2,bN a),(3,bN b)],4⟩=Z (J,⟨[(2,D 0 0),(3,D 1 0)],[(0,bb t2),(1,F [qP r.1,K r.2.1,K r.2.2.1,K r.2.2.2.1,W 2 r.2.2.2.2.1.l,W 3 r.2.2.2.2.2.l]),(2,bN r.2.2.2.2.1),(3,bN r.2.2.2.2.2)],4⟩):=gP vB.partial_correctness λ_ _⟨_,_,_,_,_,_,_,_,_⟩=>gW
instance(os):z7 (iq os) (λr=>O.call 7 [K os] []=Z (K r,[])):=⟨by unfold iq;exact gW⟩
theorem kL: ∀p r,qQ p=Z r->r.length=p.2.2.2.2.length/\O.loop 138 2 ⟨[(0,W 0 p.2.2.2.2),(1,Y p.1),(2,Y p.2.1),(3,U (T 59)),(8,Y p.2.2.1),(9,Y p.2.2.2.1)],[(0,V p.2.2.2.2)],1⟩=Z (J,⟨[(0,W 0 r),(1,Y p.1),(2,Y p.2.1),(3,U (T 59)),(8,Y p.2.2.1)],[(0,V r)],1⟩):=by refine qQ.partial_correctness _ ?_;rintro qQ c ⟨a,b,i,j,data⟩ r;dsimp only;apply it<;>intro h1;{(refine bw W_ λx3 h2 f1 f2 f3=>?_;refine bw W_ λx5 h4 f4 f5 f6=>?_;refine L λv7 d=>?_;have f7:=z7.ok _ d;try simp only[M.down,R,N,Q,P]at f7);apply it<;>intro h8;{(refine bw W_ λJv h9 f8 f9 f10=>?_;try simp only[M.down,R,N,Q,P]at f8 f9 f10);(try simp only[X]at f10);(intro h;obtain⟨e,f11⟩:=c _ _ h;clear h;try simp only[M.down,R,N,Q,P]at f11);clear c;exact⟨by first|rfl|(simp only[X,e];done),fL GB.h⟩};rintro⟨⟩;clear c;exact⟨by first|rfl|(simp only[X];done),fL GB.h⟩};rintro⟨⟩;clear c;exact⟨by first|rfl|(simp only[X];done),fL GB.h⟩
instance(p):z7 (qQ p) (λr=>r.length=p.2.2.2.2.length/\O.loop 138 2 ⟨[(0,W 0 p.2.2.2.2),(1,Y p.1),(2,Y p.2.1),(3,U (T 59)),(8,Y p.2.2.1),(9,Y p.2.2.2.1)],[(0,V p.2.2.2.2)],1⟩=Z (J,⟨[(0,W 0 r),(1,Y p.1),(2,Y p.2.1),(3,U (T 59)),(8,Y p.2.2.1)],[(0,V r)],1⟩)):=⟨λr=>kL p r⟩
theorem kK: ∀p r,qH p=Z r->r.length=p.2.2.2.length/\O.loop 138 0 ⟨[(0,W 0 p.2.2.2),(1,Y p.1),(2,Y p.2.1),(3,U (T 59)),(8,Y p.2.2.1)],[(0,V p.2.2.2)],1⟩=Z (J,⟨[],[(0,V r)],1⟩):=by refine qH.partial_correctness _ ?_;rintro qH c ⟨a,b,i,data⟩ r;dsimp only;apply it<;>intro h1;{(refine L λv3 e=>?_;obtain⟨d,f1⟩:=kL _ _ e;try simp only[X]at d);(try simp only[M.down,R,N,Q,P,d]at f1);(try simp only[d]at f1);(intro h;obtain⟨ip,f2⟩:=c _ _ h;clear h;try simp only[M.down,R,N,Q,P,d]at f2);(try simp only[d]at f2);clear c;exact⟨by first|rfl|(simp only[X,ip,d];done),fL GB.h⟩};rintro⟨⟩;clear c;exact⟨by first|rfl|(simp only[X];done),fL GB.h⟩
instance(p):z7 (qH p) (λr=>r.length=p.2.2.2.length/\O.loop 138 0 ⟨[(0,W 0 p.2.2.2),(1,Y p.1),(2,Y p.2.1),(3,U (T 59)),(8,Y p.2.2.1)],[(0,V p.2.2.2)],1⟩=Z (J,⟨[],[(0,V r)],1⟩)):=⟨λr=>kK p r⟩
theorem jt{a b r_ r}(h:zb a b r_=Z r):r.length=r_.length/\O.call 138 [W 0 r_,Y a,Y b,U (T 59)] [(0,V r_)]=Z (I [],[(0,V r)]):=by
 revert h;unfold zb;refine L λv2 d=>?_;obtain⟨c,f1⟩:=kK _ _ d;try simp only[X]at c
 try simp only[M.down,R,N,Q,P,c]at f1
 try simp only[c]at f1
 rintro⟨⟩;exact⟨by first|rfl|(simp only[X,c];done),E GB.h⟩
instance(a:H)(b:H)(r_:(List qm)):z7 (zb a b r_) (λr=>r.length=r_.length/\O.call 138 [W 0 r_,Y a,Y b,U (T 59)] [(0,V r_)]=Z (I [],[(0,V r)])):=⟨λr=>jt (r:=r)⟩
theorem vq: ∀p r,za p=Z r->r.2.length=p.2.2.2.2.length/\O.loop 93 0 ⟨[(0,W 0 p.2.2.2.2),(1,Y p.1),(2,U (T 59)),(6,Y p.2.1),(7,Y p.2.2.1),(8,Y p.2.2.2.1)],[(0,V p.2.2.2.2)],1⟩=Z (J,⟨[(0,W 0 r.2),(1,Y p.1),(2,U (T 59)),(6,Y p.2.1),(7,Y r.1)],[(0,V r.2)],1⟩):=by refine za.partial_correctness _ ?_;rintro za c ⟨n,z8,a,b,data⟩ r;dsimp only;apply it<;>intro h1;{(refine L λv3 e=>?_;obtain⟨d,f1⟩:=jt e;try simp only[X]at d);(try simp only[M.down,R,N,Q,P,d]at f1);(try simp only[d]at f1);(intro h;obtain⟨ip,f2⟩:=c _ _ h;clear h;try simp only[M.down,R,N,Q,P,d]at f2);(try simp only[d]at f2);clear c;exact⟨by first|rfl|(simp only[X,ip,d];done),fL Ty.h⟩};rintro⟨⟩;clear c;exact⟨by first|rfl|(simp only[X];done),fL Ty.h⟩
instance(p):z7 (za p) (λr=>r.2.length=p.2.2.2.2.length/\O.loop 93 0 ⟨[(0,W 0 p.2.2.2.2),(1,Y p.1),(2,U (T 59)),(6,Y p.2.1),(7,Y p.2.2.1),(8,Y p.2.2.2.1)],[(0,V p.2.2.2.2)],1⟩=Z (J,⟨[(0,W 0 r.2),(1,Y p.1),(2,U (T 59)),(6,Y p.2.1),(7,Y r.1)],[(0,V r.2)],1⟩)):=⟨λr=>vq p r⟩
instance:xT zs λ(a,i,j,data) r=>O.loop 139 0 ⟨[(0,W 0 data),(1,Y a),(4,U (T 59)),(10,Y i),(11,Y j)],[(0,V data)],1⟩=Z (J,⟨[(0,W 0 data),(1,Y a),(10,Y r)],[(0,V data)],1⟩):=gP zs.partial_correctness λ_ _⟨_,_,_,_⟩=>gW
instance:xT zu λ(m,i,j,data) r=>O.loop 139 4 ⟨[(0,W 0 data),(2,Y m),(4,U (T 59)),(14,Y i),(15,Y j)],[(0,V data)],1⟩=Z (J,⟨[(0,W 0 data),(2,Y m),(14,Y r)],[(0,V data)],1⟩):=gP zu.partial_correctness λ_ _⟨_,_,_,_⟩=>gW
instance:xT zh λ(a,m,b,c,n,start,r_,d,data) r=>O.loop 139 8 ⟨[(0,W 0 data),(1,Y a),(2,Y m),(3,Y b),(4,U (T 59)),(18,Y c),(19,Y n),(20,Y start),(21,Y r_),(22,Y d)],[(0,V data)],1⟩=Z (J,⟨[(0,W 0 data),(1,Y a),(2,Y m),(3,Y b),(4,U (T 59)),(18,Y c),(19,Y n),(20,Y r)],[(0,V data)],1⟩):=gP zh.partial_correctness λ_ _⟨_,_,_,_,_,_,_,_,_⟩=>gW
theorem jX: ∀p r,qw p=Z r->r.length=p.2.2.2.length/\O.call 139 [W 0 p.2.2.2,Y p.1,Y p.2.1,Y p.2.2.1,U (T 59)] [(0,V p.2.2.2)]=Z (I [],[(0,V r)]):=by
 refine qw.partial_correctness _ ?_;rintro qw c ⟨a,m,b,r_⟩ r;dsimp only;apply it<;>intro h1;{(refine L λv3 h2=>?_;have f1:=z7.ok _ h2;try simp only[M.down,R,N,Q,P]at f1);(refine L λv5 h4=>?_;obtain⟨ip,f2⟩:=wM _ _ h4;try simp only[X]at ip);(try simp only[M.down,R,N,Q,P,ip]at f2);(try simp only[ip]at f1 f2);rintro⟨⟩;clear c;exact⟨by first|rfl|(simp only[X,ip];done),E sq.h⟩};apply it<;>intro h6;{(refine L λv8 h7=>?_;have f3:=z7.ok _ h7;try simp only[M.down,R,N,Q,P]at f3);(refine L λv10 h9=>?_;obtain⟨o,f4⟩:=wN _ _ h9;try simp only[X]at o);(try simp only[M.down,R,N,Q,P,o]at f4);(try simp only[o]at f3 f4);rintro⟨⟩;clear c;exact⟨by first|rfl|(simp only[X,o];done),E sq.h⟩};have f5:(0<=(1:H))=True:=by decide
 apply it<;>intro h11
 ·(refine L λnf h12=>?_;have f6:=z7.ok _ h12;try simp only[M.down,R,N,Q,P]at f6);refine oX (λWl h15=>?_) ?_
  ·(refine L λoF Ay=>?_;obtain⟨e,f7⟩:=kp Ay;try simp only[X]at e);(try simp only[M.down,R,N,Q,P,e]at f7);refine oX (λh18 VH=>?_) ?_;{(refine L λSw VI=>?_;obtain⟨d,f8⟩:=c _ _ VI;try simp only[X,e]at d);(try simp only[M.down,R,N,Q,P,e,d]at f8);refine oX (λVa h23=>?_) ?_;{(refine L λv25 h24=>?_;obtain⟨n,f9⟩:=c _ _ h24;try simp only[X,e,d]at n);(try simp only[M.down,R,N,Q,P,e,d,n]at f9);(try simp only[e,d,n]at f6 f7 f8 f9);rintro⟨⟩;clear c;exact⟨by first|rfl|(simp only[X,e,d,n];done),E sq.h⟩};rintro(⟨Va,h23⟩|⟨Va,h23⟩);all_goals (try simp only[e,d]at f6 f7 f8);rintro⟨⟩;clear c;exact⟨by first|rfl|(simp only[X,e,d];done),E sq.h⟩}
   rintro(⟨h18,VH⟩|⟨h18,VH⟩);all_goals 
   refine oX (λh30 h31=>?_) ?_;{(refine L λv33 h32=>?_;obtain⟨VE,f10⟩:=c _ _ h32;try simp only[X,e]at VE);(try simp only[M.down,R,N,Q,P,e,VE]at f10);(try simp only[e,VE]at f6 f7 f10);rintro⟨⟩;clear c;exact⟨by first|rfl|(simp only[X,e,VE];done),E sq.h⟩}
   rintro(⟨h30,h31⟩|⟨h30,h31⟩);all_goals
    try simp only[e]at f6 f7
    rintro⟨⟩;clear c;exact⟨by first|rfl|(simp only[X,e];done),E sq.h⟩
  rintro(⟨Wl,h15⟩|⟨Wl,h15⟩);all_goals 
  refine oX (λh50 h51=>?_) ?_
  ·(refine L λv53 h52=>?_;obtain⟨z,f11⟩:=c _ _ h52;try simp only[X]at z);(try simp only[M.down,R,N,Q,P,z]at f11);refine oX (λh54 h55=>?_) ?_;{(refine L λv57 h56=>?_;obtain⟨l,f12⟩:=c _ _ h56;try simp only[X,z]at l);(try simp only[M.down,R,N,Q,P,z,l]at f12);(try simp only[z,l]at f6 f11 f12);rintro⟨⟩;clear c;exact⟨by first|rfl|(simp only[X,z,l];done),E sq.h⟩}
   rintro(⟨h54,h55⟩|⟨h54,h55⟩);all_goals
    try simp only[z]at f6 f11
    rintro⟨⟩;clear c;exact⟨by first|rfl|(simp only[X,z];done),E sq.h⟩
  rintro(⟨h50,h51⟩|⟨h50,h51⟩);all_goals
   refine oX (λh62 h63=>?_) ?_
   ·refine L λv65 h64=>?_;obtain⟨k,f13⟩:=c _ _ h64;try simp only[X]at k
    try simp only[M.down,R,N,Q,P,k]at f13
    try simp only[k]at f6 f13
    rintro⟨⟩;clear c;exact⟨by first|rfl|(simp only[X,k];done),E sq.h⟩
   rintro(⟨h62,h63⟩|⟨h62,h63⟩);all_goals
   rintro⟨⟩;clear c;exact⟨by first|rfl|(simp only[X];done),E sq.h⟩
 refine L λHg h66=>?_;have f14:=z7.ok _ h66;try simp only[M.down,R,N,Q,P]at f14
 refine oX (λh68 h69=>?_) ?_
 ·(refine L λv71 h70=>?_;obtain⟨f,f15⟩:=kp h70;try simp only[X]at f);(try simp only[M.down,R,N,Q,P,f]at f15);refine oX (λh72 h73=>?_) ?_;{(refine L λv75 h74=>?_;obtain⟨y,f16⟩:=c _ _ h74;try simp only[X,f]at y);(try simp only[M.down,R,N,Q,P,f,y]at f16);refine oX (λh76 C=>?_) ?_;{(refine L λv79 h78=>?_;obtain⟨j,f17⟩:=c _ _ h78;try simp only[X,f,y]at j);(try simp only[M.down,R,N,Q,P,f,y,j]at f17);(try simp only[f,y,j]at f14 f15 f16 f17);rintro⟨⟩;clear c;exact⟨by first|rfl|(simp only[X,f,y,j];done),E sq.h⟩};rintro(⟨h76,C⟩|⟨h76,C⟩);all_goals (try simp only[f,y]at f14 f15 f16);rintro⟨⟩;clear c;exact⟨by first|rfl|(simp only[X,f,y];done),E sq.h⟩}
  rintro(⟨h72,h73⟩|⟨h72,h73⟩);all_goals 
  refine oX (λB A=>?_) ?_;{(refine L λv87 h86=>?_;obtain⟨i,f18⟩:=c _ _ h86;try simp only[X,f]at i);(try simp only[M.down,R,N,Q,P,f,i]at f18);(try simp only[f,i]at f14 f15 f18);rintro⟨⟩;clear c;exact⟨by first|rfl|(simp only[X,f,i];done),E sq.h⟩}
  rintro(⟨B,A⟩|⟨B,A⟩);all_goals
   try simp only[f]at f14 f15
   rintro⟨⟩;clear c;exact⟨by first|rfl|(simp only[X,f];done),E sq.h⟩
 rintro(⟨h68,h69⟩|⟨h68,h69⟩);all_goals 
 refine oX (λw v=>?_) ?_
 ·(refine L λv107 h106=>?_;obtain⟨x,f19⟩:=c _ _ h106;try simp only[X]at x);(try simp only[M.down,R,N,Q,P,x]at f19);refine oX (λu t=>?_) ?_;{(refine L λv111 h110=>?_;obtain⟨Of,f20⟩:=c _ _ h110;try simp only[X,x]at Of);(try simp only[M.down,R,N,Q,P,x,Of]at f20);(try simp only[x,Of]at f14 f19 f20);rintro⟨⟩;clear c;exact⟨by first|rfl|(simp only[X,x,Of];done),E sq.h⟩}
  rintro(⟨u,t⟩|⟨u,t⟩);all_goals
   try simp only[x]at f14 f19
   rintro⟨⟩;clear c;exact⟨by first|rfl|(simp only[X,x];done),E sq.h⟩
 rintro(⟨w,v⟩|⟨w,v⟩);all_goals
  refine oX (λs q=>?_) ?_
  ·refine L λv119 h118=>?_;obtain⟨g,f21⟩:=c _ _ h118;try simp only[X]at g
   try simp only[M.down,R,N,Q,P,g]at f21
   try simp only[g]at f14 f21
   rintro⟨⟩;clear c;exact⟨by first|rfl|(simp only[X,g];done),E sq.h⟩
  rintro(⟨s,q⟩|⟨s,q⟩);all_goals
  rintro⟨⟩;clear c;exact⟨by first|rfl|(simp only[X];done),E sq.h⟩
instance(p):z7 (qw p) (λr=>r.length=p.2.2.2.length/\O.call 139 [W 0 p.2.2.2,Y p.1,Y p.2.1,Y p.2.2.1,U (T 59)] [(0,V p.2.2.2)]=Z (I [],[(0,V r)])):=⟨λr=>jX p r⟩
theorem vu: ∀p r,zn p=Z r->r.2.length=p.2.2.2.2.length/\O.loop 93 4 ⟨[(0,W 0 p.2.2.2.2),(1,Y p.1),(2,U (T 59)),(6,Y p.2.1),(7,Y p.2.2.1),(8,Y p.2.2.2.1)],[(0,V p.2.2.2.2)],1⟩=Z (J,⟨[(0,W 0 r.2),(1,Y p.1),(2,U (T 59)),(6,Y p.2.1),(7,Y r.1)],[(0,V r.2)],1⟩):=by refine zn.partial_correctness _ ?_;rintro zn c ⟨n,z8,a,b,data⟩ r;dsimp only;apply it<;>intro h1;{(refine L λv3 e=>?_;obtain⟨d,f1⟩:=jX _ _ e;try simp only[X]at d);(try simp only[M.down,R,N,Q,P,d]at f1);(try simp only[d]at f1);(intro h;obtain⟨ip,f2⟩:=c _ _ h;clear h;try simp only[M.down,R,N,Q,P,d]at f2);(try simp only[d]at f2);clear c;exact⟨by first|rfl|(simp only[X,ip,d];done),fL Ty.h⟩};rintro⟨⟩;clear c;exact⟨by first|rfl|(simp only[X];done),fL Ty.h⟩
instance(p):z7 (zn p) (λr=>r.2.length=p.2.2.2.2.length/\O.loop 93 4 ⟨[(0,W 0 p.2.2.2.2),(1,Y p.1),(2,U (T 59)),(6,Y p.2.1),(7,Y p.2.2.1),(8,Y p.2.2.2.1)],[(0,V p.2.2.2.2)],1⟩=Z (J,⟨[(0,W 0 r.2),(1,Y p.1),(2,U (T 59)),(6,Y p.2.1),(7,Y r.1)],[(0,V r.2)],1⟩)):=⟨λr=>vu p r⟩
theorem vt: ∀p r,z6 p=Z r->r.length=p.2.2.length/\O.loop 93 2 ⟨[(0,W 0 p.2.2),(1,Y p.1),(2,U (T 59)),(6,Y p.2.1)],[(0,V p.2.2)],1⟩=Z (J,⟨[],[(0,V r)],1⟩):=by refine z6.partial_correctness _ ?_;rintro z6 b ⟨n,z8,data⟩ r;dsimp only;apply it<;>intro h1;{(refine L λv3 e=>?_;obtain⟨a,f1⟩:=vu _ _ e;try simp only[X]at a);(try simp only[M.down,R,N,Q,P,a]at f1);apply it<;>intro h4;{(refine L λv6 d=>?_;obtain⟨ip,f2⟩:=jX _ _ d;try simp only[X,a]at ip);(try simp only[M.down,R,N,Q,P,a,ip]at f2);(try simp only[a,ip]at f1 f2);(intro h;obtain⟨f,f3⟩:=b _ _ h;clear h;try simp only[M.down,R,N,Q,P,a,ip]at f3);(try simp only[a,ip]at f3);clear b;exact⟨by first|rfl|(simp only[X,f,a,ip];done),fL Ty.h⟩};(try simp only[a]at f1);(intro h;obtain⟨c,f4⟩:=b _ _ h;clear h;try simp only[M.down,R,N,Q,P,a]at f4);(try simp only[a]at f4);clear b;exact⟨by first|rfl|(simp only[X,c,a];done),fL Ty.h⟩};rintro⟨⟩;clear b;exact⟨by first|rfl|(simp only[X];done),fL Ty.h⟩
instance(p):z7 (z6 p) (λr=>r.length=p.2.2.length/\O.loop 93 2 ⟨[(0,W 0 p.2.2),(1,Y p.1),(2,U (T 59)),(6,Y p.2.1)],[(0,V p.2.2)],1⟩=Z (J,⟨[],[(0,V r)],1⟩)):=⟨λr=>vt p r⟩
theorem yj{n r_ r}(h:zZ n r_=Z r):r.length=r_.length/\O.call 93 [W 0 r_,Y n,U (T 59)] [(0,V r_)]=Z (I [],[(0,V r)]):=by
 revert h;unfold zZ;refine L λv2 e=>?_;obtain⟨a,f1⟩:=vq _ _ e;try simp only[X]at a
 try simp only[M.down,R,N,Q,P,a]at f1
 refine L λv4 d=>?_;obtain⟨ip,f2⟩:=jt d;try simp only[X,a]at ip
 try simp only[M.down,R,N,Q,P,a,ip]at f2
 refine L λv6 c=>?_;obtain⟨b,f3⟩:=vt _ _ c;try simp only[X,a,ip]at b
 try simp only[M.down,R,N,Q,P,a,ip,b]at f3
 try simp only[a,ip,b]at f1 f2 f3
 rintro⟨⟩;exact⟨by first|rfl|(simp only[X,a,ip,b];done),E Ty.h⟩
instance(n:H)(r_:(List qm)):z7 (zZ n r_) (λr=>r.length=r_.length/\O.call 93 [W 0 r_,Y n,U (T 59)] [(0,V r_)]=Z (I [],[(0,V r)])):=⟨λr=>yj (r:=r)⟩
theorem tq{r_ r}(h:ze r_=Z r):r.length=r_.length/\O.call 58 [W 0 r_,U (T 59)] [(0,V r_)]=Z (I [],[(0,V r)]):=by
 revert h;unfold ze;refine L λv2 b=>?_;obtain⟨a,f1⟩:=yj b;try simp only[X]at a
 try simp only[M.down,R,N,Q,P,a]at f1
 try simp only[a]at f1
 rintro⟨⟩;exact⟨by first|rfl|(simp only[X,a];done),E fn58.h⟩
instance(r_:(List qm)):z7 (ze r_) (λr=>r.length=r_.length/\O.call 58 [W 0 r_,U (T 59)] [(0,V r_)]=Z (I [],[(0,V r)])):=⟨λr=>tq (r:=r)⟩
instance:xT vF λ(b,c,a,out) r=>O.loop 35 0 ⟨[(4,W 1 out),(14,W 0 a),(15,Y b),(16,Y c)],[(0,V a),(1,br out)],2⟩=Z (J,⟨[(4,W 1 r)],[(0,V a),(1,br r)],2⟩):=gP vF.partial_correctness λ_ _⟨_,_,_,_⟩=>gW
instance(l):z7 (fU l) (λr=>O.call 35 [K l] []=Z (K r,[])):=⟨by unfold fU;exact gW⟩
instance(n l):z7 (QM n l) (λr=>O.call 36 [Y n,K l] []=Z (I [K r.1,Y r.2],[])):=⟨by unfold QM;exact gW⟩
instance(st):z7 (fm st) (λr=>O.call 17 [K st] []=Z (zN r,[])):=⟨by unfold fm;exact gW⟩
end Go.Proofs.YtadahlbndbmdeaaGreat
