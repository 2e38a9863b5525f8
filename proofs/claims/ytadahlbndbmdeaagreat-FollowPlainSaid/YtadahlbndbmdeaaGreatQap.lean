/-
  What the machine's calls come to: the plain functions.
-/
import Derived.Test.YtadahlbndbmdeaaGreatQag
import Derived.Test.YtadahlbndbmdeaaGreatQam
open Bool renaming true->Q
open Go.Gm renaming qh->X,vv->V,qq->U,gW->P,w2->M,qP->L,br->K,bb->J
open Option renaming some->Z
open Go.Gm.AV renaming ptr->Y,undef->a?,pv->R,xL->I
open Go.Gm.Ex renaming normal->T
open Go.Gm.PV renaming int->F,sl->N
open Go.Gm.qD renaming box->W,xA->H
open Go.IntKind renaming u64->E
open List renaming length_set->D
set_option linter.unusedSimpArgs false
set_option linter.unusedVariables false
set_option maxRecDepth 100000
namespace Go.Proofs.YtadahlbndbmdeaaGreat
open Go Go.Gm
section pq
theorem pqa{α β:Type}(e:α->β)(l:List α)(n:Nat):(List.map e l).take n=List.map e (l.take n):=List.map_take.symm
theorem pqb(n k:Nat):List.drop k (List.replicate n [PV.int .i64 0,PV.int .i64 0])=List.map (arr2E jf) (List.drop k (List.replicate n ((0:Int),(0:Int)))):=by simp[List.map_drop,arr2E,jf]
theorem pqc{α β:Type}(X:List α)(n:Nat)(d:β):(X.take n).length+((List.replicate n d).drop (X.take n).length).length=n:=by simp;omega
attribute [go_sem] pqa pqb pqc
end pq
set_option maxHeartbeats 4000000
instance:xT jU λ(es,w) r=>O.loop 24 0 ⟨[(0,Y 0 0),(1,V es)],[(0,J w),(1,H)],2⟩=Z (T,⟨[],[(0,J r),(1,H)],2⟩):=gP jU.partial_correctness λ_ _⟨_,_⟩=>P
@[go_sem] def sP (w:qa) (M:(Sl qm)) (a:(List qN)):((zg)⊕(Unit))->Ex×St
 | .inl y=>(T,⟨[],[(0,J y),(1,H)],2⟩)
 | .inr y=>(T,⟨[],[(0,W [L w,V M,U 1 a]),(1,K a)],2⟩)
instance(es w M a):z7 (nj es w M a) (λr=>O.loop 24 0 ⟨[(0,Y 0 0),(1,V es)],[(0,W [L w,V M,U 1 a]),(1,K a)],2⟩=Z (sP w M a r)):=⟨by unfold nj;exact P⟩
@[go_sem] def dR (b:qa) (a:(Sl qm)) (r_:(List qN)):((zg)⊕(Unit))->AV×qt
 | .inl y=>(I [],[(0,J y),(1,H)])
 | .inr y=>(I [],[(0,W [L b,V a,U 1 r_]),(1,K r_)])
instance(es b a r_):z7 (ua es b a r_) (λr=>O.call 24 [Y 0 0,V es] [(0,W [L b,V a,U 1 r_]),(1,K r_)]=Z (dR b a r_ r)):=⟨by unfold ua;exact P⟩
instance(s i j):z7 (uw s i j) (λr=>O.loop 50 0 ⟨[(0,V s),(2,X i),(3,X j)],[],0⟩=Z (T,⟨[],[],0⟩)):=⟨by unfold uw;exact P⟩
instance(s):z7 (kJ s) (λr=>O.call 50 [V s] []=Z (I [],[])):=⟨by unfold kJ;exact P⟩
instance(c a b w):z7 (mB c a b w) (λr=>O.loop 25 0 ⟨[(0,Y 0 0),(14,V c),(15,X a),(16,X b)],[(0,J w)],1⟩=Z (T,⟨[],[(0,J w)],1⟩)):=⟨by unfold mB;exact P⟩
theorem tM: ∀p r,xo p=Z r->r.length=p.2.2.length/\O.loop 50 0 ⟨[(0,U 0 p.2.2),(2,X p.1),(3,X p.2.1)],[(0,bm p.2.2)],1⟩=Z (T,⟨[],[(0,bm r)],1⟩):=by refine xo.partial_correctness _ ?_;rintro xo a ⟨i,j,s⟩ r;dsimp only;apply it<;>intro h1;{(refine bw qf.enc λx3 h2 f1 f2 f3=>?_;refine bw qf.enc λx5 h4 f4 f5 f6=>?_;refine bw qf.enc λx7 h6 f7 f8 f9=>?_;try simp only[en.down,zV,zR,zT,zS]at f7 f8 f9);(try simp only[D]at f9);(intro h;obtain⟨b,f10⟩:=a _ _ h;clear h;try simp only[en.down,zV,zR,zT,zS]at f10);clear a;exact⟨by first|rfl|(simp only[D,b];done),fL fn50.h⟩};rintro⟨⟩;clear a;exact⟨by first|rfl|(simp only[D];done),fL fn50.h⟩
instance(p):z7 (xo p) (λr=>r.length=p.2.2.length/\O.loop 50 0 ⟨[(0,U 0 p.2.2),(2,X p.1),(3,X p.2.1)],[(0,bm p.2.2)],1⟩=Z (T,⟨[],[(0,bm r)],1⟩)):=⟨λr=>tM p r⟩
theorem oK{r_ r}(h:xx r_=Z r):r.length=r_.length/\O.call 50 [U 0 r_] [(0,bm r_)]=Z (I [],[(0,bm r)]):=by
 revert h;unfold xx;refine bs λv2 b=>?_;obtain⟨a,f1⟩:=tM _ _ b;try simp only[D]at a
 try simp only[en.down,zV,zR,zT,zS,a]at f1
 try simp only[a]at f1
 rintro⟨⟩;exact⟨by first|rfl|(simp only[D,a];done),fF fn50.h⟩
instance(r_:(List qf)):z7 (xx r_) (λr=>r.length=r_.length/\O.call 50 [U 0 r_] [(0,bm r_)]=Z (I [],[(0,bm r)])):=⟨λr=>oK (r:=r)⟩
instance(x y):z7 (cm x y) (λr=>O.call 183 [R (F E x),R (F E y)] []=Z (I [R (F E r.1),R (F E r.2)],[])):=⟨by unfold cm;exact P⟩
instance(x y):z7 (a7 x y) (λr=>O.call 125 [R (F E x),R (F E y)] []=Z (I [R (F E r.1),R (F E r.2)],[])):=⟨by unfold a7;exact P⟩
instance(n a):z7 (mq n a) (λr=>O.loop 81 0 ⟨[(7,U 0 a),(8,X n)],[(0,bm a)],1⟩=Z (T,⟨[(7,U 0 a)],[(0,bm a)],1⟩)):=⟨by unfold mq;exact P⟩
instance(x count):z7 (wA x count) (λr=>O.call 81 [V x,X count] []=Z (U 0 r,[(0,bm r)])):=⟨by unfold wA;exact P⟩
instance(depth typed t91 t92 t93 w e a):z7 (pw depth typed t91 t92 t93 w e a) (λr=>O.loop 51 2 ⟨[(0,Y 0 0),(1,X depth),(5,zN typed),(10,Y 1 0),(12,U 3 a),(91,V t91),(92,X t92),(93,X t93)],[(0,J w),(1,J e),(2,H),(3,bm a)],4⟩=Z (T,⟨[(0,Y 0 0),(10,Y 1 0)],[(0,J w),(1,J e),(2,H),(3,bm a)],4⟩)):=⟨by unfold pw;exact P⟩
instance(qp right c a b):z7 (ik qp right c a b) (λr=>O.loop 34 0 ⟨[(0,X qp),(1,zN right),(14,V c),(15,X a),(16,X b)],[],0⟩=Z (T,⟨[(0,X qp)],[],0⟩)):=⟨by unfold ik;exact P⟩
instance:xT kf λ(qp,right,b,c,a) r=>O.loop 34 0 ⟨[(0,X qp),(1,zN right),(14,U 0 a),(15,X b),(16,X c)],[(0,bm a)],1⟩=Z (T,⟨[(0,X r)],[(0,bm a)],1⟩):=gP kf.partial_correctness λ_ _⟨_,_,_,_,_⟩=>P
instance(d w):z7 (bK d w) (λr=>O.loop 26 0 ⟨[(0,Y 0 0),(3,X d)],[(0,J w)],1⟩=Z (T,⟨[(2,a?)],[(0,J w)],1⟩)):=⟨by unfold bK;exact P⟩
instance(b):z7 (pr b) (λr=>O.call 26 [Y 0 0] [(0,J b)]=Z (X r,[(0,J b)])):=⟨by unfold pr;exact P⟩
instance(a b c w):z7 (bL a b c w) (λr=>O.loop 27 0 ⟨[(0,Y 0 0),(2,V a),(11,X b),(12,X c)],[(0,J w)],1⟩=Z (T,⟨[],[(0,J w)],1⟩)):=⟨by unfold bL;exact P⟩
instance(b):z7 (pt b) (λr=>O.call 27 [Y 0 0] [(0,J b)]=Z (I [],[(0,J b)])):=⟨by unfold pt;exact P⟩
instance(t9 c b w t2 a):z7 (nq t9 c b w t2 a) (λr=>O.loop 28 0 ⟨[(0,Y 0 0),(2,Y 1 0),(3,U 2 a),(9,V t9),(10,X c),(11,X b)],[(0,J w),(1,W [L t2,R (N Q 0 []),R (N Q 0 [])]),(2,K a)],3⟩=Z (T,⟨[(0,Y 0 0),(2,Y 1 0),(3,U 2 a)],[(0,J w),(1,W [L t2,R (N Q 0 []),R (N Q 0 [])]),(2,K a)],3⟩)):=⟨by unfold nq;exact P⟩
instance(t8 t9 t7 st b t2 a):z7 (dj t8 t9 t7 st b t2 a) (λr=>O.loop 54 0 ⟨[(1,Y 1 0),(2,Y 2 0),(3,U 3 a),(7,U 0 t7),(8,X t8),(9,X t9)],[(0,K t7),(1,W [L st,V b,U 0 t7]),(2,W [L t2,R (N Q 0 []),R (N Q 0 [])]),(3,K a)],4⟩=Z (T,⟨[(1,Y 1 0),(2,Y 2 0),(3,U 3 a)],[(0,K t7),(1,W [L st,V b,U 0 t7]),(2,W [L t2,R (N Q 0 []),R (N Q 0 [])]),(3,K a)],4⟩)):=⟨by unfold dj;exact P⟩
instance(d b c w M a):z7 (bJ d b c w M a) (λr=>O.loop 25 0 ⟨[(0,Y 0 0),(14,V d),(15,X b),(16,X c)],[(0,W [L w,V M,U 1 a]),(1,K a)],2⟩=Z (T,⟨[],[(0,W [L w,V M,U 1 a]),(1,K a)],2⟩)):=⟨by unfold bJ;exact P⟩
instance(depth typed t92 t93 w M t91 e a):z7 (nu depth typed t92 t93 w M t91 e a) (λr=>O.loop 51 2 ⟨[(0,Y 0 0),(1,X depth),(5,zN typed),(10,Y 2 0),(12,U 4 a),(91,U 1 t91),(92,X t92),(93,X t93)],[(0,W [L w,V M,U 1 t91]),(1,K t91),(2,J e),(3,H),(4,bm a)],5⟩=Z (T,⟨[(0,Y 0 0),(10,Y 2 0)],[(0,W [L w,V M,U 1 t91]),(1,K t91),(2,J e),(3,H),(4,bm a)],5⟩)):=⟨by unfold nu;exact P⟩
instance(d w M a):z7 (ud d w M a) (λr=>O.loop 26 0 ⟨[(0,Y 0 0),(3,X d)],[(0,W [L w,V M,U 1 a]),(1,K a)],2⟩=Z (T,⟨[(2,a?)],[(0,W [L w,V M,U 1 a]),(1,K a)],2⟩)):=⟨by unfold ud;exact P⟩
instance(b a r_):z7 (nk b a r_) (λr=>O.call 26 [Y 0 0] [(0,W [L b,V a,U 1 r_]),(1,K r_)]=Z (X r,[(0,W [L b,V a,U 1 r_]),(1,K r_)])):=⟨by unfold nk;exact P⟩
instance(b c d w M a):z7 (ue b c d w M a) (λr=>O.loop 27 0 ⟨[(0,Y 0 0),(2,V b),(11,X c),(12,X d)],[(0,W [L w,V M,U 1 a]),(1,K a)],2⟩=Z (T,⟨[],[(0,W [L w,V M,U 1 a]),(1,K a)],2⟩)):=⟨by unfold ue;exact P⟩
instance(b a r_):z7 (np b a r_) (λr=>O.call 27 [Y 0 0] [(0,W [L b,V a,U 1 r_]),(1,K r_)]=Z (I [],[(0,W [L b,V a,U 1 r_]),(1,K r_)])):=⟨by unfold np;exact P⟩
instance(c b w M t9 t2 a):z7 (hC c b w M t9 t2 a) (λr=>O.loop 28 0 ⟨[(0,Y 0 0),(2,Y 2 0),(3,U 3 a),(9,U 1 t9),(10,X c),(11,X b)],[(0,W [L w,V M,U 1 t9]),(1,K t9),(2,W [L t2,R (N Q 0 []),R (N Q 0 [])]),(3,K a)],4⟩=Z (T,⟨[(0,Y 0 0),(2,Y 2 0),(3,U 3 a)],[(0,W [L w,V M,U 1 t9]),(1,K t9),(2,W [L t2,R (N Q 0 []),R (N Q 0 [])]),(3,K a)],4⟩)):=⟨by unfold hC;exact P⟩
instance(q one i a out):z7 (nw q one i a out) (λr=>O.loop 3 2 ⟨[(10,Y 1 0),(12,V q),(13,V one),(14,X i)],[(0,J a),(1,J out)],2⟩=Z (T,⟨[(10,Y 1 0),(12,V q)],[(0,J a),(1,J out)],2⟩)):=⟨by unfold nw;exact P⟩
@[go_sem] def Qc:((Bool)⊕(Unit))->Ex×St
 | .inl y=>(Ex.ret,⟨[(4,zN y)],[],0⟩)
 | .inr y=>(T,⟨[(4,a?)],[],0⟩)
instance:xT pA λ(a,b,i) r=>O.loop 14 0 ⟨[(0,V a),(1,V b),(5,X i)],[],0⟩=Z (Qc r):=gP pA.partial_correctness λ_ _⟨_,_,_⟩=>P
instance(a b):z7 (eQ a b) (λr=>O.call 14 [V a,V b] []=Z (zN r,[])):=⟨by unfold eQ;exact P⟩
end Go.Proofs.YtadahlbndbmdeaaGreat
