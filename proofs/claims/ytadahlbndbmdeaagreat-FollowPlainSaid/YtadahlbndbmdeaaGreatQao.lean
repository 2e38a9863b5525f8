/-
  What the machine's calls come to: the plain functions.
-/
import Derived.Test.YtadahlbndbmdeaaGreatQag
import Derived.Test.YtadahlbndbmdeaaGreatQam
open Go.Gm renaming qh->Y,vv->X,bb->V,qq->U,bm->T,gW->P,br->F,zV->A,zT->z,zS->v,zR->t
open Go.Proofs.YtadahlbndbmdeaaGreat renaming en->q
open Option renaming some->Z
open _root_ renaming Int->N,List->J,Unit->D,Bool->B
open Go.Gm.AV renaming ptr->W,undef->E,pv->M,xL->K
open Go.Gm.Ex renaming normal->Q,ret->C
open Go.Gm.PV renaming fn->L
open Go.Gm.qD renaming box->I
open Go.Proofs.YtadahlbndbmdeaaGreat.qm renaming enc->H
open List renaming length_set->R
set_option linter.unusedSimpArgs false
set_option linter.unusedVariables false
set_option maxRecDepth 100000
namespace Go.Proofs.YtadahlbndbmdeaaGreat
open Go Go.Gm
section pq
variable {α:Type} {l s:List α}
theorem pqrowApp_GA {γ : Type} (te : TI) (β k nx : Nat) (e : α → List PV) (e' : γ → List PV) (l : List α) (s : List γ) (hs : (l.isEmpty && s.isEmpty) = true) :
    lO te β l.length l.length (List.map e' s) nx (some (.row l.isEmpty (xB k l) (List.map e l))) = some (.row β l.length 0 l.length, [], nx) := by
  cases l with
  | nil =>
    cases s with
    | nil => simp [lO, wd]
    | cons c s => simp at hs
  | cons a l => simp at hs
theorem pqrowApp_GB {γ : Type} (te : TI) (β k nx : Nat) (e : α → List PV) (e' : γ → List PV) (l : List α) (s : List γ) (hs : (l.isEmpty && s.isEmpty) = false) (hk : k = te.size) (hr : ql (l.length + s.length) te.bytes = true) :
    lO te β l.length l.length (List.map e' s) nx (some (.row l.isEmpty (xB k l) (List.map e l))) =
      some (.row β (List.map e l ++ List.map e' s).length 0 (List.map e l ++ List.map e' s).length, [(β, .row false k (List.map e l ++ List.map e' s))], nx) := by
  subst hk
  cases l with
  | nil =>
    cases s with
    | nil => simp at hs
    | cons c s =>
      have SJ : ql (s.length + 1) te.bytes = true := by simpa using hr
      simp [lO, wd, SJ]
  | cons a l =>
    have SJ : ql (l.length + 1 + s.length) te.bytes = true := by simpa using hr
    simp [lO, xB, SJ]
theorem pqrA (e : α → List PV) (hs : (l.isEmpty && s.isEmpty) = true) (te : TI) (β k nx : Nat) : lO te β l.length l.length (List.map e s) nx (some (.row l.isEmpty (xB k l) (List.map e l))) = some (.row β l.length 0 l.length, [], nx) := pqrowApp_GA te β k nx e e l s hs
theorem pqrB (e : α → List PV) (hs : (l.isEmpty && s.isEmpty) = false) (te : TI) (β k nx : Nat) (hk : k = te.size) (hr : ql (l.length + s.length) te.bytes = true) :
    lO te β l.length l.length (List.map e s) nx (some (.row l.isEmpty (xB k l) (List.map e l))) = some (.row β (List.map e l ++ List.map e s).length 0 (List.map e l ++ List.map e s).length, [(β, .row false k (List.map e l ++ List.map e s))], nx) := pqrowApp_GB te β k nx e e l s hs hk hr
theorem pqbytes_app (x y : List (List PV)) : s7 (x ++ y) = (s7 x).bind fun a => (s7 y).map fun b => a ++ b := by
  induction x with
  | nil => simp [s7]
  | cons c x ih =>
    rw [List.cons_append]
    by_cases hc : ∃ n, c = [.int .u8 n]
    · obtain ⟨n, rfl⟩ := hc
      rw [IM, IM, ih]
      cases s7 x <;> cases s7 y <;> simp
    · have h1 : ∀ z, s7 (c :: z) = none := by
        intro z
        unfold s7
        split
        · rename_i h; cases h
        · rename_i n r h; cases h; exact absurd ⟨n, rfl⟩ hc
        · rfl
      simp [h1]
attribute [go_sem] pqrA pqrB pqbytes_app
end pq
set_option maxHeartbeats 4000000
theorem kb: ∀p r,qV p=Z r->r.length=p.2.2.2.length/\O.loop 91 0 ⟨[(0,U 0 p.2.2.2),(1,Y p.1),(2,Y p.2.1),(3,M (L 31)),(8,Y p.2.2.1)],[(0,T p.2.2.2)],1⟩=Z (Q,⟨[],[(0,T r)],1⟩):=by refine qV.partial_correctness _ ?_;rintro qV c ⟨a,b,i,data⟩ r;dsimp only;apply it<;>intro h1;{(refine bs λv3 e=>?_;obtain⟨d,f1⟩:=kc _ _ e;try simp only[R]at d);(try simp only[q.down,A,t,z,v,d]at f1);(try simp only[d]at f1);(intro h;obtain⟨ip,f2⟩:=c _ _ h;clear h;try simp only[q.down,A,t,z,v,d]at f2);(try simp only[d]at f2);clear c;exact⟨by first|rfl|(simp only[R,ip,d];done),fL Ol.h⟩};rintro⟨⟩;clear c;exact⟨by first|rfl|(simp only[R];done),fL Ol.h⟩
instance(p):z7 (qV p) (λr=>r.length=p.2.2.2.length/\O.loop 91 0 ⟨[(0,U 0 p.2.2.2),(1,Y p.1),(2,Y p.2.1),(3,M (L 31)),(8,Y p.2.2.1)],[(0,T p.2.2.2)],1⟩=Z (Q,⟨[],[(0,T r)],1⟩)):=⟨λr=>kb p r⟩
theorem kz{a b r_ r}(h:zH a b r_=Z r):r.length=r_.length/\O.call 91 [U 0 r_,Y a,Y b,M (L 31)] [(0,T r_)]=Z (K [],[(0,T r)]):=by
 revert h;unfold zH;refine bs λv2 d=>?_;obtain⟨c,f1⟩:=kb _ _ d;try simp only[R]at c
 try simp only[q.down,A,t,z,v,c]at f1
 try simp only[c]at f1
 rintro⟨⟩;exact⟨by first|rfl|(simp only[R,c];done),fF Ol.h⟩
instance(a:N)(b:N)(r_:(J qf)):z7 (zH a b r_) (λr=>r.length=r_.length/\O.call 91 [U 0 r_,Y a,Y b,M (L 31)] [(0,T r_)]=Z (K [],[(0,T r)])):=⟨λr=>kz (r:=r)⟩
theorem vd{n r_ r}(h:xm n r_=Z r):r.length=r_.length/\O.call 55 [U 0 r_,Y n,M (L 31)] [(0,T r_)]=Z (K [],[(0,T r)]):=by
 revert h;unfold xm;refine bs λv2 c=>?_;have f1:=z7.ok _ c;try simp only[q.down,A,t,z,v]at f1
 refine bs λv4 b=>?_;obtain⟨ip,f2⟩:=kz b;try simp only[R]at ip
 try simp only[q.down,A,t,z,v,ip]at f2
 refine bs λv6 a=>?_;have f3:=z7.ok _ a;try simp only[q.down,A,t,z,v,ip]at f3
 try simp only[ip]at f1 f2 f3
 rintro⟨⟩;exact⟨by first|rfl|(simp only[R,ip];done),fF fn55.h⟩
instance(n:N)(r_:(J qf)):z7 (xm n r_) (λr=>r.length=r_.length/\O.call 55 [U 0 r_,Y n,M (L 31)] [(0,T r_)]=Z (K [],[(0,T r)])):=⟨λr=>vd (r:=r)⟩
theorem mr{r_ r}(h:zD r_=Z r):r.length=r_.length/\O.call 30 [U 0 r_,M (L 31)] [(0,T r_)]=Z (K [],[(0,T r)]):=by
 revert h;unfold zD;refine bs λv2 b=>?_;obtain⟨a,f1⟩:=vd b;try simp only[R]at a
 try simp only[q.down,A,t,z,v,a]at f1
 try simp only[a]at f1
 rintro⟨⟩;exact⟨by first|rfl|(simp only[R,a];done),fF fn30.h⟩
instance(r_:(J qf)):z7 (zD r_) (λr=>r.length=r_.length/\O.call 30 [U 0 r_,M (L 31)] [(0,T r_)]=Z (K [],[(0,T r)])):=⟨λr=>mr (r:=r)⟩
@[go_sem] def ZA:(((Sl qf))⊕((J qf)))->AV×qt
 | .inl y=>(X y,[])
 | .inr y=>(U 0 y,[(0,T y)])
instance(es):z7 (vW es) (λr=>O.call 12 [X es] []=Z (ZA r)):=⟨by unfold vW;exact P⟩
instance(s es):z7 (nh s es) (λr=>O.call 10 [qP s,X es] []=Z (K [qP r.1,Y r.2],[])):=⟨by unfold nh;exact P⟩
@[go_sem] def dY:(((Sl qm))⊕((J qm)))->AV×qt
 | .inl y=>(X y,[])
 | .inr y=>(U 0 y,[(0,T y)])
instance(s):z7 (wy s) (λr=>O.call 48 [X s] []=Z (dY r)):=⟨by unfold wy;exact P⟩
theorem wM: ∀p r,zt p=Z r->r.length=p.2.2.length/\O.loop 139 2 ⟨[(0,U 0 p.2.2),(10,Y p.1),(13,Y p.2.1)],[(0,T p.2.2)],1⟩=Z (Q,⟨[],[(0,T r)],1⟩):=by refine zt.partial_correctness _ ?_;rintro zt a ⟨i,k,data⟩ r;dsimp only;apply it<;>intro h1;{(refine bw H λx3 h2 f1 f2 f3=>?_;refine bw H λx5 h4 f4 f5 f6=>?_;refine bw H λx7 h6 f7 f8 f9=>?_;try simp only[q.down,A,t,z,v]at f7 f8 f9);(try simp only[R]at f9);(intro h;obtain⟨b,f10⟩:=a _ _ h;clear h;try simp only[q.down,A,t,z,v]at f10);clear a;exact⟨by first|rfl|(simp only[R,b];done),fL sq.h⟩};rintro⟨⟩;clear a;exact⟨by first|rfl|(simp only[R];done),fL sq.h⟩
instance(p):z7 (zt p) (λr=>r.length=p.2.2.length/\O.loop 139 2 ⟨[(0,U 0 p.2.2),(10,Y p.1),(13,Y p.2.1)],[(0,T p.2.2)],1⟩=Z (Q,⟨[],[(0,T r)],1⟩)):=⟨λr=>wM p r⟩
theorem wN: ∀p r,zv p=Z r->r.length=p.2.2.length/\O.loop 139 6 ⟨[(0,U 0 p.2.2),(14,Y p.1),(17,Y p.2.1)],[(0,T p.2.2)],1⟩=Z (Q,⟨[],[(0,T r)],1⟩):=by refine zv.partial_correctness _ ?_;rintro zv a ⟨i,k,data⟩ r;dsimp only;apply it<;>intro h1;{(refine bw H λx3 h2 f1 f2 f3=>?_;refine bw H λx5 h4 f4 f5 f6=>?_;refine bw H λx7 h6 f7 f8 f9=>?_;try simp only[q.down,A,t,z,v]at f7 f8 f9);(try simp only[R]at f9);(intro h;obtain⟨b,f10⟩:=a _ _ h;clear h;try simp only[q.down,A,t,z,v]at f10);clear a;exact⟨by first|rfl|(simp only[R,b];done),fL sq.h⟩};rintro⟨⟩;clear a;exact⟨by first|rfl|(simp only[R];done),fL sq.h⟩
instance(p):z7 (zv p) (λr=>r.length=p.2.2.length/\O.loop 139 6 ⟨[(0,U 0 p.2.2),(14,Y p.1),(17,Y p.2.1)],[(0,T p.2.2)],1⟩=Z (Q,⟨[],[(0,T r)],1⟩)):=⟨λr=>wN p r⟩
theorem wH: ∀p r,zE p=Z r->r.length=p.2.2.2.2.length/\O.loop 257 0 ⟨[(0,U 0 p.2.2.2.2),(1,Y p.1),(2,Y p.2.1),(3,Y p.2.2.1),(10,Y p.2.2.2.1)],[(0,T p.2.2.2.2)],1⟩=Z (Q,⟨[],[(0,T r)],1⟩):=by refine zE.partial_correctness _ ?_;rintro zE c ⟨a,b,n,i,data⟩ r;dsimp only;apply it<;>intro h1;{(refine bw H λx3 h2 f1 f2 f3=>?_;refine bw H λx5 h4 f4 f5 f6=>?_;refine bw H λx7 h6 f7 f8 f9=>?_;try simp only[q.down,A,t,z,v]at f7 f8 f9);(try simp only[R]at f9);(intro h;obtain⟨d,f10⟩:=c _ _ h;clear h;try simp only[q.down,A,t,z,v]at f10);clear c;exact⟨by first|rfl|(simp only[R,d];done),fL fn257.h⟩};rintro⟨⟩;clear c;exact⟨by first|rfl|(simp only[R];done),fL fn257.h⟩
instance(p):z7 (zE p) (λr=>r.length=p.2.2.2.2.length/\O.loop 257 0 ⟨[(0,U 0 p.2.2.2.2),(1,Y p.1),(2,Y p.2.1),(3,Y p.2.2.1),(10,Y p.2.2.2.1)],[(0,T p.2.2.2.2)],1⟩=Z (Q,⟨[],[(0,T r)],1⟩)):=⟨λr=>wH p r⟩
theorem xM{a b n r_ r}(h:zK a b n r_=Z r):r.length=r_.length/\O.call 257 [U 0 r_,Y a,Y b,Y n,M (L 59)] [(0,T r_)]=Z (K [],[(0,T r)]):=by
 revert h;unfold zK;refine bs λv2 d=>?_;obtain⟨c,f1⟩:=wH _ _ d;try simp only[R]at c
 try simp only[q.down,A,t,z,v,c]at f1
 try simp only[c]at f1
 rintro⟨⟩;exact⟨by first|rfl|(simp only[R,c];done),fF fn257.h⟩
instance(a:N)(b:N)(n:N)(r_:(J qm)):z7 (zK a b n r_) (λr=>r.length=r_.length/\O.call 257 [U 0 r_,Y a,Y b,Y n,M (L 59)] [(0,T r_)]=Z (K [],[(0,T r)])):=⟨λr=>xM (r:=r)⟩
theorem vn: ∀p r,zB p=Z r->r.2.length=p.2.2.2.length/\O.loop 201 0 ⟨[(0,U 0 p.2.2.2),(2,Y p.1),(4,M (L 59)),(10,Y p.2.1),(11,Y p.2.2.1)],[(0,T p.2.2.2)],1⟩=Z (Q,⟨[(0,U 0 r.2),(2,Y p.1),(4,M (L 59)),(10,Y r.1)],[(0,T r.2)],1⟩):=by refine zB.partial_correctness _ ?_;rintro zB c ⟨m,i,j,data⟩ r;dsimp only;apply it<;>intro h1;{apply it<;>intro h2;{(refine bs λv4 f=>?_;obtain⟨a,f1⟩:=xM f;try simp only[R]at a);(try simp only[q.down,A,t,z,v,a]at f1);(try simp only[a]at f1);(intro h;obtain⟨ip,f2⟩:=c _ _ h;clear h;try simp only[q.down,A,t,z,v,a]at f2);(try simp only[a]at f2);clear c;exact⟨by first|rfl|(simp only[R,ip,a];done),fL Au.h⟩};(refine bs λv6 e=>?_;obtain⟨b,f3⟩:=xM e;try simp only[R]at b);(try simp only[q.down,A,t,z,v,b]at f3);(try simp only[b]at f3);(intro h;obtain⟨d,f4⟩:=c _ _ h;clear h;try simp only[q.down,A,t,z,v,b]at f4);(try simp only[b]at f4);clear c;exact⟨by first|rfl|(simp only[R,d,b];done),fL Au.h⟩};rintro⟨⟩;clear c;exact⟨by first|rfl|(simp only[R];done),fL Au.h⟩
instance(p):z7 (zB p) (λr=>r.2.length=p.2.2.2.length/\O.loop 201 0 ⟨[(0,U 0 p.2.2.2),(2,Y p.1),(4,M (L 59)),(10,Y p.2.1),(11,Y p.2.2.1)],[(0,T p.2.2.2)],1⟩=Z (Q,⟨[(0,U 0 r.2),(2,Y p.1),(4,M (L 59)),(10,Y r.1)],[(0,T r.2)],1⟩)):=⟨λr=>vn p r⟩
theorem kp{a m b r_ r}(h:xE a m b r_=Z r):r.length=r_.length/\O.call 201 [U 0 r_,Y a,Y m,Y b,M (L 59)] [(0,T r_)]=Z (K [],[(0,T r)]):=by
 revert h;unfold xE;refine bs λv2 e=>?_;obtain⟨c,f1⟩:=vn _ _ e;try simp only[R]at c
 try simp only[q.down,A,t,z,v,c]at f1
 refine bs λv4 d=>?_;obtain⟨ip,f2⟩:=xM d;try simp only[R,c]at ip
 try simp only[q.down,A,t,z,v,c,ip]at f2
 try simp only[c,ip]at f1 f2
 rintro⟨⟩;exact⟨by first|rfl|(simp only[R,c,ip];done),fF Au.h⟩
instance(a:N)(m:N)(b:N)(r_:(J qm)):z7 (xE a m b r_) (λr=>r.length=r_.length/\O.call 201 [U 0 r_,Y a,Y m,Y b,M (L 59)] [(0,T r_)]=Z (K [],[(0,T r)])):=⟨λr=>kp (r:=r)⟩
@[go_sem] def ch:((B)⊕(D))->Ex×St
 | .inl y=>(C,⟨[(4,zN y)],[],0⟩)
 | .inr y=>(Q,⟨[(4,E)],[],0⟩)
instance:xT kI λ(b,a,c,i6) r=>O.loop 37 0 ⟨[(0,X b),(1,X a),(12,Y c),(13,Y i6)],[],0⟩=Z (ch r):=gP kI.partial_correctness λ_ _⟨_,_,_,_⟩=>P
instance(b a):z7 (nP b a) (λr=>O.call 37 [X b,X a] []=Z (zN r,[])):=⟨by unfold nP;exact P⟩
instance(i k):z7 (oB i k) (λr=>O.call 94 [X i,Y k] []=Z (Y r,[])):=⟨by unfold oB;exact P⟩
@[go_sem] def eA (k:N) (i:qr):((B)⊕(D))->Ex×St
 | .inl y=>(C,⟨[(1,Y k),(2,W 0 0),(4,zN y)],[(0,V i)],1⟩)
 | .inr y=>(Q,⟨[(1,Y k),(2,W 0 0),(4,E)],[(0,V i)],1⟩)
instance:xT kR λ(k,u,i) r=>O.loop 62 0 ⟨[(1,Y k),(2,W 0 0),(5,Y u)],[(0,V i)],1⟩=Z (eA k i r):=gP kR.partial_correctness λ_ _⟨_,_,_⟩=>P
instance(i k):z7 (nQ i k) (λr=>O.call 62 [X i,Y k] []=Z (zN r,[])):=⟨by unfold nQ;exact P⟩
@[go_sem] def QS (i:qr):((B×sm)⊕(sm))->Ex×St
 | .inl y=>(C,⟨[(4,zN y.1)],[(0,V i),(1,b_m y.2)],2⟩)
 | .inr y=>(Q,⟨[(4,E)],[(0,V i),(1,b_m y)],2⟩)
instance:xT yM λ(b,a,t20,i,u7) r=>O.loop 38 0 ⟨[(2,W 0 0),(5,AV.map 1),(18,X b),(19,Y a),(20,Y t20)],[(0,V i),(1,b_m u7)],2⟩=Z (QS i r):=gP yM.partial_correctness λ_ _⟨_,_,_,_,_⟩=>P
instance(i n):z7 (QR i n) (λr=>O.call 38 [X i,Y n] []=Z (zN r,[])):=⟨by unfold QR;exact P⟩
instance(y b):z7 (fX y b) (λr=>O.call 64 [X y,W 0 0] [(0,V b)]=Z (zN r,[(0,V b)])):=⟨by unfold fX;exact P⟩
@[go_sem] def vj (f:qg):((N)⊕(D))->Ex×St
 | .inl y=>(C,⟨[(4,Y y)],[(0,V f)],1⟩)
 | .inr y=>(Q,⟨[(4,E)],[(0,V f)],1⟩)
instance:xT zC λ(s,t7,t8,f) r=>O.loop 95 0 ⟨[(0,X s),(1,AV.XK 64 [] [W 0 0]),(7,Y t7),(8,Y t8)],[(0,V f)],1⟩=Z (vj f r):=gP zC.partial_correctness λ_ _⟨_,_,_,_⟩=>P
instance(s b):z7 (jE s b) (λr=>O.call 95 [X s,AV.XK 64 [] [W 0 0]] [(0,V b)]=Z (Y r,[(0,V b)])):=⟨by unfold jE;exact P⟩
instance(s b):z7 (jm s b) (λr=>O.call 63 [X s,AV.XK 64 [] [W 0 0]] [(0,V b)]=Z (zN r,[(0,V b)])):=⟨by unfold jm;exact P⟩
instance(x wW):z7 (aw x wW) (λr=>O.call 39 [X x,X wW] []=Z (zN r,[])):=⟨by unfold aw;exact P⟩
@[go_sem] def oV (n:N) (c:(Sl qb)) (b:N) (t44:N) (a:qv) (s:qb):((B)⊕(D))->Ex×St
 | .inl y=>(C,⟨[(2,zN y),(3,Y n),(8,W 1 0),(42,X c),(43,Y b),(44,Y t44)],[(0,V a),(1,V s)],2⟩)
 | .inr y=>(Q,⟨[(2,E),(3,Y n),(8,W 1 0),(42,X c),(43,Y b),(44,Y t44)],[(0,V a),(1,V s)],2⟩)
instance:xT gm λ(n,d,k,end_,c,b,t44,t54,t55,t56,a,s) r=>O.loop 17 2 ⟨[(3,Y n),(6,X d),(7,Y k),(8,W 1 0),(9,Y end_),(42,X c),(43,Y b),(44,Y t44),(54,X t54),(55,Y t55),(56,Y t56)],[(0,V a),(1,V s)],2⟩=Z (oV n c b t44 a s r):=gP gm.partial_correctness λ_ _⟨_,_,_,_,_,_,_,_,_,_,_,_⟩=>P
instance:xT yZ λ(n,b,a,c,t17,f,e,out,d) r=>O.loop 40 2 ⟨[(0,Y n),(5,U 0 out),(10,X b),(11,Y a),(12,Y c),(17,X t17),(18,Y f),(19,Y e)],[(0,F out),(1,V d)],2⟩=Z (Q,⟨[(0,Y n),(5,U 0 r),(10,X b),(11,Y a),(12,Y c)],[(0,F r),(1,V d)],2⟩):=gP yZ.partial_correctness λ_ _⟨_,_,_,_,_,_,_,_,_⟩=>P
instance:xT bI λ(n,b,a,c,out) r=>O.loop 40 0 ⟨[(0,Y n),(5,U 0 out),(10,X b),(11,Y a),(12,Y c)],[(0,F out)],1⟩=Z (Q,⟨[(5,U 0 r)],[(0,F r)],1⟩):=gP bI.partial_correctness λ_ _⟨_,_,_,_,_⟩=>P
instance(n is):z7 (aW n is) (λr=>O.call 40 [Y n,X is] []=Z (X r,[])):=⟨by unfold aW;exact P⟩
@[go_sem] def oU (a:qv):((B)⊕(D))->Ex×St
 | .inl y=>(C,⟨[(2,zN y)],[(0,V a)],1⟩)
 | .inr y=>(Q,⟨[(2,E)],[(0,V a)],1⟩)
instance:xT nX λ(n,b,d,c,t44,a) r=>O.loop 17 0 ⟨[(3,Y n),(6,X b),(42,X d),(43,Y c),(44,Y t44)],[(0,V a)],1⟩=Z (oU a r):=gP nX.partial_correctness λ_ _⟨_,_,_,_,_,_⟩=>P
instance(s):z7 (nO s) (λr=>O.call 256 [X s] []=Z (X r,[])):=⟨by unfold nO;exact P⟩
theorem QL:(∀ p r,nM p=Z r->O.call 198 [X p] []=Z (X r,[]))/\(∀ p r,wL p=Z r->match p with|(d,e,i6,x,t2,qB)=>O.loop 198 0 ⟨[(1,W 0 0),(2,W 1 0),(3,U 2 qB),(11,X d),(12,Y e),(13,Y i6)],[(0,V x),(1,V t2),(2,F qB)],3⟩=Z (Q,⟨[(1,W 0 0),(2,W 1 0),(3,U 2 r)],[(0,V x),(1,V t2),(2,F r)],3⟩)):=by refine nM.mutual_partial_correctness _ _ ?_ ?_;intro wL i;have c:=λp=>z7.mk (i p);clear i;rintro _;exact P;intro nM wL b a;have j484:=λp=>z7.mk (b p);clear b;have c:=λp=>z7.mk (a p);clear a;rintro⟨_,_,_,_,_,_⟩;exact P
instance(p):z7 (nM p) (λr=>O.call 198 [X p] []=Z (X r,[])):=⟨λr=>QL.1 p r⟩
instance(p):z7 (wL p) (λr=>match p with|(a,b,i6,x,t2,qB)=>O.loop 198 0 ⟨[(1,W 0 0),(2,W 1 0),(3,U 2 qB),(11,X a),(12,Y b),(13,Y i6)],[(0,V x),(1,V t2),(2,F qB)],3⟩=Z (Q,⟨[(1,W 0 0),(2,W 1 0),(3,U 2 r)],[(0,V x),(1,V t2),(2,F r)],3⟩)):=⟨λr=>QL.2 p r⟩
instance(s):z7 (nN s) (λr=>O.call 199 [X s] []=Z (X r,[])):=⟨by unfold nN;exact P⟩
instance(f):z7 (aY f) (λr=>O.call 135 [X f] []=Z (X r,[])):=⟨by unfold aY;exact P⟩
instance(s):z7 (yX s) (λr=>O.call 136 [X s] []=Z (X r,[])):=⟨by unfold yX;exact P⟩
instance:xT uC λ(c,b,d,t17,f,e,s,t2,insts,i,a) r=>O.loop 90 2 ⟨[(1,W 0 0),(2,W 1 0),(3,U 2 insts),(5,W 3 0),(6,U 4 a),(10,X c),(11,Y b),(12,Y d),(17,X t17),(18,Y f),(19,Y e)],[(0,V s),(1,V t2),(2,F insts),(3,V i),(4,F a)],5⟩=Z (Q,⟨[(1,W 0 0),(2,W 1 0),(3,U 2 insts),(5,W 3 0),(6,U 4 r),(10,X c),(11,Y b),(12,Y d)],[(0,V s),(1,V t2),(2,F insts),(3,V i),(4,F r)],5⟩):=gP uC.partial_correctness λ_ _⟨_,_,_,_,_,_,_,_,_,_,_⟩=>P
instance:xT uB λ(b,a,c,s,t2,insts) r=>O.loop 90 0 ⟨[(1,W 0 0),(2,W 1 0),(3,U 2 insts),(10,X b),(11,Y a),(12,Y c)],[(0,V s),(1,V t2),(2,F insts)],3⟩=Z (Q,⟨[(1,W 0 0),(2,W 1 0),(3,U 2 r)],[(0,V s),(1,V t2),(2,F r)],3⟩):=gP uB.partial_correctness λ_ _⟨_,_,_,_,_,_⟩=>P
instance(s):z7 (dh s) (λr=>O.call 90 [X s] []=Z (X r,[])):=⟨by unfold dh;exact P⟩
instance:xT uG λ(e,i6,d,t23,t24,c,t2,out,f,b,a,marks) r=>O.loop 80 2 ⟨[(2,W 1 0),(3,W 2 0),(6,U 5 marks),(12,X e),(13,Y i6),(14,Y d),(23,Y t23),(24,Y t24)],[(0,V c),(1,V t2),(2,I [Y out,X f,U 3 b]),(3,F b),(4,V a),(5,T marks)],6⟩=Z (Q,⟨[(2,W 1 0),(3,W 2 0),(6,U 5 r),(12,X e),(13,Y i6),(14,Y d)],[(0,V c),(1,V t2),(2,I [Y out,X f,U 3 b]),(3,F b),(4,V a),(5,T r)],6⟩):=gP uG.partial_correctness λ_ _⟨_,_,_,_,_,_,_,_,_,_,_,_⟩=>P
instance:xT uF λ(e,i6,d,b,t2,out,c,a) r=>O.loop 80 0 ⟨[(2,W 1 0),(3,W 2 0),(12,X e),(13,Y i6),(14,Y d)],[(0,V b),(1,V t2),(2,I [Y out,X c,U 3 a]),(3,F a)],4⟩=Z (Q,⟨[(2,W 1 0),(3,W 2 0)],[(0,V b),(1,V t2),(2,I [Y out,X c,U 3 r]),(3,F r)],4⟩):=gP uF.partial_correctness λ_ _⟨_,_,_,_,_,_,_,_⟩=>P
instance(s):z7 (dm s) (λr=>O.call 80 [X s] []=Z (X r,[])):=⟨by unfold dm;exact P⟩
instance(s b a r_):z7 (mK s b a r_) (λr=>O.call 49 [W 0 0,X s] [(0,I [qP b,X a,U 1 r_]),(1,F r_)]=Z (K [],[(0,I [qP b,X a,U 1 r]),(1,F r)])):=⟨by unfold mK;exact P⟩
instance:xT uA λ(e,c,d,b,w,w2,a) r=>O.loop 23 0 ⟨[(3,W 2 0),(14,X e),(15,Y c),(16,Y d)],[(0,V b),(1,qD.xA),(2,I [qP w,X w2,U 3 a]),(3,F a)],4⟩=Z (Q,⟨[(3,W 2 0)],[(0,V b),(1,qD.xA),(2,I [qP w,X w2,U 3 r]),(3,F r)],4⟩):=gP uA.partial_correctness λ_ _⟨_,_,_,_,_,_,_⟩=>P
instance(st):z7 (dg st) (λr=>O.call 23 [X st] []=Z (W 0 0,[(0,I [qP r.1,X r.2.1,U 1 r.2.2]),(1,F r.2.2)])):=⟨by unfold dg;exact P⟩
end Go.Proofs.YtadahlbndbmdeaaGreat
