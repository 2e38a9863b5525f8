/-
  What the machine's calls come to: the plain functions.
-/
import Derived.Test.YtnfdnckadgcifaaGreatQag
import Derived.Test.YtnfdnckadgcifaaGreatQaj
import Derived.Test.YtnfdnckadgcifaaGreatQal
import Derived.Test.YtnfdnckadgcifaaGreatQar
open Go.Gm.AV renaming ptr->x?,undef->Q?,xW->C?
open Go.Gm.Ex renaming normal->j?,ret->x!
open Go.Gm.qJ renaming box->h?,xH->K!
set_option linter.unusedSimpArgs false
set_option linter.unusedVariables false
set_option maxRecDepth 100000
namespace Go.Proofs.YtnfdnckadgcifaaGreat
open Go Go.Gm
set_option maxHeartbeats 4000000
instance:xL yT fun(many,i,w,w2,w3,zr,qZ,xu) r=>O.loop 118 0 ⟨[(11,x? 0 0),(12,qj many),(13,qj i)],[(0,h? [vv w,qS w2,qS w3,qr 1 zr,qr 2 qZ,qr 3 xu]),(1,br zr),(2,br qZ),(3,br xu)],4⟩=some (j?,⟨[(11,x? 0 0),(12,qj r)],[(0,h? [vv w,qS w2,qS w3,qr 1 zr,qr 2 qZ,qr 3 xu]),(1,br zr),(2,br qZ),(3,br xu)],4⟩):=gP yT.partial_correctness fun _ _⟨_,_,_,_,_,_,_,_⟩=>gW
@[go_sem] def cR (zr:(List Int)) (qZ:(List qa)):((Int)⊕(Unit))->Ex×St
 | .inl y=>(x!,⟨[(4,qj y)],[(0,h? [qr 1 zr,qr 2 qZ]),(1,br zr),(2,br qZ)],3⟩)
 | .inr y=>(j?,⟨[(4,Q?)],[(0,h? [qr 1 zr,qr 2 qZ]),(1,br zr),(2,br qZ)],3⟩)
instance:xL wX fun(n,i,zr,qZ) r=>O.loop 271 0 ⟨[(0,x? 0 0),(1,qj n),(5,qj i)],[(0,h? [qr 1 zr,qr 2 qZ]),(1,br zr),(2,br qZ)],3⟩=some (cR zr qZ r):=gP wX.partial_correctness fun _ _⟨_,_,_,_⟩=>gW
instance(n r_ r_2):zl (ta n r_ r_2) (fun r=>O.call 271 [x? 0 0,qj n] [(0,h? [qr 1 r_,qr 2 r_2]),(1,br r_),(2,br r_2)]=some (qj r,[(0,h? [qr 1 r_,qr 2 r_2]),(1,br r_),(2,br r_2)])):=⟨by unfold ta;exact gW⟩
instance:xL vC fun(s,zero,i,sG,b0_2,Dr,zr,qZ,xu,Qw,ry,oP,stops) r=>O.loop 118 2 ⟨[(15,qS s),(17,qr 8 stops),(19,zD zero),(20,qj i)],[(0,h? [vv sG,qS b0_2,qS Dr,qr 1 zr,qr 2 qZ,qr 3 xu]),(1,br zr),(2,br qZ),(3,br xu),(4,h? [qr 5 Qw,qr 6 ry]),(5,br Qw),(6,br ry),(7,bm oP),(8,br stops)],9⟩=some (j?,⟨[(15,qS s),(17,qr 8 stops),(19,zD r)],[(0,h? [vv sG,qS b0_2,qS Dr,qr 1 zr,qr 2 qZ,qr 3 xu]),(1,br zr),(2,br qZ),(3,br xu),(4,h? [qr 5 Qw,qr 6 ry]),(5,br Qw),(6,br ry),(7,bm oP),(8,br stops)],9⟩):=gP vC.partial_correctness fun _ _⟨_,_,_,_,_,_,_,_,_,_,_,_,_⟩=>gW
instance:xL yr fun(es,mw,i,qo,k,sG,t6,bq,w,w2,oP,GB,s,rq,yB,in_2,FT) r=>O.loop 75 4 ⟨[(6,x? 1 0),(10,vv es),(11,qr 3 bq),(24,x? 4 0),(25,x? 9 0),(26,qj mw),(27,qj i),(28,qj qo),(29,x? 11 0),(30,qj k)],[(0,bb sG),(1,bb t6),(2,K!),(3,br bq),(4,h? [qS w,vv w2,qr 7 oP,qr 8 GB.l]),(5,K!),(6,K!),(7,bm oP),(8,pA [1,1] 1 (bo 1 zY) GB),(9,h? [qj s,qr 10 rq]),(10,br rq),(11,h? [qj yB,qj in_2,qr 12 FT]),(12,br FT)],13⟩=some (j?,⟨[(6,x? 1 0),(10,vv es),(11,qr 3 bq),(24,x? 4 0),(25,x? 9 0),(26,qj mw),(27,qj i),(29,x? 11 0)],[(0,bb sG),(1,bb t6),(2,K!),(3,br bq),(4,h? [qS w,vv w2,qr 7 oP,qr 8 GB.l]),(5,K!),(6,K!),(7,bm oP),(8,pA [1,1] 1 (bo 1 zY) GB),(9,h? [qj s,qr 10 rq]),(10,br rq),(11,h? [qj yB,qj in_2,qr 12 r]),(12,br r)],13⟩):=gP yr.partial_correctness fun _ _⟨_,_,_,_,_,_,_,_,_,_,_,_,_,_,_,_,_⟩=>gW
instance:xL yq fun(es,mw,i,sG,t6,bq,w,w2,oP,GB,s,rq) r=>O.loop 75 2 ⟨[(6,x? 1 0),(10,vv es),(11,qr 3 bq),(24,x? 4 0),(25,x? 9 0),(26,qj mw),(27,qj i)],[(0,bb sG),(1,bb t6),(2,K!),(3,br bq),(4,h? [qS w,vv w2,qr 7 oP,qr 8 GB.l]),(5,K!),(6,K!),(7,bm oP),(8,pA [1,1] 1 (bo 1 zY) GB),(9,h? [qj s,qr 10 rq]),(10,br rq)],11⟩=some (j?,⟨[(6,x? 1 0),(24,x? 4 0),(25,x? 9 0)],[(0,bb sG),(1,bb t6),(2,K!),(3,br bq),(4,h? [qS w,vv w2,qr 7 oP,qr 8 GB.l]),(5,K!),(6,K!),(7,bm oP),(8,pA [1,1] 1 (bo 1 zY) GB),(9,h? [qj s,qr 10 r]),(10,br r)],11⟩):=gP yq.partial_correctness fun _ _⟨_,_,_,_,_,_,_,_,_,_,_,_⟩=>gW
instance(s b b_2 r_ r_2):zl (bG s b b_2 r_ r_2) (fun r=>O.call 120 [x? 0 0,vv s] [(0,h? [qS b,vv b_2,qr 1 r_,qr 2 r_2.l]),(1,bm r_),(2,pA [1,1] 1 (bo 1 zY) r_2)]=some (C? [],[(0,h? [qS b,vv b_2,qr 1 r.1,qr 2 r.2.l]),(1,bm r.1),(2,pA [1,1] 1 (bo 1 zY) r.2)])):=⟨by unfold bG;exact gW⟩
instance:xL uL fun(n,k,sp,i,st,t4,s,l) r=>O.loop 121 0 ⟨[(1,qj n),(2,x? 1 0),(4,x? 2 0),(6,qj k),(7,x? 3 0),(8,vv sp),(9,qr 4 l),(10,qj i)],[(0,K!),(1,bb st),(2,bb t4),(3,bb s),(4,br l)],5⟩=some (j?,⟨[(1,qj n),(2,x? 1 0),(4,x? 2 0),(6,qj k),(7,x? 3 0),(9,qr 4 r)],[(0,K!),(1,bb st),(2,bb t4),(3,bb s),(4,br r)],5⟩):=gP uL.partial_correctness fun _ _⟨_,_,_,_,_,_,_,_⟩=>gW
instance(st st2 n r_):zl (mR st st2 n r_) (fun r=>O.call 121 [AV.agg [qS st,vv st2,qr 0 r_],qj n] [(0,bm r_)]=some (C? [vv r.1,qj r.2],[(0,K!)])):=⟨by unfold mR;exact gW⟩
@[go_sem] def aY:((Int×Bool)⊕(Unit))->Ex×St
 | .inl y=>(x!,⟨[(4,qj y.1),(5,zD y.2)],[],0⟩)
 | .inr y=>(j?,⟨[(4,Q?),(5,Q?)],[],0⟩)
instance:xL gU fun(cur,ns,i) r=>O.loop 122 0 ⟨[(0,qj cur),(6,vv ns),(7,qj i)],[],0⟩=some (aY r):=gP gU.partial_correctness fun _ _⟨_,_,_⟩=>gW
instance:xL ve fun(n,k,sp,i,st,t4,s,l) r=>O.loop 121 0 ⟨[(1,qj n),(2,x? 0 0),(4,x? 1 0),(6,qj k),(7,x? 2 0),(8,vv sp),(9,qr 3 l),(10,qj i)],[(0,bb st),(1,bb t4),(2,bb s),(3,br l)],4⟩=some (j?,⟨[(1,qj n),(2,x? 0 0),(4,x? 1 0),(6,qj k),(7,x? 2 0),(9,qr 3 r)],[(0,bb st),(1,bb t4),(2,bb s),(3,br r)],4⟩):=gP ve.partial_correctness fun _ _⟨_,_,_,_,_,_,_,_⟩=>gW
instance(st n):zl (ba st n) (fun r=>O.call 121 [vv st,qj n] []=some (C? [vv r.1,qj r.2],[])):=⟨by unfold ba;exact gW⟩
@[go_sem] def aZ:((Int×Bool)⊕(Unit))->Ex×St
 | .inl y=>(x!,⟨[(4,qj y.1),(5,zD y.2)],[],0⟩)
 | .inr y=>(j?,⟨[(4,Q?),(5,Q?)],[],0⟩)
instance:xL gX fun(cur,ns,i) r=>O.loop 124 0 ⟨[(0,qj cur),(6,vv ns),(7,qj i)],[],0⟩=some (aZ r):=gP gX.partial_correctness fun _ _⟨_,_,_⟩=>gW
instance:xL ja fun(k,n,has,a,found,j,st,t4,s,es) r=>O.loop 79 2 ⟨[(1,qj k),(2,x? 0 0),(4,x? 1 0),(6,qj n),(7,x? 2 0),(8,qr 3 es),(9,zD has),(10,qj a),(11,zD found),(12,qj j)],[(0,bb st),(1,bb t4),(2,bb s),(3,br es)],4⟩=some (j?,⟨[(1,qj k),(2,x? 0 0),(4,x? 1 0),(6,qj n),(7,x? 2 0),(8,qr 3 r.2),(9,zD r.1),(10,qj a)],[(0,bb st),(1,bb t4),(2,bb s),(3,br r.2)],4⟩):=gP ja.partial_correctness fun _ _⟨_,_,_,_,_,_,_,_,_,_⟩=>gW
instance:xL yo fun(k,n,has,a,st,t4,s,es) r=>O.loop 79 0 ⟨[(1,qj k),(2,x? 0 0),(4,x? 1 0),(6,qj n),(7,x? 2 0),(8,qr 3 es),(9,zD has),(10,qj a)],[(0,bb st),(1,bb t4),(2,bb s),(3,br es)],4⟩=some (j?,⟨[(2,x? 0 0),(4,x? 1 0),(6,qj n),(7,x? 2 0),(8,qr 3 r.2),(9,zD r.1)],[(0,bb st),(1,bb t4),(2,bb s),(3,br r.2)],4⟩):=gP yo.partial_correctness fun _ _⟨_,_,_,_,_,_,_,_⟩=>gW
instance(x n):zl (eT x n) (fun r=>O.call 9 [qj x,qj n] []=some (qj r,[])):=⟨by unfold eT;exact gW⟩
end Go.Proofs.YtnfdnckadgcifaaGreat
