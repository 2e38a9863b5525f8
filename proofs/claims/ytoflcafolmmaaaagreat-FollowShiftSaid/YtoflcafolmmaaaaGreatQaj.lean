/-
  What the machine's calls come to: the plain functions.
-/
import Derived.Test.YtoflcafolmmaaaaGreatQag
import Derived.Test.YtoflcafolmmaaaaGreatQah
import Derived.Test.YtoflcafolmmaaaaGreatQai
open Go.Gm.AV renaming ptr->x?,undef->f?,xR->V?,pv->C?
open Go.Gm.Ex renaming normal->j?,ret->G?
open Go.Gm.PV renaming fn->I!
open Go.Gm.qD renaming box->y?,xt->h!,jc->Y_
open Go.Proofs.YtoflcafolmmaaaaGreat.ql renaming enc->G'
open List renaming length_set->Q?
set_option linter.unusedSimpArgs false
set_option linter.unusedVariables false
set_option maxRecDepth 100000
namespace Go.Proofs.YtoflcafolmmaaaaGreat
open Go Go.Gm
set_option maxHeartbeats 4000000
instance(qI to qo b b_2 xw r_ r_2 xu yd mf r_6):zf (bk qI to qo b b_2 xw r_ r_2 xu yd mf r_6) (fun r=>O.call 194 [x? 0 0,x? 1 0,C? (PV.sl true 0 []),qq 2 r_,qi qI,qi to,qi qo] [(0,y? [vv b,qM b_2,qM xw,qq 3 r_2,qq 4 xu,qq 5 yd]),(1,y? [qq 6 mf,qq 7 r_6]),(2,bm r_),(3,br r_2),(4,br xu),(5,br yd),(6,br mf),(7,br r_6)]=some (V? [qq 8 r.2.2.2.2.2.2.2.2.2.2,qi r.1],[(0,y? [vv r.2.1,qM r.2.2.1,qM r.2.2.2.1,qq 3 r.2.2.2.2.2.1,qq 4 r.2.2.2.2.2.2.1,qq 5 r.2.2.2.2.2.2.2.1]),(1,y? [qq 6 r.2.2.2.2.2.2.2.2.1,qq 7 r.2.2.2.2.2.2.2.2.2.1]),(2,bm r.2.2.2.2.1),(3,br r.2.2.2.2.2.1),(4,br r.2.2.2.2.2.2.1),(5,br r.2.2.2.2.2.2.2.1),(6,br r.2.2.2.2.2.2.2.2.1),(7,br r.2.2.2.2.2.2.2.2.2.1),(8,br r.2.2.2.2.2.2.2.2.2.2)])):=⟨by unfold bk;exact gW⟩
instance:xv ve fun(s,zero,i,cm,b0_2,Dx,z8,qT,zP,ia,uK,oP,stops) r=>O.loop 133 2 ⟨[(15,qM s),(17,qq 8 stops),(19,zu zero),(20,qi i)],[(0,y? [vv cm,qM b0_2,qM Dx,qq 1 z8,qq 2 qT,qq 3 zP]),(1,br z8),(2,br qT),(3,br zP),(4,y? [qq 5 ia,qq 6 uK]),(5,br ia),(6,br uK),(7,bm oP),(8,br stops)],9⟩=some (j?,⟨[(15,qM s),(17,qq 8 stops),(19,zu r)],[(0,y? [vv cm,qM b0_2,qM Dx,qq 1 z8,qq 2 qT,qq 3 zP]),(1,br z8),(2,br qT),(3,br zP),(4,y? [qq 5 ia,qq 6 uK]),(5,br ia),(6,br uK),(7,bm oP),(8,br stops)],9⟩):=gP ve.partial_correctness fun _ _⟨_,_,_,_,_,_,_,_,_,_,_,_,_⟩=>gW
instance(l env lead unit):zf (fK l env lead unit) (fun r=>O.call 133 [vv l,vv env,qM lead,qM unit] []=some (V? [qM r.1,vv r.2.1,qi r.2.2],[])):=⟨by unfold fK;exact gW⟩
@[go_sem] def dn (st:qw) (t6:qw):((Int×qw×(List ql)×(List (Sl qr)))⊕((List ql)×(List (Sl qr))))->Ex×St
 | .inl y=>(G?,⟨[(3,x? 0 0),(6,x? 1 0),(7,qi y.1),(10,qq 2 y.2.2.1),(11,qq 3 y.2.2.2)],[(0,bb st),(1,bb y.2.1),(2,br y.2.2.1),(3,br y.2.2.2)],4⟩)
 | .inr y=>(j?,⟨[(3,x? 0 0),(6,x? 1 0),(7,f?),(10,qq 2 y.1),(11,qq 3 y.2)],[(0,bb st),(1,bb t6),(2,br y.1),(3,br y.2)],4⟩)
instance:xv yk fun(l,env,unit,i,st,t6,es,gV) r=>O.loop 74 0 ⟨[(1,vv l),(2,vv env),(3,x? 0 0),(6,x? 1 0),(8,qM unit),(10,qq 2 es),(11,qq 3 gV),(12,qi i)],[(0,bb st),(1,bb t6),(2,br es),(3,br gV)],4⟩=some (dn st t6 r):=gP yk.partial_correctness fun _ _⟨_,_,_,_,_,_,_,_⟩=>gW
instance:xv ym fun(es,eL,i,qo,k,cm,t6,gV,w,w2,oP,Gn,s,ri,ua,in_2,FO) r=>O.loop 74 4 ⟨[(6,x? 1 0),(10,vv es),(11,qq 3 gV),(24,x? 4 0),(25,x? 9 0),(26,qi eL),(27,qi i),(28,qi qo),(29,x? 11 0),(30,qi k)],[(0,bb cm),(1,bb t6),(2,h!),(3,br gV),(4,y? [qM w,vv w2,qq 7 oP,qq 8 Gn.l]),(5,h!),(6,h!),(7,bm oP),(8,m9 [1,1] 1 (my 1 zK) Gn),(9,y? [qi s,qq 10 ri]),(10,br ri),(11,y? [qi ua,qi in_2,qq 12 FO]),(12,br FO)],13⟩=some (j?,⟨[(6,x? 1 0),(10,vv es),(11,qq 3 gV),(24,x? 4 0),(25,x? 9 0),(26,qi eL),(27,qi i),(29,x? 11 0)],[(0,bb cm),(1,bb t6),(2,h!),(3,br gV),(4,y? [qM w,vv w2,qq 7 oP,qq 8 Gn.l]),(5,h!),(6,h!),(7,bm oP),(8,m9 [1,1] 1 (my 1 zK) Gn),(9,y? [qi s,qq 10 ri]),(10,br ri),(11,y? [qi ua,qi in_2,qq 12 r]),(12,br r)],13⟩):=gP ym.partial_correctness fun _ _⟨_,_,_,_,_,_,_,_,_,_,_,_,_,_,_,_,_⟩=>gW
instance:xv yl fun(es,eL,i,cm,t6,gV,w,w2,oP,Gn,s,ri) r=>O.loop 74 2 ⟨[(6,x? 1 0),(10,vv es),(11,qq 3 gV),(24,x? 4 0),(25,x? 9 0),(26,qi eL),(27,qi i)],[(0,bb cm),(1,bb t6),(2,h!),(3,br gV),(4,y? [qM w,vv w2,qq 7 oP,qq 8 Gn.l]),(5,h!),(6,h!),(7,bm oP),(8,m9 [1,1] 1 (my 1 zK) Gn),(9,y? [qi s,qq 10 ri]),(10,br ri)],11⟩=some (j?,⟨[(6,x? 1 0),(24,x? 4 0),(25,x? 9 0)],[(0,bb cm),(1,bb t6),(2,h!),(3,br gV),(4,y? [qM w,vv w2,qq 7 oP,qq 8 Gn.l]),(5,h!),(6,h!),(7,bm oP),(8,m9 [1,1] 1 (my 1 zK) Gn),(9,y? [qi s,qq 10 r]),(10,br r)],11⟩):=gP yl.partial_correctness fun _ _⟨_,_,_,_,_,_,_,_,_,_,_,_⟩=>gW
instance:xv xk fun(is,ns,zero,i,k) r=>O.loop 134 2 ⟨[(0,vv is),(3,vv ns),(4,zu zero),(5,qi i),(6,qi k)],[],0⟩=some (j?,⟨[(0,vv is),(3,vv r.1),(4,zu r.2),(5,qi i)],[],0⟩):=gP xk.partial_correctness fun _ _⟨_,_,_,_,_⟩=>gW
instance:xv wN fun(is,ns,zero,i) r=>O.loop 134 0 ⟨[(0,vv is),(3,vv ns),(4,zu zero),(5,qi i)],[],0⟩=some (j?,⟨[(3,vv r.1),(4,zu r.2)],[],0⟩):=gP wN.partial_correctness fun _ _⟨_,_,_,_⟩=>gW
instance(is):zf (gI is) (fun r=>O.call 134 [vv is] []=some (vv r,[])):=⟨by unfold gI;exact gW⟩
instance(s b b_2 r_ r_2):zf (bp s b b_2 r_ r_2) (fun r=>O.call 135 [x? 0 0,vv s] [(0,y? [qM b,vv b_2,qq 1 r_,qq 2 r_2.l]),(1,bm r_),(2,m9 [1,1] 1 (my 1 zK) r_2)]=some (V? [],[(0,y? [qM b,vv b_2,qq 1 r.1,qq 2 r.2.l]),(1,bm r.1),(2,m9 [1,1] 1 (my 1 zK) r.2)])):=⟨by unfold bp;exact gW⟩
instance:xv uD fun(n,k,sp,i,st,t4,s,l) r=>O.loop 136 0 ⟨[(1,qi n),(2,x? 1 0),(4,x? 2 0),(6,qi k),(7,x? 3 0),(8,vv sp),(9,qq 4 l),(10,qi i)],[(0,h!),(1,bb st),(2,bb t4),(3,bb s),(4,br l)],5⟩=some (j?,⟨[(1,qi n),(2,x? 1 0),(4,x? 2 0),(6,qi k),(7,x? 3 0),(9,qq 4 r)],[(0,h!),(1,bb st),(2,bb t4),(3,bb s),(4,br r)],5⟩):=gP uD.partial_correctness fun _ _⟨_,_,_,_,_,_,_,_⟩=>gW
instance(st st2 n r_):zf (mS st st2 n r_) (fun r=>O.call 136 [AV.agg [qM st,vv st2,qq 0 r_],qi n] [(0,bm r_)]=some (V? [vv r.1,qi r.2],[(0,h!)])):=⟨by unfold mS;exact gW⟩
instance(st l env):zf (rU st l env) (fun r=>O.call 74 [vv st,vv l,vv env] []=some (V? [vv r.1,qi r.2],[])):=⟨by unfold rU;exact gW⟩
instance(a b):zf (tY a b) (fun r=>O.call 196 [qi a,qi b] []=some (zu r,[])):=⟨by unfold tY;exact gW⟩
@[go_sem] def aW:((Int×Bool)⊕(Unit))->Ex×St
 | .inl y=>(G?,⟨[(4,qi y.1),(5,zu y.2)],[],0⟩)
 | .inr y=>(j?,⟨[(4,f?),(5,f?)],[],0⟩)
instance:xv gH fun(cur,ns,i) r=>O.loop 137 0 ⟨[(0,qi cur),(6,vv ns),(7,qi i)],[],0⟩=some (aW r):=gP gH.partial_correctness fun _ _⟨_,_,_⟩=>gW
instance(cur is):zf (fN cur is) (fun r=>O.call 137 [qi cur,vv is] []=some (V? [qi r.1,zu r.2],[])):=⟨by unfold fN;exact gW⟩
instance(st):zf (sO st) (fun r=>O.call 138 [vv st] []=some (vv r,[])):=⟨by unfold sO;exact gW⟩
instance:xv wP fun(n,k,sp,i,st,t4,s,l) r=>O.loop 136 0 ⟨[(1,qi n),(2,x? 0 0),(4,x? 1 0),(6,qi k),(7,x? 2 0),(8,vv sp),(9,qq 3 l),(10,qi i)],[(0,bb st),(1,bb t4),(2,bb s),(3,br l)],4⟩=some (j?,⟨[(1,qi n),(2,x? 0 0),(4,x? 1 0),(6,qi k),(7,x? 2 0),(9,qq 3 r)],[(0,bb st),(1,bb t4),(2,bb s),(3,br r)],4⟩):=gP wP.partial_correctness fun _ _⟨_,_,_,_,_,_,_,_⟩=>gW
instance(st n):zf (gN st n) (fun r=>O.call 136 [vv st,qi n] []=some (V? [vv r.1,qi r.2],[])):=⟨by unfold gN;exact gW⟩
instance(st):zf (fV st) (fun r=>O.call 75 [vv st] []=some (V? [vv r.1,qi r.2],[])):=⟨by unfold fV;exact gW⟩
@[go_sem] def aX:((Int×Bool)⊕(Unit))->Ex×St
 | .inl y=>(G?,⟨[(4,qi y.1),(5,zu y.2)],[],0⟩)
 | .inr y=>(j?,⟨[(4,f?),(5,f?)],[],0⟩)
instance:xv gJ fun(cur,ns,i) r=>O.loop 139 0 ⟨[(0,qi cur),(6,vv ns),(7,qi i)],[],0⟩=some (aX r):=gP gJ.partial_correctness fun _ _⟨_,_,_⟩=>gW
instance(cur is):zf (fO cur is) (fun r=>O.call 139 [qi cur,vv is] []=some (V? [qi r.1,zu r.2],[])):=⟨by unfold fO;exact gW⟩
instance(st):zf (fW st) (fun r=>O.call 76 [vv st] []=some (V? [vv r.1,qi r.2],[])):=⟨by unfold fW;exact gW⟩
instance(st):zf (cU st) (fun r=>O.call 77 [vv st] []=some (V? [vv r.1,qi r.2],[])):=⟨by unfold cU;exact gW⟩
instance:xv xL fun(k,n,has,a,found,j,st,t4,s,es) r=>O.loop 78 2 ⟨[(1,qi k),(2,x? 0 0),(4,x? 1 0),(6,qi n),(7,x? 2 0),(8,qq 3 es),(9,zu has),(10,qi a),(11,zu found),(12,qi j)],[(0,bb st),(1,bb t4),(2,bb s),(3,br es)],4⟩=some (j?,⟨[(1,qi k),(2,x? 0 0),(4,x? 1 0),(6,qi n),(7,x? 2 0),(8,qq 3 r.2),(9,zu r.1),(10,qi a)],[(0,bb st),(1,bb t4),(2,bb s),(3,br r.2)],4⟩):=gP xL.partial_correctness fun _ _⟨_,_,_,_,_,_,_,_,_,_⟩=>gW
instance:xv yj fun(k,n,has,a,st,t4,s,es) r=>O.loop 78 0 ⟨[(1,qi k),(2,x? 0 0),(4,x? 1 0),(6,qi n),(7,x? 2 0),(8,qq 3 es),(9,zu has),(10,qi a)],[(0,bb st),(1,bb t4),(2,bb s),(3,br es)],4⟩=some (j?,⟨[(2,x? 0 0),(4,x? 1 0),(6,qi n),(7,x? 2 0),(8,qq 3 r.2),(9,zu r.1)],[(0,bb st),(1,bb t4),(2,bb s),(3,br r.2)],4⟩):=gP yj.partial_correctness fun _ _⟨_,_,_,_,_,_,_,_⟩=>gW
instance(st k):zf (rT st k) (fun r=>O.call 78 [vv st,qi k] []=some (V? [vv r.1,qi r.2],[])):=⟨by unfold rT;exact gW⟩
instance(o b b_2 xw cn r_ r_2):zf (uE o b b_2 xw cn r_ r_2) (fun r=>O.call 37 [x? 0 0,vv o] [(0,y? [qM b,vv b_2,vv xw,vv cn,qq 1 r_.l,qq 2 r_2.l]),(1,bN r_),(2,bN r_2)]=some (V? [vv r.1,zu r.2.1,qi r.2.2],[(0,y? [qM b,vv b_2,vv xw,vv cn,qq 1 r_.l,qq 2 r_2.l]),(1,bN r_),(2,bN r_2)])):=⟨by unfold uE;exact gW⟩
@[go_sem] def cV (cn:(Sl qv)) (r_:(Sl qw)) (r_2:(Sl qw)):((Int×qa×(Sl qy)×(Sl qb)×(Sl qv))⊕((Int×qa×(Sl qy)×(Sl qb)×(Sl qw)×(Sl qw))⊕((Int×qa×(Sl qy)×(Sl qb)×(Sl qw)×(Sl qw))⊕(Int×qa×(Sl qy)×(Sl qb)×(Sl qw)))))->AV×qp
 | .inl y=>(qi y.1,[(0,y? [qM y.2.1,vv y.2.2.1,vv y.2.2.2.1,vv y.2.2.2.2,qq 1 r_.l,qq 2 r_2.l]),(1,bN r_),(2,bN r_2)])
 | .inr (.inl y)=>(qi y.1,[(0,y? [qM y.2.1,vv y.2.2.1,vv y.2.2.2.1,vv cn,qq 3 y.2.2.2.2.2.l,qq 2 y.2.2.2.2.1.l]),(1,h!),(2,bN y.2.2.2.2.1),(3,bN y.2.2.2.2.2)])
 | .inr (.inr (.inl y))=>(qi y.1,[(0,y? [qM y.2.1,vv y.2.2.1,vv y.2.2.2.1,vv cn,qq 1 y.2.2.2.2.1.l,qq 3 y.2.2.2.2.2.l]),(1,bN y.2.2.2.2.1),(2,h!),(3,bN y.2.2.2.2.2)])
 | .inr (.inr (.inr y))=>(qi y.1,[(0,y? [qM y.2.1,vv y.2.2.1,vv y.2.2.2.1,vv cn,qq 3 y.2.2.2.2.l,C? (PV.sl true 0 [])]),(1,bN r_),(2,bN r_2),(3,bN y.2.2.2.2)])
instance(o b b_2 xw cn r_ r_2):zf (bq o b b_2 xw cn r_ r_2) (fun r=>O.call 18 [x? 0 0,vv o] [(0,y? [qM b,vv b_2,vv xw,vv cn,qq 1 r_.l,qq 2 r_2.l]),(1,bN r_),(2,bN r_2)]=some (cV cn r_ r_2 r)):=⟨by unfold bq;exact gW⟩
instance:xv kR fun(os,i,t2,m,m2,m3,m4,qT,zP) r=>O.loop 6 0 ⟨[(0,vv os),(2,x? 0 0),(3,x? 1 0),(5,qi i)],[(0,bb t2),(1,y? [qM m,vv m2,vv m3,vv m4,qq 2 qT.l,qq 3 zP.l]),(2,bN qT),(3,bN zP)],4⟩=some (j?,⟨[(2,x? 0 0),(3,x? 1 0)],[(0,bb t2),(1,y? [qM r.1,vv r.2.1,vv r.2.2.1,vv r.2.2.2.1,qq 2 r.2.2.2.2.1.l,qq 3 r.2.2.2.2.2.l]),(2,bN r.2.2.2.2.1),(3,bN r.2.2.2.2.2)],4⟩):=gP kR.partial_correctness fun _ _⟨_,_,_,_,_,_,_,_,_⟩=>gW
instance(os):zf (dX os) (fun r=>O.call 6 [vv os] []=some (vv r,[])):=⟨by unfold dX;exact gW⟩
instance(x n):zf (kg x n) (fun r=>O.call 7 [qi x,qi n] []=some (qi r,[])):=⟨by unfold kg;exact gW⟩
instance:xv mb fun(n,es,i,out) r=>O.loop 8 0 ⟨[(0,qi n),(1,vv es),(5,qq 0 out),(6,qi i)],[(0,br out)],1⟩=some (j?,⟨[(5,qq 0 r)],[(0,br r)],1⟩):=gP mb.partial_correctness fun _ _⟨_,_,_,_⟩=>gW
instance(n es):zf (dY n es) (fun r=>O.call 8 [qi n,vv es] []=some (vv r,[])):=⟨by unfold dY;exact gW⟩
instance(s):zf (gr s) (fun r=>O.call 197 [vv s] []=some (vv r,[])):=⟨by unfold gr;exact gW⟩
theorem iQ:(∀ p r,gp p=some r->O.call 141 [vv p] []=some (vv r,[]))/\(∀ p r,ku p=some r->match p with|(Uh,ec,VY,x,t2,qz)=>O.loop 141 0 ⟨[(1,x? 0 0),(2,x? 1 0),(3,qq 2 qz),(11,vv Uh),(12,qi ec),(13,qi VY)],[(0,bb x),(1,bb t2),(2,br qz)],3⟩=some (j?,⟨[(1,x? 0 0),(2,x? 1 0),(3,qq 2 r)],[(0,bb x),(1,bb t2),(2,br r)],3⟩)):=by refine gp.mutual_partial_correctness _ _ ?_ ?_;intro ku i;have j383:=fun p=>zf.mk (i p);clear i;rintro _;exact gW;intro gp ku i381 i383;have j381:=fun p=>zf.mk (i381 p);clear i381;have j383:=fun p=>zf.mk (i383 p);clear i383;rintro⟨_,_,_,_,_,_⟩;exact gW
instance(p):zf (gp p) (fun r=>O.call 141 [vv p] []=some (vv r,[])):=⟨fun r=>iQ.1 p r⟩
instance(p):zf (ku p) (fun r=>match p with|(Uh,ec,VY,x,t2,qz)=>O.loop 141 0 ⟨[(1,x? 0 0),(2,x? 1 0),(3,qq 2 qz),(11,vv Uh),(12,qi ec),(13,qi VY)],[(0,bb x),(1,bb t2),(2,br qz)],3⟩=some (j?,⟨[(1,x? 0 0),(2,x? 1 0),(3,qq 2 r)],[(0,bb x),(1,bb t2),(2,br r)],3⟩)):=⟨fun r=>iQ.2 p r⟩
instance(s):zf (gq s) (fun r=>O.call 142 [vv s] []=some (vv r,[])):=⟨by unfold gq;exact gW⟩
instance(f):zf (d9 f) (fun r=>O.call 81 [vv f] []=some (vv r,[])):=⟨by unfold d9;exact gW⟩
instance(s):zf (vH s) (fun r=>O.call 82 [vv s] []=some (vv r,[])):=⟨by unfold vH;exact gW⟩
instance:xv vX fun(oT,Uh,ec,t17,t18,t19,s,t2,insts,i,mF) r=>O.loop 39 2 ⟨[(1,x? 0 0),(2,x? 1 0),(3,qq 2 insts),(5,x? 3 0),(6,qq 4 mF),(10,vv oT),(11,qi Uh),(12,qi ec),(17,vv t17),(18,qi t18),(19,qi t19)],[(0,bb s),(1,bb t2),(2,br insts),(3,bb i),(4,br mF)],5⟩=some (j?,⟨[(1,x? 0 0),(2,x? 1 0),(3,qq 2 insts),(5,x? 3 0),(6,qq 4 r),(10,vv oT),(11,qi Uh),(12,qi ec)],[(0,bb s),(1,bb t2),(2,br insts),(3,bb i),(4,br r)],5⟩):=gP vX.partial_correctness fun _ _⟨_,_,_,_,_,_,_,_,_,_,_⟩=>gW
instance:xv vW fun(oT,Uh,ec,s,t2,insts) r=>O.loop 39 0 ⟨[(1,x? 0 0),(2,x? 1 0),(3,qq 2 insts),(10,vv oT),(11,qi Uh),(12,qi ec)],[(0,bb s),(1,bb t2),(2,br insts)],3⟩=some (j?,⟨[(1,x? 0 0),(2,x? 1 0),(3,qq 2 r)],[(0,bb s),(1,bb t2),(2,br r)],3⟩):=gP vW.partial_correctness fun _ _⟨_,_,_,_,_,_⟩=>gW
instance(s):zf (rC s) (fun r=>O.call 39 [vv s] []=some (vv r,[])):=⟨by unfold rC;exact gW⟩
instance:xv vZ fun(ec,VY,ay,t23,t24,cm,t2,out,eC,zP,b4_,marks) r=>O.loop 20 2 ⟨[(2,x? 1 0),(3,x? 2 0),(6,qq 5 marks),(12,vv ec),(13,qi VY),(14,qi ay),(23,qi t23),(24,qi t24)],[(0,bb cm),(1,bb t2),(2,y? [qi out,vv eC,qq 3 zP]),(3,br zP),(4,bb b4_),(5,bm marks)],6⟩=some (j?,⟨[(2,x? 1 0),(3,x? 2 0),(6,qq 5 r),(12,vv ec),(13,qi VY),(14,qi ay)],[(0,bb cm),(1,bb t2),(2,y? [qi out,vv eC,qq 3 zP]),(3,br zP),(4,bb b4_),(5,bm r)],6⟩):=gP vZ.partial_correctness fun _ _⟨_,_,_,_,_,_,_,_,_,_,_,_⟩=>gW
instance:xv vY fun(ec,VY,ay,cm,t2,out,eC,zP) r=>O.loop 20 0 ⟨[(2,x? 1 0),(3,x? 2 0),(12,vv ec),(13,qi VY),(14,qi ay)],[(0,bb cm),(1,bb t2),(2,y? [qi out,vv eC,qq 3 zP]),(3,br zP)],4⟩=some (j?,⟨[(2,x? 1 0),(3,x? 2 0)],[(0,bb cm),(1,bb t2),(2,y? [qi out,vv eC,qq 3 r]),(3,br r)],4⟩):=gP vY.partial_correctness fun _ _⟨_,_,_,_,_,_,_,_⟩=>gW
instance(s):zf (pj s) (fun r=>O.call 20 [vv s] []=some (vv r,[])):=⟨by unfold pj;exact gW⟩
instance:xv wt fun(inst,stop,deep,t19,t20,t21,s,ej,oT,r_,r_2,xu,yd,mf,nI) r=>O.loop 40 0 ⟨[(1,qi inst),(2,qi stop),(4,zu deep),(5,x? 0 0),(10,x? 2 0),(11,x? 3 0),(19,vv t19),(20,qi t20),(21,qi t21)],[(0,bb s),(1,bb ej),(2,bb oT),(3,y? [qi r_,qi r_2,qM xu,qq 4 nI.l,qi yd,qi mf]),(4,m9 [1] 1 zK nI)],5⟩=some (j?,⟨[(1,qi inst),(2,qi stop),(4,zu deep),(5,x? 0 0),(10,x? 2 0),(11,x? 3 0)],[(0,bb s),(1,bb ej),(2,bb oT),(3,y? [qi r_,qi r_2,qM xu,qq 4 r.l,qi yd,qi mf]),(4,m9 [1] 1 zK r)],5⟩):=gP wt.partial_correctness fun _ _⟨_,_,_,_,_,_,_,_,_,_,_,_,_,_,_⟩=>gW
instance(i k):zf (tN i k) (fun r=>O.call 86 [vv i,qi k] []=some (qi r,[])):=⟨by unfold tN;exact gW⟩
instance:xv ky fun(stop,deep,k,r_,r_2,xu,yd,mf,z8,n1,i,jw) r=>O.loop 83 0 ⟨[(0,x? 0 0),(2,qi stop),(3,zu deep),(5,x? 2 0),(8,qq 3 jw),(9,qi k)],[(0,y? [qi r_,qi r_2,qM xu,qq 1 z8,qi yd,qi mf]),(1,Y_ false [1] (oE 1 zK z8) (some (n1,3,jw.length))),(2,bb i),(3,bm jw)],4⟩=some (j?,⟨[(0,x? 0 0),(2,qi stop),(3,zu deep),(5,x? 2 0),(8,qq 3 r)],[(0,y? [qi r_,qi r_2,qM xu,qq 1 z8,qi yd,qi mf]),(1,Y_ false [1] (oE 1 zK z8) (some (n1,3,r.length))),(2,bb i),(3,bm r)],4⟩):=gP ky.partial_correctness fun _ _⟨_,_,_,_,_,_,_,_,_,_,_,_⟩=>gW
instance(a b):zf (d7 a b) (fun r=>O.call 64 [vv a,vv b] []=some (zu r,[])):=⟨by unfold d7;exact gW⟩
instance(x b b_2 xw cn KA r_ n r_2):zf (vK x b b_2 xw cn KA r_ n r_2) (fun r=>O.call 143 [x? 0 0,vv x] [(0,y? [qi b,qi b_2,qM xw,qq 1 r_,qi cn,qi KA]),(1,Y_ false [1] (oE 1 zK r_) (some (n,2,r_2.length))),(2,bm r_2)]=some (zu r,[(0,y? [qi b,qi b_2,qM xw,qq 1 r_,qi cn,qi KA]),(1,Y_ false [1] (oE 1 zK r_) (some (n,2,r_2.length))),(2,bm r_2)])):=⟨by unfold vK;exact gW⟩
instance:xv zv fun(deep,k,r_,r_2,xu,yd,mf,z8,n1,i,jw,inside) r=>O.loop 83 2 ⟨[(0,x? 0 0),(3,zu deep),(5,x? 2 0),(8,qq 3 jw),(10,qq 4 inside),(11,qi k)],[(0,y? [qi r_,qi r_2,qM xu,qq 1 z8,qi yd,qi mf]),(1,Y_ false [1] (oE 1 zK z8) (some (n1,3,jw.length))),(2,bb i),(3,bm jw),(4,bm inside)],5⟩=some (j?,⟨[(0,x? 0 0)],[(0,y? [qi r_,qi r_2,qM xu,qq 1 z8,qi yd,qi r.1]),(1,Y_ false [1] (oE 1 zK z8) (some (n1,3,r.2.1.length))),(2,bb i),(3,bm r.2.1),(4,bm r.2.2)],5⟩):=gP zv.partial_correctness fun _ _⟨_,_,_,_,_,_,_,_,_,_,_,_⟩=>gW
instance(i stop deep b b_2 xw cn KA r_):zf (nO i stop deep b b_2 xw cn KA r_) (fun r=>O.call 83 [x? 0 0,vv i,qi stop,zu deep] [(0,y? [qi b,qi b_2,qM xw,qq 1 r_.l,qi cn,qi KA]),(1,m9 [1] 1 zK r_)]=some (V? [],[(0,y? [qi b,qi b_2,qM xw,qq 1 r.2.l,qi cn,qi r.1]),(1,m9 [1] 1 zK r.2)])):=⟨by unfold nO;exact gW⟩
instance(x o8 inst qZ b b_2 xw cn KA r_ n r_2):zf (jH x o8 inst qZ b b_2 xw cn KA r_ n r_2) (fun r=>O.call 144 [x? 0 0,vv x,qi o8,qi inst,qi qZ] [(0,y? [qi b,qi b_2,qM xw,qq 1 r_,qi cn,qi KA]),(1,Y_ false [1] (oE 1 zK r_) (some (n,2,r_2.length))),(2,bm r_2)]=some (qi r,[(0,y? [qi b,qi b_2,qM xw,qq 1 r_,qi cn,qi KA]),(1,Y_ false [1] (oE 1 zK r_) (some (n,2,r_2.length))),(2,bm r_2)])):=⟨by unfold jH;exact gW⟩
instance:xv xF fun(inst,t28,t29,t30,r_,r_2,xu,yd,mf,z8,n1,i,jw) r=>O.loop 84 0 ⟨[(0,x? 0 0),(2,qi inst),(4,x? 2 0),(6,qq 3 jw),(28,vv t28),(29,qi t29),(30,qi t30)],[(0,y? [qi r_,qi r_2,qM xu,qq 1 z8,qi yd,qi mf]),(1,Y_ false [1] (oE 1 zK z8) (some (n1,3,jw.length))),(2,bb i),(3,bm jw)],4⟩=some (j?,⟨[(0,x? 0 0)],[(0,y? [qi r_,qi r_2,qM xu,qq 1 z8,qi yd,qi mf]),(1,Y_ false [1] (oE 1 zK z8) (some (n1,3,r.length))),(2,bb i),(3,bm r)],4⟩):=gP xF.partial_correctness fun _ _⟨_,_,_,_,_,_,_,_,_,_,_,_,_⟩=>gW
instance(i inst b b_2 xw cn KA r_):zf (ba i inst b b_2 xw cn KA r_) (fun r=>O.call 84 [x? 0 0,vv i,qi inst] [(0,y? [qi b,qi b_2,qM xw,qq 1 r_.l,qi cn,qi KA]),(1,m9 [1] 1 zK r_)]=some (V? [],[(0,y? [qi b,qi b_2,qM xw,qq 1 r.l,qi cn,qi KA]),(1,m9 [1] 1 zK r)])):=⟨by unfold ba;exact gW⟩
instance:xv kp fun(t71,t72,t73,cm,ej,oT,r_,r_2,xu,yd,mf,nI) r=>O.loop 40 2 ⟨[(10,x? 2 0),(11,x? 3 0),(71,vv t71),(72,qi t72),(73,qi t73)],[(0,bb cm),(1,bb ej),(2,bb oT),(3,y? [qi r_,qi r_2,qM xu,qq 4 nI.l,qi yd,qi mf]),(4,m9 [1] 1 zK nI)],5⟩=some (j?,⟨[(10,x? 2 0),(11,x? 3 0)],[(0,bb cm),(1,bb ej),(2,bb oT),(3,y? [qi r_,qi r_2,qM xu,qq 4 r.l,qi yd,qi mf]),(4,m9 [1] 1 zK r)],5⟩):=gP kp.partial_correctness fun _ _⟨_,_,_,_,_,_,_,_,_,_,_,_⟩=>gW
instance(s inst stop e deep):zf (rD s inst stop e deep) (fun r=>O.call 40 [vv s,qi inst,qi stop,vv e,zu deep] []=some (vv r,[])):=⟨by unfold rD;exact gW⟩
instance(s):zf (nZ s) (fun r=>O.call 92 [vv s] []=some (qi r,[])):=⟨by unfold nZ;exact gW⟩
instance(r_):zf (nF r_) (fun r=>O.call 93 [qq 0 r_] [(0,bm r_)]=some (qq 1 r_,[(0,bm r_),(1,bm r_)])):=⟨by unfold nF;exact gW⟩
instance(x):zf (sX x) (fun r=>O.call 148 [qi x] []=some (zu r,[])):=⟨by unfold sX;exact gW⟩
instance(x y):zf (tc x y) (fun r=>O.call 97 [qi x,qi y] []=some (qi r,[])):=⟨by unfold tc;exact gW⟩
@[go_sem] def aJ (zero:Int) (t6:(List Int)):((Int)⊕(Unit))->Ex×St
 | .inl y=>(G?,⟨[(2,qi y),(3,qi zero)],[(0,bm t6)],1⟩)
 | .inr y=>(j?,⟨[(2,f?),(3,qi zero)],[(0,bm t6)],1⟩)
instance:xv sW fun(zero,t7,t8,t6) r=>O.loop 96 0 ⟨[(3,qi zero),(6,qq 0 t6),(7,qi t7),(8,qi t8)],[(0,bm t6)],1⟩=some (aJ zero t6 r):=gP sW.partial_correctness fun _ _⟨_,_,_,_⟩=>gW
instance(r_):zf (QY r_) (fun r=>O.call 96 [qq 0 r_] [(0,bm r_)]=some (qi r,[(0,bm r_)])):=⟨by unfold QY;exact gW⟩
instance(a b):zf (ek a b) (fun r=>O.call 95 [vv a,vv b] []=some (qi r,[])):=⟨by unfold ek;exact gW⟩
theorem jt: ∀p r,zb p=some r->r.length=p.2.2.2.2.length/\O.loop 200 2 ⟨[(0,qq 0 p.2.2.2.2),(1,qi p.1),(2,qi p.2.1),(3,C? (I! 95)),(8,qi p.2.2.1),(9,qi p.2.2.2.1)],[(0,bm p.2.2.2.2)],1⟩=some (j?,⟨[(0,qq 0 r),(1,qi p.1),(2,qi p.2.1),(3,C? (I! 95)),(8,qi p.2.2.1)],[(0,bm r)],1⟩):=by refine zb.partial_correctness _ ?_;rintro zb SD ⟨a,b,i,j,data⟩ r;dsimp only;apply it<;>intro h1;{(refine bw G' fun x3 h2 f1 f2 f3=>?_;refine bw G' fun x5 h4 f4 f5 f6=>?_;refine bs fun v7 h6=>?_;have f7:=zf.ok _ h6;try simp only[en.down,nY,nL,nN,nM]at f7);apply it<;>intro h8;{(refine bw G' fun J0 h9 f8 f9 f10=>?_;try simp only[en.down,nY,nL,nN,nM]at f8 f9 f10);(try simp only[Q?]at f10);(intro h;obtain⟨f11L,f11⟩:=SD _ _ h;clear h;try simp only[en.down,nY,nL,nN,nM]at f11);clear SD;exact⟨by first|rfl|(simp only[Q?,f11L];done),fL Yd.h⟩};rintro⟨⟩;clear SD;exact⟨by first|rfl|(simp only[Q?];done),fL Yd.h⟩};rintro⟨⟩;clear SD;exact⟨by first|rfl|(simp only[Q?];done),fL Yd.h⟩
instance(p):zf (zb p) (fun r=>r.length=p.2.2.2.2.length/\O.loop 200 2 ⟨[(0,qq 0 p.2.2.2.2),(1,qi p.1),(2,qi p.2.1),(3,C? (I! 95)),(8,qi p.2.2.1),(9,qi p.2.2.2.1)],[(0,bm p.2.2.2.2)],1⟩=some (j?,⟨[(0,qq 0 r),(1,qi p.1),(2,qi p.2.1),(3,C? (I! 95)),(8,qi p.2.2.1)],[(0,bm r)],1⟩)):=⟨fun r=>jt p r⟩
theorem js: ∀p r,qU p=some r->r.length=p.2.2.2.length/\O.loop 200 0 ⟨[(0,qq 0 p.2.2.2),(1,qi p.1),(2,qi p.2.1),(3,C? (I! 95)),(8,qi p.2.2.1)],[(0,bm p.2.2.2)],1⟩=some (j?,⟨[],[(0,bm r)],1⟩):=by refine qU.partial_correctness _ ?_;rintro qU Lm ⟨a,b,i,data⟩ r;dsimp only;apply it<;>intro h1;{(refine bs fun v3 h2=>?_;obtain⟨eN,f1⟩:=jt _ _ h2;try simp only[Q?]at eN);(try simp only[en.down,nY,nL,nN,nM,eN]at f1);(try simp only[eN]at f1);(intro h;obtain⟨f2L,f2⟩:=Lm _ _ h;clear h;try simp only[en.down,nY,nL,nN,nM,eN]at f2);(try simp only[eN]at f2);clear Lm;exact⟨by first|rfl|(simp only[Q?,f2L,eN];done),fL Yd.h⟩};rintro⟨⟩;clear Lm;exact⟨by first|rfl|(simp only[Q?];done),fL Yd.h⟩
instance(p):zf (qU p) (fun r=>r.length=p.2.2.2.length/\O.loop 200 0 ⟨[(0,qq 0 p.2.2.2),(1,qi p.1),(2,qi p.2.1),(3,C? (I! 95)),(8,qi p.2.2.1)],[(0,bm p.2.2.2)],1⟩=some (j?,⟨[],[(0,bm r)],1⟩)):=⟨fun r=>js p r⟩
theorem xr{a b r_ r}(h:qY a b r_=some r):r.length=r_.length/\O.call 200 [qq 0 r_,qi a,qi b,C? (I! 95)] [(0,bm r_)]=some (V? [],[(0,bm r)]):=by
 revert h;unfold qY;refine bs fun v2 h1=>?_;obtain⟨eN,f1⟩:=js _ _ h1;try simp only[Q?]at eN
 try simp only[en.down,nY,nL,nN,nM,eN]at f1
 try simp only[eN]at f1
 rintro⟨⟩;exact⟨by first|rfl|(simp only[Q?,eN];done),fF Yd.h⟩
instance(a:Int)(b:Int)(r_:(List ql)):zf (qY a b r_) (fun r=>r.length=r_.length/\O.call 200 [qq 0 r_,qi a,qi b,C? (I! 95)] [(0,bm r_)]=some (V? [],[(0,bm r)])):=⟨fun r=>xr (r:=r)⟩
theorem kx: ∀p r,ze p=some r->r.2.length=p.2.2.2.2.length/\O.loop 147 0 ⟨[(0,qq 0 p.2.2.2.2),(1,qi p.1),(2,C? (I! 95)),(6,qi p.2.1),(7,qi p.2.2.1),(8,qi p.2.2.2.1)],[(0,bm p.2.2.2.2)],1⟩=some (j?,⟨[(0,qq 0 r.2),(1,qi p.1),(2,C? (I! 95)),(6,qi p.2.1),(7,qi r.1)],[(0,bm r.2)],1⟩):=by refine ze.partial_correctness _ ?_;rintro ze Ll ⟨n,wk,a,b,data⟩ r;dsimp only;apply it<;>intro h1;{(refine bs fun v3 h2=>?_;obtain⟨eN,f1⟩:=xr h2;try simp only[Q?]at eN);(try simp only[en.down,nY,nL,nN,nM,eN]at f1);(try simp only[eN]at f1);(intro h;obtain⟨f2L,f2⟩:=Ll _ _ h;clear h;try simp only[en.down,nY,nL,nN,nM,eN]at f2);(try simp only[eN]at f2);clear Ll;exact⟨by first|rfl|(simp only[Q?,f2L,eN];done),fL OD.h⟩};rintro⟨⟩;clear Ll;exact⟨by first|rfl|(simp only[Q?];done),fL OD.h⟩
instance(p):zf (ze p) (fun r=>r.2.length=p.2.2.2.2.length/\O.loop 147 0 ⟨[(0,qq 0 p.2.2.2.2),(1,qi p.1),(2,C? (I! 95)),(6,qi p.2.1),(7,qi p.2.2.1),(8,qi p.2.2.2.1)],[(0,bm p.2.2.2.2)],1⟩=some (j?,⟨[(0,qq 0 r.2),(1,qi p.1),(2,C? (I! 95)),(6,qi p.2.1),(7,qi r.1)],[(0,bm r.2)],1⟩)):=⟨fun r=>kx p r⟩
instance(n wk a b data):zf (jb n wk a b data) (fun r=>O.loop 147 4 ⟨[(0,qq 0 data),(1,qi n),(2,C? (I! 95)),(6,qi wk),(7,qi a),(8,qi b)],[(0,bm data)],1⟩=some (j?,⟨[(0,qq 0 data),(1,qi n),(2,C? (I! 95)),(6,qi wk),(7,qi a)],[(0,bm data)],1⟩)):=⟨by unfold jb;exact gW⟩
instance:xv zD fun(n,wk,data) r=>O.loop 147 2 ⟨[(0,qq 0 data),(1,qi n),(2,C? (I! 95)),(6,qi wk)],[(0,bm data)],1⟩=some (j?,⟨[],[(0,bm data)],1⟩):=gP zD.partial_correctness fun _ _⟨_,_,_⟩=>gW
theorem wh{n r_ r}(h:zt n r_=some r):r.length=r_.length/\O.call 147 [qq 0 r_,qi n,C? (I! 95)] [(0,bm r_)]=some (V? [],[(0,bm r)]):=by
 revert h;unfold zt;refine bs fun v2 h1=>?_;obtain⟨eN,f1⟩:=kx _ _ h1;try simp only[Q?]at eN
 try simp only[en.down,nY,nL,nN,nM,eN]at f1
 refine bs fun v4 h3=>?_;obtain⟨f2L,f2⟩:=xr h3;try simp only[Q?,eN]at f2L
 try simp only[en.down,nY,nL,nN,nM,eN,f2L]at f2
 refine bs fun v6 h5=>?_;have f3:=zf.ok _ h5;try simp only[en.down,nY,nL,nN,nM,eN,f2L]at f3
 try simp only[eN,f2L]at f1 f2 f3
 rintro⟨⟩;exact⟨by first|rfl|(simp only[Q?,eN,f2L];done),fF OD.h⟩
instance(n:Int)(r_:(List ql)):zf (zt n r_) (fun r=>r.length=r_.length/\O.call 147 [qq 0 r_,qi n,C? (I! 95)] [(0,bm r_)]=some (V? [],[(0,bm r)])):=⟨fun r=>wh (r:=r)⟩
theorem bu{r_ r}(h:zH r_=some r):r.length=r_.length/\O.call 94 [qq 0 r_,C? (I! 95)] [(0,bm r_)]=some (V? [],[(0,bm r)]):=by
 revert h;unfold zH;refine bs fun v2 h1=>?_;obtain⟨eN,f1⟩:=wh h1;try simp only[Q?]at eN
 try simp only[en.down,nY,nL,nN,nM,eN]at f1
 try simp only[eN]at f1
 rintro⟨⟩;exact⟨by first|rfl|(simp only[Q?,eN];done),fF fn94.h⟩
instance(r_:(List ql)):zf (zH r_) (fun r=>r.length=r_.length/\O.call 94 [qq 0 r_,C? (I! 95)] [(0,bm r_)]=some (V? [],[(0,bm r)])):=⟨fun r=>bu (r:=r)⟩
instance(r_):zf (cr r_) (fun r=>O.call 54 [qq 0 r_] [(0,bm r_)]=some (qq 1 r,[(0,bm r_),(1,bm r)])):=⟨by unfold cr;exact gW⟩
theorem mY: ∀p r,xP p=some r->r.length=p.2.2.length/\O.loop 55 0 ⟨[(0,qq 0 p.2.2),(2,qi p.1),(3,qi p.2.1)],[(0,bm p.2.2)],1⟩=some (j?,⟨[],[(0,bm r)],1⟩):=by refine xP.partial_correctness _ ?_;rintro xP Ln ⟨i,j,s⟩ r;dsimp only;apply it<;>intro h1;{(refine bw G' fun x3 h2 f1 f2 f3=>?_;refine bw G' fun x5 h4 f4 f5 f6=>?_;refine bw G' fun x7 h6 f7 f8 f9=>?_;try simp only[en.down,nY,nL,nN,nM]at f7 f8 f9);(try simp only[Q?]at f9);(intro h;obtain⟨f10L,f10⟩:=Ln _ _ h;clear h;try simp only[en.down,nY,nL,nN,nM]at f10);clear Ln;exact⟨by first|rfl|(simp only[Q?,f10L];done),fL fn55.h⟩};rintro⟨⟩;clear Ln;exact⟨by first|rfl|(simp only[Q?];done),fL fn55.h⟩
instance(p):zf (xP p) (fun r=>r.length=p.2.2.length/\O.loop 55 0 ⟨[(0,qq 0 p.2.2),(2,qi p.1),(3,qi p.2.1)],[(0,bm p.2.2)],1⟩=some (j?,⟨[],[(0,bm r)],1⟩)):=⟨fun r=>mY p r⟩
theorem iR{r_ r}(h:kK r_=some r):r.length=r_.length/\O.call 55 [qq 0 r_] [(0,bm r_)]=some (V? [],[(0,bm r)]):=by
 revert h;unfold kK;refine bs fun v2 h1=>?_;obtain⟨eN,f1⟩:=mY _ _ h1;try simp only[Q?]at eN
 try simp only[en.down,nY,nL,nN,nM,eN]at f1
 try simp only[eN]at f1
 rintro⟨⟩;exact⟨by first|rfl|(simp only[Q?,eN];done),fF fn55.h⟩
instance(r_:(List ql)):zf (kK r_) (fun r=>r.length=r_.length/\O.call 55 [qq 0 r_] [(0,bm r_)]=some (V? [],[(0,bm r)])):=⟨fun r=>iR (r:=r)⟩
instance:xv ke fun(qo,right,t15,t16,Qz,ay) r=>O.loop 145 0 ⟨[(0,qi qo),(1,zu right),(14,qq 1 ay),(15,qi t15),(16,qi t16)],[(0,bm Qz),(1,bm ay)],2⟩=some (j?,⟨[(0,qi r)],[(0,bm Qz),(1,bm ay)],2⟩):=gP ke.partial_correctness fun _ _⟨_,_,_,_,_,_⟩=>gW
instance(qo right r_):zf (tK qo right r_) (fun r=>O.call 145 [qi qo,zu right,qq 0 r_] [(0,bm r_)]=some (qi r,[(0,bm r_)])):=⟨by unfold tK;exact gW⟩
instance(x jw b):zf (wD x jw b) (fun r=>O.call 85 [x? 0 0,vv x,qi jw] [(0,bb b)]=some (vv r,[(0,bb b)])):=⟨by unfold wD;exact gW⟩
instance:xv zk fun(jw,marks,typed,t32,t33,Xh,r_,i,oT,out,eC,places,bc,uK) r=>O.loop 41 0 ⟨[(0,x? 0 0),(2,vv jw),(3,vv marks),(4,zu typed),(6,x? 1 0),(10,x? 2 0),(12,x? 3 0),(13,qq 5 bc),(14,qq 4 places),(32,vv t32),(33,qi t33),(34,qi Xh)],[(0,bb r_),(1,bb i),(2,bb oT),(3,y? [qi out,qi eC,qq 6 uK]),(4,bm places),(5,br bc),(6,br uK)],7⟩=some (j?,⟨[(10,x? 2 0),(12,x? 3 0),(13,qq 5 r.2.1)],[(0,bb r_),(1,bb i),(2,bb oT),(3,y? [qi out,qi eC,qq 6 r.2.2]),(4,bm r.1),(5,br r.2.1),(6,br r.2.2)],7⟩):=gP zk.partial_correctness fun _ _⟨_,_,_,_,_,_,_,_,_,_,_,_,_,_⟩=>gW
instance(i jw marks typed b):zf (yu i jw marks typed b) (fun r=>O.call 41 [x? 0 0,vv i,vv jw,vv marks,zu typed] [(0,bb b)]=some (V? [vv r.1,vv r.2],[(0,bb b)])):=⟨by unfold yu;exact gW⟩
instance:xv xo fun(typed,Xh,t35,t36,s,ej,ec,r_,out,ia,uK) r=>O.loop 21 0 ⟨[(5,zu typed),(6,x? 0 0),(12,x? 2 0),(13,x? 3 0),(14,x? 4 0),(34,vv Xh),(35,qi t35),(36,qi t36)],[(0,bb s),(1,bb ej),(2,bb ec),(3,bb r_),(4,y? [qi out,qq 5 ia,qq 6 uK]),(5,br ia),(6,br uK)],7⟩=some (j?,⟨[(12,x? 2 0),(14,x? 4 0)],[(0,bb s),(1,bb ej),(2,bb ec),(3,bb r_),(4,y? [qi out,qq 5 r.1,qq 6 r.2]),(5,br r.1),(6,br r.2)],7⟩):=gP xo.partial_correctness fun _ _⟨_,_,_,_,_,_,_,_,_,_,_⟩=>gW
instance(s inst stop e deep typed):zf (uT s inst stop e deep typed) (fun r=>O.call 21 [vv s,qi inst,qi stop,vv e,zu deep,zu typed] []=some (vv r,[])):=⟨by unfold uT;exact gW⟩
instance(s inst stop e):zf (ko s inst stop e) (fun r=>O.call 10 [vv s,qi inst,qi stop,vv e] []=some (vv r,[])):=⟨by unfold ko;exact gW⟩
instance(s inst stop e):zf (gm s inst stop e) (fun r=>O.call 11 [vv s,qi inst,qi stop,vv e] []=some (vv r,[])):=⟨by unfold gm;exact gW⟩
@[go_sem] def fH:((Bool)⊕(Unit))->Ex×St
 | .inl y=>(G?,⟨[(4,zu y)],[],0⟩)
 | .inr y=>(j?,⟨[(4,f?)],[],0⟩)
instance:xv uk fun(a,b,i) r=>O.loop 80 0 ⟨[(0,vv a),(1,vv b),(5,qi i)],[],0⟩=some (fH r):=gP uk.partial_correctness fun _ _⟨_,_,_⟩=>gW
instance(a b):zf (cM a b) (fun r=>O.call 80 [vv a,vv b] []=some (zu r,[])):=⟨by unfold cM;exact gW⟩
instance(a b):zf (mU a b) (fun r=>O.call 38 [vv a,vv b] []=some (zu r,[])):=⟨by unfold mU;exact gW⟩
@[go_sem] def sj (a:qk) (b:qk):((Bool)⊕(Unit))->Ex×St
 | .inl y=>(G?,⟨[(4,zu y)],[(0,bb a),(1,bb b)],2⟩)
 | .inr y=>(j?,⟨[(4,f?)],[(0,bb a),(1,bb b)],2⟩)
instance:xv we fun(i,a,b) r=>O.loop 19 0 ⟨[(2,x? 0 0),(3,x? 1 0),(5,qi i)],[(0,bb a),(1,bb b)],2⟩=some (sj a b r):=gP we.partial_correctness fun _ _⟨_,_,_⟩=>gW
instance(a b):zf (mT a b) (fun r=>O.call 19 [vv a,vv b] []=some (zu r,[])):=⟨by unfold mT;exact gW⟩
@[go_sem] def pZ (a:qb) (b:qb):((Bool)⊕(Unit))->Ex×St
 | .inl y=>(G?,⟨[(4,zu y)],[(0,bb a),(1,bb b)],2⟩)
 | .inr y=>(j?,⟨[(4,f?)],[(0,bb a),(1,bb b)],2⟩)
instance:xv jE fun(i,a,b) r=>O.loop 9 0 ⟨[(2,x? 0 0),(3,x? 1 0),(5,qi i)],[(0,bb a),(1,bb b)],2⟩=some (pZ a b r):=gP jE.partial_correctness fun _ _⟨_,_,_⟩=>gW
instance(a b):zf (xU a b) (fun r=>O.call 9 [vv a,vv b] []=some (zu r,[])):=⟨by unfold xU;exact gW⟩
instance lN(os which inst stop e):zf (vL os which inst stop e) (fun r=>O.call 3 [vv os,qi which,qi inst,qi stop,vv e] []=some (zu r,[])):=⟨by unfold vL;exact gW⟩
end Go.Proofs.YtoflcafolmmaaaaGreat
