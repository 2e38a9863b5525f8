/-
  What the machine's calls come to: the plain functions.
-/
import Derived.Test.YtnojdepmnnebnaaGreatQag
import Derived.Test.YtnojdepmnnebnaaGreatQah
import Derived.Test.YtnojdepmnnebnaaGreatQai
open Go.Gm.AV renaming ptr->x?,undef->f?,xV->Y?,pv->A?
open Go.Gm.Ex renaming normal->j?,ret->G?
open Go.Gm.PV renaming fn->I!
open Go.Gm.qE renaming box->y?,xw->g!,jf->H_
open Go.Proofs.YtnojdepmnnebnaaGreat.ql renaming enc->R'
open List renaming length_set->Q?
set_option linter.unusedSimpArgs false
set_option linter.unusedVariables false
set_option maxRecDepth 100000
namespace Go.Proofs.YtnojdepmnnebnaaGreat
open Go Go.Gm
theorem findKey_l(k:Int): ∀(l:List (Int×Int×Nat))(i:Nat),findKey (.int .i64 k) (List.map entE l) i=some ((bJ k l i).map fun x=>(x.1,.int .i64 x.2.1,x.2.2))
 |[],i=>rfl
 |(x,v,b)::r,i=>by
  simp only[List.map_cons,entE,findKey,C8,bJ,if_true]
  cases h:(k==x) with
  |true=>simp
  |false=>simp only[findKey_l k r (i+1)];simp
theorem mii_get2(b:Bool)(m:pG)(k:Int):lookB ⟨1,8,.int .i64,[.int .i64 0],b,none⟩ (.int .i64 k) true (some (.map (List.map entE m.es) m.zR))=some (.xV [.pv (.int .i64 (K3 m k)),.pv (.bool (J0 m k))]):=by
 simp only[lookB,findKey_l,K3,J0];cases bJ k m.es 0<;>simp[WV,TI.isAgg]
theorem mii_get(b:Bool)(m:pG)(k:Int):lookB ⟨1,8,.int .i64,[.int .i64 0],b,none⟩ (.int .i64 k) false (some (.map (List.map entE m.es) m.zR))=some (.pv (.int .i64 (K3 m k))):=by
 simp only[lookB,findKey_l,K3];cases bJ k m.es 0<;>simp[WV,TI.isAgg]
theorem mii_put(j:Nat)(m:pG)(k v:Int):updB j (.int .i64 k) (.int .i64 v) (some (.map (List.map entE m.es) m.zR))=some [(j,.map (List.map entE (VY m k v).es) (VY m k v).zR)]:=by
 simp only[updB,findKey_l,VY];cases bJ k m.es 0<;>simp[entE,List.map_set]
attribute[go_sem]mii_get2 mii_get mii_put
set_option maxHeartbeats 4000000
instance(qB to qp b b_2 xz r_ r_2 xx ye mg r_6):zf (bt qB to qp b b_2 xz r_ r_2 xx ye mg r_6) (fun r=>O.call 178 [x? 0 0,x? 1 0,A? (PV.sl true 0 []),qt 2 r_,qi qB,qi to,qi qp] [(0,y? [vv b,qM b_2,qM xz,qt 3 r_2,qt 4 xx,qt 5 ye]),(1,y? [qt 6 mg,qt 7 r_6]),(2,bm r_),(3,br r_2),(4,br xx),(5,br ye),(6,br mg),(7,br r_6)]=some (Y? [qt 8 r.2.2.2.2.2.2.2.2.2.2,qi r.1],[(0,y? [vv r.2.1,qM r.2.2.1,qM r.2.2.2.1,qt 3 r.2.2.2.2.2.1,qt 4 r.2.2.2.2.2.2.1,qt 5 r.2.2.2.2.2.2.2.1]),(1,y? [qt 6 r.2.2.2.2.2.2.2.2.1,qt 7 r.2.2.2.2.2.2.2.2.2.1]),(2,bm r.2.2.2.2.1),(3,br r.2.2.2.2.2.1),(4,br r.2.2.2.2.2.2.1),(5,br r.2.2.2.2.2.2.2.1),(6,br r.2.2.2.2.2.2.2.2.1),(7,br r.2.2.2.2.2.2.2.2.2.1),(8,br r.2.2.2.2.2.2.2.2.2.2)])):=⟨by unfold bt;exact gW⟩
instance:xy vd fun(s,zero,i,mE,b0_2,DU,z7,qT,zS,ig,uJ,oT,stops) r=>O.loop 117 2 ⟨[(15,qM s),(17,qt 8 stops),(19,zu zero),(20,qi i)],[(0,y? [vv mE,qM b0_2,qM DU,qt 1 z7,qt 2 qT,qt 3 zS]),(1,br z7),(2,br qT),(3,br zS),(4,y? [qt 5 ig,qt 6 uJ]),(5,br ig),(6,br uJ),(7,bm oT),(8,br stops)],9⟩=some (j?,⟨[(15,qM s),(17,qt 8 stops),(19,zu r)],[(0,y? [vv mE,qM b0_2,qM DU,qt 1 z7,qt 2 qT,qt 3 zS]),(1,br z7),(2,br qT),(3,br zS),(4,y? [qt 5 ig,qt 6 uJ]),(5,br ig),(6,br uJ),(7,bm oT),(8,br stops)],9⟩):=gP vd.partial_correctness fun _ _⟨_,_,_,_,_,_,_,_,_,_,_,_,_⟩=>gW
instance(l env lead unit):zf (fN l env lead unit) (fun r=>O.call 117 [vv l,vv env,qM lead,qM unit] []=some (Y? [qM r.1,vv r.2.1,qi r.2.2],[])):=⟨by unfold fN;exact gW⟩
@[go_sem] def dy (st:qv) (t6:qv):((Int×qv×(List ql)×(List (Sl qq)))⊕((List ql)×(List (Sl qq))))->Ex×St
 | .inl y=>(G?,⟨[(3,x? 0 0),(6,x? 1 0),(7,qi y.1),(10,qt 2 y.2.2.1),(11,qt 3 y.2.2.2)],[(0,bb st),(1,bb y.2.1),(2,br y.2.2.1),(3,br y.2.2.2)],4⟩)
 | .inr y=>(j?,⟨[(3,x? 0 0),(6,x? 1 0),(7,f?),(10,qt 2 y.1),(11,qt 3 y.2)],[(0,bb st),(1,bb t6),(2,br y.1),(3,br y.2)],4⟩)
instance:xy yl fun(l,env,unit,i,st,t6,es,gZ) r=>O.loop 64 0 ⟨[(1,vv l),(2,vv env),(3,x? 0 0),(6,x? 1 0),(8,qM unit),(10,qt 2 es),(11,qt 3 gZ),(12,qi i)],[(0,bb st),(1,bb t6),(2,br es),(3,br gZ)],4⟩=some (dy st t6 r):=gP yl.partial_correctness fun _ _⟨_,_,_,_,_,_,_,_⟩=>gW
instance:xy yn fun(es,eP,i,qp,k,mE,t6,gZ,w,w2,oT,GL,s,rA,kU,in_2,Ac) r=>O.loop 64 4 ⟨[(6,x? 1 0),(10,vv es),(11,qt 3 gZ),(24,x? 4 0),(25,x? 9 0),(26,qi eP),(27,qi i),(28,qi qp),(29,x? 11 0),(30,qi k)],[(0,bb mE),(1,bb t6),(2,g!),(3,br gZ),(4,y? [qM w,vv w2,qt 7 oT,qt 8 GL.l]),(5,g!),(6,g!),(7,bm oT),(8,mb [1,1] 1 (mz 1 zL) GL),(9,y? [qi s,qt 10 rA]),(10,br rA),(11,y? [qi kU,qi in_2,qt 12 Ac]),(12,br Ac)],13⟩=some (j?,⟨[(6,x? 1 0),(10,vv es),(11,qt 3 gZ),(24,x? 4 0),(25,x? 9 0),(26,qi eP),(27,qi i),(29,x? 11 0)],[(0,bb mE),(1,bb t6),(2,g!),(3,br gZ),(4,y? [qM w,vv w2,qt 7 oT,qt 8 GL.l]),(5,g!),(6,g!),(7,bm oT),(8,mb [1,1] 1 (mz 1 zL) GL),(9,y? [qi s,qt 10 rA]),(10,br rA),(11,y? [qi kU,qi in_2,qt 12 r]),(12,br r)],13⟩):=gP yn.partial_correctness fun _ _⟨_,_,_,_,_,_,_,_,_,_,_,_,_,_,_,_,_⟩=>gW
instance:xy ym fun(es,eP,i,mE,t6,gZ,w,w2,oT,GL,s,rA) r=>O.loop 64 2 ⟨[(6,x? 1 0),(10,vv es),(11,qt 3 gZ),(24,x? 4 0),(25,x? 9 0),(26,qi eP),(27,qi i)],[(0,bb mE),(1,bb t6),(2,g!),(3,br gZ),(4,y? [qM w,vv w2,qt 7 oT,qt 8 GL.l]),(5,g!),(6,g!),(7,bm oT),(8,mb [1,1] 1 (mz 1 zL) GL),(9,y? [qi s,qt 10 rA]),(10,br rA)],11⟩=some (j?,⟨[(6,x? 1 0),(24,x? 4 0),(25,x? 9 0)],[(0,bb mE),(1,bb t6),(2,g!),(3,br gZ),(4,y? [qM w,vv w2,qt 7 oT,qt 8 GL.l]),(5,g!),(6,g!),(7,bm oT),(8,mb [1,1] 1 (mz 1 zL) GL),(9,y? [qi s,qt 10 r]),(10,br r)],11⟩):=gP ym.partial_correctness fun _ _⟨_,_,_,_,_,_,_,_,_,_,_,_⟩=>gW
instance:xy xo fun(is,ns,zero,i,k) r=>O.loop 118 2 ⟨[(0,vv is),(3,vv ns),(4,zu zero),(5,qi i),(6,qi k)],[],0⟩=some (j?,⟨[(0,vv is),(3,vv r.1),(4,zu r.2),(5,qi i)],[],0⟩):=gP xo.partial_correctness fun _ _⟨_,_,_,_,_⟩=>gW
instance:xy wL fun(is,ns,zero,i) r=>O.loop 118 0 ⟨[(0,vv is),(3,vv ns),(4,zu zero),(5,qi i)],[],0⟩=some (j?,⟨[(3,vv r.1),(4,zu r.2)],[],0⟩):=gP wL.partial_correctness fun _ _⟨_,_,_,_⟩=>gW
instance(is):zf (gK is) (fun r=>O.call 118 [vv is] []=some (vv r,[])):=⟨by unfold gK;exact gW⟩
instance(s b b_2 r_ r_2):zf (bx s b b_2 r_ r_2) (fun r=>O.call 119 [x? 0 0,vv s] [(0,y? [qM b,vv b_2,qt 1 r_,qt 2 r_2.l]),(1,bm r_),(2,mb [1,1] 1 (mz 1 zL) r_2)]=some (Y? [],[(0,y? [qM b,vv b_2,qt 1 r.1,qt 2 r.2.l]),(1,bm r.1),(2,mb [1,1] 1 (mz 1 zL) r.2)])):=⟨by unfold bx;exact gW⟩
instance:xy uC fun(n,k,sp,i,st,t4,s,l) r=>O.loop 120 0 ⟨[(1,qi n),(2,x? 1 0),(4,x? 2 0),(6,qi k),(7,x? 3 0),(8,vv sp),(9,qt 4 l),(10,qi i)],[(0,g!),(1,bb st),(2,bb t4),(3,bb s),(4,br l)],5⟩=some (j?,⟨[(1,qi n),(2,x? 1 0),(4,x? 2 0),(6,qi k),(7,x? 3 0),(9,qt 4 r)],[(0,g!),(1,bb st),(2,bb t4),(3,bb s),(4,br r)],5⟩):=gP uC.partial_correctness fun _ _⟨_,_,_,_,_,_,_,_⟩=>gW
instance(st st2 n r_):zf (mX st st2 n r_) (fun r=>O.call 120 [AV.agg [qM st,vv st2,qt 0 r_],qi n] [(0,bm r_)]=some (Y? [vv r.1,qi r.2],[(0,g!)])):=⟨by unfold mX;exact gW⟩
instance(st l env):zf (sb st l env) (fun r=>O.call 64 [vv st,vv l,vv env] []=some (Y? [vv r.1,qi r.2],[])):=⟨by unfold sb;exact gW⟩
instance(a b):zf (rm a b) (fun r=>O.call 180 [qi a,qi b] []=some (zu r,[])):=⟨by unfold rm;exact gW⟩
@[go_sem] def e8:((Int×Bool)⊕(Unit))->Ex×St
 | .inl y=>(G?,⟨[(4,qi y.1),(5,zu y.2)],[],0⟩)
 | .inr y=>(j?,⟨[(4,f?),(5,f?)],[],0⟩)
instance:xy gJ fun(cur,ns,i) r=>O.loop 121 0 ⟨[(0,qi cur),(6,vv ns),(7,qi i)],[],0⟩=some (e8 r):=gP gJ.partial_correctness fun _ _⟨_,_,_⟩=>gW
instance(cur is):zf (fP cur is) (fun r=>O.call 121 [qi cur,vv is] []=some (Y? [qi r.1,zu r.2],[])):=⟨by unfold fP;exact gW⟩
instance(st):zf (sW st) (fun r=>O.call 122 [vv st] []=some (vv r,[])):=⟨by unfold sW;exact gW⟩
instance:xy wN fun(n,k,sp,i,st,t4,s,l) r=>O.loop 120 0 ⟨[(1,qi n),(2,x? 0 0),(4,x? 1 0),(6,qi k),(7,x? 2 0),(8,vv sp),(9,qt 3 l),(10,qi i)],[(0,bb st),(1,bb t4),(2,bb s),(3,br l)],4⟩=some (j?,⟨[(1,qi n),(2,x? 0 0),(4,x? 1 0),(6,qi k),(7,x? 2 0),(9,qt 3 r)],[(0,bb st),(1,bb t4),(2,bb s),(3,br r)],4⟩):=gP wN.partial_correctness fun _ _⟨_,_,_,_,_,_,_,_⟩=>gW
instance(st n):zf (gQ st n) (fun r=>O.call 120 [vv st,qi n] []=some (Y? [vv r.1,qi r.2],[])):=⟨by unfold gQ;exact gW⟩
instance(st):zf (fX st) (fun r=>O.call 65 [vv st] []=some (Y? [vv r.1,qi r.2],[])):=⟨by unfold fX;exact gW⟩
@[go_sem] def e9:((Int×Bool)⊕(Unit))->Ex×St
 | .inl y=>(G?,⟨[(4,qi y.1),(5,zu y.2)],[],0⟩)
 | .inr y=>(j?,⟨[(4,f?),(5,f?)],[],0⟩)
instance:xy gM fun(cur,ns,i) r=>O.loop 123 0 ⟨[(0,qi cur),(6,vv ns),(7,qi i)],[],0⟩=some (e9 r):=gP gM.partial_correctness fun _ _⟨_,_,_⟩=>gW
instance(cur is):zf (fQ cur is) (fun r=>O.call 123 [qi cur,vv is] []=some (Y? [qi r.1,zu r.2],[])):=⟨by unfold fQ;exact gW⟩
instance(st):zf (fY st) (fun r=>O.call 66 [vv st] []=some (Y? [vv r.1,qi r.2],[])):=⟨by unfold fY;exact gW⟩
instance(st):zf (d6 st) (fun r=>O.call 67 [vv st] []=some (Y? [vv r.1,qi r.2],[])):=⟨by unfold d6;exact gW⟩
instance:xy xQ fun(k,n,has,a,found,j,st,t4,s,es) r=>O.loop 68 2 ⟨[(1,qi k),(2,x? 0 0),(4,x? 1 0),(6,qi n),(7,x? 2 0),(8,qt 3 es),(9,zu has),(10,qi a),(11,zu found),(12,qi j)],[(0,bb st),(1,bb t4),(2,bb s),(3,br es)],4⟩=some (j?,⟨[(1,qi k),(2,x? 0 0),(4,x? 1 0),(6,qi n),(7,x? 2 0),(8,qt 3 r.2),(9,zu r.1),(10,qi a)],[(0,bb st),(1,bb t4),(2,bb s),(3,br r.2)],4⟩):=gP xQ.partial_correctness fun _ _⟨_,_,_,_,_,_,_,_,_,_⟩=>gW
instance:xy yk fun(k,n,has,a,st,t4,s,es) r=>O.loop 68 0 ⟨[(1,qi k),(2,x? 0 0),(4,x? 1 0),(6,qi n),(7,x? 2 0),(8,qt 3 es),(9,zu has),(10,qi a)],[(0,bb st),(1,bb t4),(2,bb s),(3,br es)],4⟩=some (j?,⟨[(2,x? 0 0),(4,x? 1 0),(6,qi n),(7,x? 2 0),(8,qt 3 r.2),(9,zu r.1)],[(0,bb st),(1,bb t4),(2,bb s),(3,br r.2)],4⟩):=gP yk.partial_correctness fun _ _⟨_,_,_,_,_,_,_,_⟩=>gW
instance(st k):zf (sa st k) (fun r=>O.call 68 [vv st,qi k] []=some (Y? [vv r.1,qi r.2],[])):=⟨by unfold sa;exact gW⟩
instance(o b b_2 xz cy r_ r_2):zf (uD o b b_2 xz cy r_ r_2) (fun r=>O.call 35 [x? 0 0,vv o] [(0,y? [qM b,vv b_2,vv xz,vv cy,qt 1 r_.l,qt 2 r_2.l]),(1,bN r_),(2,bN r_2)]=some (Y? [vv r.1,zu r.2.1,qi r.2.2],[(0,y? [qM b,vv b_2,vv xz,vv cy,qt 1 r_.l,qt 2 r_2.l]),(1,bN r_),(2,bN r_2)])):=⟨by unfold uD;exact gW⟩
@[go_sem] def d7 (cy:(Sl qw)) (r_:(Sl qv)) (r_2:(Sl qv)):((Int×qa×(Sl qy)×(Sl qb)×(Sl qw))⊕((Int×qa×(Sl qy)×(Sl qb)×(Sl qv)×(Sl qv))⊕((Int×qa×(Sl qy)×(Sl qb)×(Sl qv)×(Sl qv))⊕(Int×qa×(Sl qy)×(Sl qb)×(Sl qv)))))->AV×qr
 | .inl y=>(qi y.1,[(0,y? [qM y.2.1,vv y.2.2.1,vv y.2.2.2.1,vv y.2.2.2.2,qt 1 r_.l,qt 2 r_2.l]),(1,bN r_),(2,bN r_2)])
 | .inr (.inl y)=>(qi y.1,[(0,y? [qM y.2.1,vv y.2.2.1,vv y.2.2.2.1,vv cy,qt 3 y.2.2.2.2.2.l,qt 2 y.2.2.2.2.1.l]),(1,g!),(2,bN y.2.2.2.2.1),(3,bN y.2.2.2.2.2)])
 | .inr (.inr (.inl y))=>(qi y.1,[(0,y? [qM y.2.1,vv y.2.2.1,vv y.2.2.2.1,vv cy,qt 1 y.2.2.2.2.1.l,qt 3 y.2.2.2.2.2.l]),(1,bN y.2.2.2.2.1),(2,g!),(3,bN y.2.2.2.2.2)])
 | .inr (.inr (.inr y))=>(qi y.1,[(0,y? [qM y.2.1,vv y.2.2.1,vv y.2.2.2.1,vv cy,qt 3 y.2.2.2.2.l,A? (PV.sl true 0 [])]),(1,bN r_),(2,bN r_2),(3,bN y.2.2.2.2)])
instance(o b b_2 xz cy r_ r_2):zf (bA o b b_2 xz cy r_ r_2) (fun r=>O.call 17 [x? 0 0,vv o] [(0,y? [qM b,vv b_2,vv xz,vv cy,qt 1 r_.l,qt 2 r_2.l]),(1,bN r_),(2,bN r_2)]=some (d7 cy r_ r_2 r)):=⟨by unfold bA;exact gW⟩
instance:xy kQ fun(os,i,t2,m,m2,m3,m4,qT,zS) r=>O.loop 6 0 ⟨[(0,vv os),(2,x? 0 0),(3,x? 1 0),(5,qi i)],[(0,bb t2),(1,y? [qM m,vv m2,vv m3,vv m4,qt 2 qT.l,qt 3 zS.l]),(2,bN qT),(3,bN zS)],4⟩=some (j?,⟨[(2,x? 0 0),(3,x? 1 0)],[(0,bb t2),(1,y? [qM r.1,vv r.2.1,vv r.2.2.1,vv r.2.2.2.1,qt 2 r.2.2.2.2.1.l,qt 3 r.2.2.2.2.2.l]),(2,bN r.2.2.2.2.1),(3,bN r.2.2.2.2.2)],4⟩):=gP kQ.partial_correctness fun _ _⟨_,_,_,_,_,_,_,_,_⟩=>gW
instance(os):zf (ff os) (fun r=>O.call 6 [vv os] []=some (vv r,[])):=⟨by unfold ff;exact gW⟩
instance(x n):zf (mN x n) (fun r=>O.call 7 [qi x,qi n] []=some (qi r,[])):=⟨by unfold mN;exact gW⟩
instance(s):zf (gr s) (fun r=>O.call 181 [vv s] []=some (vv r,[])):=⟨by unfold gr;exact gW⟩
theorem iS:(∀ p r,gp p=some r->O.call 124 [vv p] []=some (vv r,[]))/\(∀ p r,ku p=some r->match p with|(UF,eg,Yf,x,t2,qz)=>O.loop 124 0 ⟨[(1,x? 0 0),(2,x? 1 0),(3,qt 2 qz),(11,vv UF),(12,qi eg),(13,qi Yf)],[(0,bb x),(1,bb t2),(2,br qz)],3⟩=some (j?,⟨[(1,x? 0 0),(2,x? 1 0),(3,qt 2 r)],[(0,bb x),(1,bb t2),(2,br r)],3⟩)):=by refine gp.mutual_partial_correctness _ _ ?_ ?_;intro ku i;have j381:=fun p=>zf.mk (i p);clear i;rintro _;exact gW;intro gp ku i379 i381;have j379:=fun p=>zf.mk (i379 p);clear i379;have j381:=fun p=>zf.mk (i381 p);clear i381;rintro⟨_,_,_,_,_,_⟩;exact gW
instance(p):zf (gp p) (fun r=>O.call 124 [vv p] []=some (vv r,[])):=⟨fun r=>iS.1 p r⟩
instance(p):zf (ku p) (fun r=>match p with|(UF,eg,Yf,x,t2,qz)=>O.loop 124 0 ⟨[(1,x? 0 0),(2,x? 1 0),(3,qt 2 qz),(11,vv UF),(12,qi eg),(13,qi Yf)],[(0,bb x),(1,bb t2),(2,br qz)],3⟩=some (j?,⟨[(1,x? 0 0),(2,x? 1 0),(3,qt 2 r)],[(0,bb x),(1,bb t2),(2,br r)],3⟩)):=⟨fun r=>iS.2 p r⟩
instance(s):zf (gq s) (fun r=>O.call 125 [vv s] []=some (vv r,[])):=⟨by unfold gq;exact gW⟩
instance(f):zf (df f) (fun r=>O.call 69 [vv f] []=some (vv r,[])):=⟨by unfold df;exact gW⟩
instance(s):zf (vF s) (fun r=>O.call 70 [vv s] []=some (vv r,[])):=⟨by unfold vF;exact gW⟩
instance:xy vY fun(oX,UF,eg,t17,t18,Pv,s,t2,insts,i,mI) r=>O.loop 36 2 ⟨[(1,x? 0 0),(2,x? 1 0),(3,qt 2 insts),(5,x? 3 0),(6,qt 4 mI),(10,vv oX),(11,qi UF),(12,qi eg),(17,vv t17),(18,qi t18),(19,qi Pv)],[(0,bb s),(1,bb t2),(2,br insts),(3,bb i),(4,br mI)],5⟩=some (j?,⟨[(1,x? 0 0),(2,x? 1 0),(3,qt 2 insts),(5,x? 3 0),(6,qt 4 r),(10,vv oX),(11,qi UF),(12,qi eg)],[(0,bb s),(1,bb t2),(2,br insts),(3,bb i),(4,br r)],5⟩):=gP vY.partial_correctness fun _ _⟨_,_,_,_,_,_,_,_,_,_,_⟩=>gW
instance:xy vX fun(oX,UF,eg,s,t2,insts) r=>O.loop 36 0 ⟨[(1,x? 0 0),(2,x? 1 0),(3,qt 2 insts),(10,vv oX),(11,qi UF),(12,qi eg)],[(0,bb s),(1,bb t2),(2,br insts)],3⟩=some (j?,⟨[(1,x? 0 0),(2,x? 1 0),(3,qt 2 r)],[(0,bb s),(1,bb t2),(2,br r)],3⟩):=gP vX.partial_correctness fun _ _⟨_,_,_,_,_,_⟩=>gW
instance(s):zf (rM s) (fun r=>O.call 36 [vv s] []=some (vv r,[])):=⟨by unfold rM;exact gW⟩
instance:xy yb fun(eg,Yf,aB,t23,t24,mE,t2,out,eF,zS,b4_,marks) r=>O.loop 18 2 ⟨[(2,x? 1 0),(3,x? 2 0),(6,qt 5 marks),(12,vv eg),(13,qi Yf),(14,qi aB),(23,qi t23),(24,qi t24)],[(0,bb mE),(1,bb t2),(2,y? [qi out,vv eF,qt 3 zS]),(3,br zS),(4,bb b4_),(5,bm marks)],6⟩=some (j?,⟨[(2,x? 1 0),(3,x? 2 0),(6,qt 5 r),(12,vv eg),(13,qi Yf),(14,qi aB)],[(0,bb mE),(1,bb t2),(2,y? [qi out,vv eF,qt 3 zS]),(3,br zS),(4,bb b4_),(5,bm r)],6⟩):=gP yb.partial_correctness fun _ _⟨_,_,_,_,_,_,_,_,_,_,_,_⟩=>gW
instance:xy vZ fun(eg,Yf,aB,mE,t2,out,eF,zS) r=>O.loop 18 0 ⟨[(2,x? 1 0),(3,x? 2 0),(12,vv eg),(13,qi Yf),(14,qi aB)],[(0,bb mE),(1,bb t2),(2,y? [qi out,vv eF,qt 3 zS]),(3,br zS)],4⟩=some (j?,⟨[(2,x? 1 0),(3,x? 2 0)],[(0,bb mE),(1,bb t2),(2,y? [qi out,vv eF,qt 3 r]),(3,br r)],4⟩):=gP vZ.partial_correctness fun _ _⟨_,_,_,_,_,_,_,_⟩=>gW
instance(s):zf (pt s) (fun r=>O.call 18 [vv s] []=some (vv r,[])):=⟨by unfold pt;exact gW⟩
instance:xy wm fun(inst,stop,deep,Pv,t20,t21,s,ep,oX,r_,r_2,xx,ye,mg,nL) r=>O.loop 37 0 ⟨[(1,qi inst),(2,qi stop),(4,zu deep),(5,x? 0 0),(10,x? 2 0),(11,x? 3 0),(19,vv Pv),(20,qi t20),(21,qi t21)],[(0,bb s),(1,bb ep),(2,bb oX),(3,y? [qi r_,qi r_2,qM xx,qt 4 nL.l,qi ye,qi mg]),(4,mb [1] 1 zL nL)],5⟩=some (j?,⟨[(1,qi inst),(2,qi stop),(4,zu deep),(5,x? 0 0),(10,x? 2 0),(11,x? 3 0)],[(0,bb s),(1,bb ep),(2,bb oX),(3,y? [qi r_,qi r_2,qM xx,qt 4 r.l,qi ye,qi mg]),(4,mb [1] 1 zL r)],5⟩):=gP wm.partial_correctness fun _ _⟨_,_,_,_,_,_,_,_,_,_,_,_,_,_,_⟩=>gW
instance(i k):zf (rb i k) (fun r=>O.call 74 [vv i,qi k] []=some (qi r,[])):=⟨by unfold rb;exact gW⟩
instance:xy kx fun(stop,deep,k,r_,r_2,xx,ye,mg,z7,n1,i,jy) r=>O.loop 71 0 ⟨[(0,x? 0 0),(2,qi stop),(3,zu deep),(5,x? 2 0),(8,qt 3 jy),(9,qi k)],[(0,y? [qi r_,qi r_2,qM xx,qt 1 z7,qi ye,qi mg]),(1,H_ false [1] (oE 1 zL z7) (some (n1,3,jy.length))),(2,bb i),(3,bm jy)],4⟩=some (j?,⟨[(0,x? 0 0),(2,qi stop),(3,zu deep),(5,x? 2 0),(8,qt 3 r)],[(0,y? [qi r_,qi r_2,qM xx,qt 1 z7,qi ye,qi mg]),(1,H_ false [1] (oE 1 zL z7) (some (n1,3,r.length))),(2,bb i),(3,bm r)],4⟩):=gP kx.partial_correctness fun _ _⟨_,_,_,_,_,_,_,_,_,_,_,_⟩=>gW
instance(a b):zf (gv a b) (fun r=>O.call 22 [vv a,vv b] []=some (zu r,[])):=⟨by unfold gv;exact gW⟩
instance(x b b_2 xz cy KM r_ n r_2):zf (vJ x b b_2 xz cy KM r_ n r_2) (fun r=>O.call 126 [x? 0 0,vv x] [(0,y? [qi b,qi b_2,qM xz,qt 1 r_,qi cy,qi KM]),(1,H_ false [1] (oE 1 zL r_) (some (n,2,r_2.length))),(2,bm r_2)]=some (zu r,[(0,y? [qi b,qi b_2,qM xz,qt 1 r_,qi cy,qi KM]),(1,H_ false [1] (oE 1 zL r_) (some (n,2,r_2.length))),(2,bm r_2)])):=⟨by unfold vJ;exact gW⟩
instance:xy zv fun(deep,k,r_,r_2,xx,ye,mg,z7,n1,i,jy,inside) r=>O.loop 71 2 ⟨[(0,x? 0 0),(3,zu deep),(5,x? 2 0),(8,qt 3 jy),(10,qt 4 inside),(11,qi k)],[(0,y? [qi r_,qi r_2,qM xx,qt 1 z7,qi ye,qi mg]),(1,H_ false [1] (oE 1 zL z7) (some (n1,3,jy.length))),(2,bb i),(3,bm jy),(4,bm inside)],5⟩=some (j?,⟨[(0,x? 0 0)],[(0,y? [qi r_,qi r_2,qM xx,qt 1 z7,qi ye,qi r.1]),(1,H_ false [1] (oE 1 zL z7) (some (n1,3,r.2.1.length))),(2,bb i),(3,bm r.2.1),(4,bm r.2.2)],5⟩):=gP zv.partial_correctness fun _ _⟨_,_,_,_,_,_,_,_,_,_,_,_⟩=>gW
instance(i stop deep b b_2 xz cy KM r_):zf (nR i stop deep b b_2 xz cy KM r_) (fun r=>O.call 71 [x? 0 0,vv i,qi stop,zu deep] [(0,y? [qi b,qi b_2,qM xz,qt 1 r_.l,qi cy,qi KM]),(1,mb [1] 1 zL r_)]=some (Y? [],[(0,y? [qi b,qi b_2,qM xz,qt 1 r.2.l,qi cy,qi r.1]),(1,mb [1] 1 zL r.2)])):=⟨by unfold nR;exact gW⟩
instance(x oi inst qY b b_2 xz cy KM r_ n r_2):zf (jI x oi inst qY b b_2 xz cy KM r_ n r_2) (fun r=>O.call 127 [x? 0 0,vv x,qi oi,qi inst,qi qY] [(0,y? [qi b,qi b_2,qM xz,qt 1 r_,qi cy,qi KM]),(1,H_ false [1] (oE 1 zL r_) (some (n,2,r_2.length))),(2,bm r_2)]=some (qi r,[(0,y? [qi b,qi b_2,qM xz,qt 1 r_,qi cy,qi KM]),(1,H_ false [1] (oE 1 zL r_) (some (n,2,r_2.length))),(2,bm r_2)])):=⟨by unfold jI;exact gW⟩
instance:xy xL fun(inst,t28,t29,t30,r_,r_2,xx,ye,mg,z7,n1,i,jy) r=>O.loop 72 0 ⟨[(0,x? 0 0),(2,qi inst),(4,x? 2 0),(6,qt 3 jy),(28,vv t28),(29,qi t29),(30,qi t30)],[(0,y? [qi r_,qi r_2,qM xx,qt 1 z7,qi ye,qi mg]),(1,H_ false [1] (oE 1 zL z7) (some (n1,3,jy.length))),(2,bb i),(3,bm jy)],4⟩=some (j?,⟨[(0,x? 0 0)],[(0,y? [qi r_,qi r_2,qM xx,qt 1 z7,qi ye,qi mg]),(1,H_ false [1] (oE 1 zL z7) (some (n1,3,r.length))),(2,bb i),(3,bm r)],4⟩):=gP xL.partial_correctness fun _ _⟨_,_,_,_,_,_,_,_,_,_,_,_,_⟩=>gW
instance(i inst b b_2 xz cy KM r_):zf (bg i inst b b_2 xz cy KM r_) (fun r=>O.call 72 [x? 0 0,vv i,qi inst] [(0,y? [qi b,qi b_2,qM xz,qt 1 r_.l,qi cy,qi KM]),(1,mb [1] 1 zL r_)]=some (Y? [],[(0,y? [qi b,qi b_2,qM xz,qt 1 r.l,qi cy,qi KM]),(1,mb [1] 1 zL r)])):=⟨by unfold bg;exact gW⟩
instance:xy kp fun(t71,t72,t73,mE,ep,oX,r_,r_2,xx,ye,mg,nL) r=>O.loop 37 2 ⟨[(10,x? 2 0),(11,x? 3 0),(71,vv t71),(72,qi t72),(73,qi t73)],[(0,bb mE),(1,bb ep),(2,bb oX),(3,y? [qi r_,qi r_2,qM xx,qt 4 nL.l,qi ye,qi mg]),(4,mb [1] 1 zL nL)],5⟩=some (j?,⟨[(10,x? 2 0),(11,x? 3 0)],[(0,bb mE),(1,bb ep),(2,bb oX),(3,y? [qi r_,qi r_2,qM xx,qt 4 r.l,qi ye,qi mg]),(4,mb [1] 1 zL r)],5⟩):=gP kp.partial_correctness fun _ _⟨_,_,_,_,_,_,_,_,_,_,_,_⟩=>gW
instance(s inst stop e deep):zf (rO s inst stop e deep) (fun r=>O.call 37 [vv s,qi inst,qi stop,vv e,zu deep] []=some (vv r,[])):=⟨by unfold rO;exact gW⟩
instance(s):zf (wU s) (fun r=>O.call 10 [vv s] []=some (qi r,[])):=⟨by unfold wU;exact gW⟩
instance(r_):zf (nI r_) (fun r=>O.call 78 [qt 0 r_] [(0,bm r_)]=some (qt 1 r_,[(0,bm r_),(1,bm r_)])):=⟨by unfold nI;exact gW⟩
instance(x):zf (cm x) (fun r=>O.call 131 [qi x] []=some (zu r,[])):=⟨by unfold cm;exact gW⟩
instance(x y):zf (tA x y) (fun r=>O.call 82 [qi x,qi y] []=some (qi r,[])):=⟨by unfold tA;exact gW⟩
@[go_sem] def aN (zero:Int) (t6:(List Int)):((Int)⊕(Unit))->Ex×St
 | .inl y=>(G?,⟨[(2,qi y),(3,qi zero)],[(0,bm t6)],1⟩)
 | .inr y=>(j?,⟨[(2,f?),(3,qi zero)],[(0,bm t6)],1⟩)
instance:xy cl fun(zero,t7,t8,t6) r=>O.loop 81 0 ⟨[(3,qi zero),(6,qt 0 t6),(7,qi t7),(8,qi t8)],[(0,bm t6)],1⟩=some (aN zero t6 r):=gP cl.partial_correctness fun _ _⟨_,_,_,_⟩=>gW
instance(r_):zf (Z6 r_) (fun r=>O.call 81 [qt 0 r_] [(0,bm r_)]=some (qi r,[(0,bm r_)])):=⟨by unfold Z6;exact gW⟩
instance(a b):zf (er a b) (fun r=>O.call 80 [vv a,vv b] []=some (qi r,[])):=⟨by unfold er;exact gW⟩
theorem jv: ∀p r,za p=some r->r.length=p.2.2.2.2.length/\O.loop 184 2 ⟨[(0,qt 0 p.2.2.2.2),(1,qi p.1),(2,qi p.2.1),(3,A? (I! 80)),(8,qi p.2.2.1),(9,qi p.2.2.2.1)],[(0,bm p.2.2.2.2)],1⟩=some (j?,⟨[(0,qt 0 r),(1,qi p.1),(2,qi p.2.1),(3,A? (I! 80)),(8,qi p.2.2.1)],[(0,bm r)],1⟩):=by refine za.partial_correctness _ ?_;rintro za C4 ⟨a,b,i,j,data⟩ r;dsimp only;apply it<;>intro h1;{(refine bw R' fun x3 h2 f1 f2 f3=>?_;refine bw R' fun x5 h4 f4 f5 f6=>?_;refine bs fun v7 h6=>?_;have f7:=zf.ok _ h6;try simp only[en.down,ma,nO,nQ,nP]at f7);apply it<;>intro h8;{(refine bw R' fun Z0 h9 f8 f9 f10=>?_;try simp only[en.down,ma,nO,nQ,nP]at f8 f9 f10);(try simp only[Q?]at f10);(intro h;obtain⟨f11L,f11⟩:=C4 _ _ h;clear h;try simp only[en.down,ma,nO,nQ,nP]at f11);clear C4;exact⟨by first|rfl|(simp only[Q?,f11L];done),fL Yw.h⟩};rintro⟨⟩;clear C4;exact⟨by first|rfl|(simp only[Q?];done),fL Yw.h⟩};rintro⟨⟩;clear C4;exact⟨by first|rfl|(simp only[Q?];done),fL Yw.h⟩
instance(p):zf (za p) (fun r=>r.length=p.2.2.2.2.length/\O.loop 184 2 ⟨[(0,qt 0 p.2.2.2.2),(1,qi p.1),(2,qi p.2.1),(3,A? (I! 80)),(8,qi p.2.2.1),(9,qi p.2.2.2.1)],[(0,bm p.2.2.2.2)],1⟩=some (j?,⟨[(0,qt 0 r),(1,qi p.1),(2,qi p.2.1),(3,A? (I! 80)),(8,qi p.2.2.1)],[(0,bm r)],1⟩)):=⟨fun r=>jv p r⟩
theorem ju: ∀p r,qU p=some r->r.length=p.2.2.2.length/\O.loop 184 0 ⟨[(0,qt 0 p.2.2.2),(1,qi p.1),(2,qi p.2.1),(3,A? (I! 80)),(8,qi p.2.2.1)],[(0,bm p.2.2.2)],1⟩=some (j?,⟨[],[(0,bm r)],1⟩):=by refine qU.partial_correctness _ ?_;rintro qU LR ⟨a,b,i,data⟩ r;dsimp only;apply it<;>intro h1;{(refine bs fun v3 h2=>?_;obtain⟨eR,f1⟩:=jv _ _ h2;try simp only[Q?]at eR);(try simp only[en.down,ma,nO,nQ,nP,eR]at f1);(try simp only[eR]at f1);(intro h;obtain⟨f2L,f2⟩:=LR _ _ h;clear h;try simp only[en.down,ma,nO,nQ,nP,eR]at f2);(try simp only[eR]at f2);clear LR;exact⟨by first|rfl|(simp only[Q?,f2L,eR];done),fL Yw.h⟩};rintro⟨⟩;clear LR;exact⟨by first|rfl|(simp only[Q?];done),fL Yw.h⟩
instance(p):zf (qU p) (fun r=>r.length=p.2.2.2.length/\O.loop 184 0 ⟨[(0,qt 0 p.2.2.2),(1,qi p.1),(2,qi p.2.1),(3,A? (I! 80)),(8,qi p.2.2.1)],[(0,bm p.2.2.2)],1⟩=some (j?,⟨[],[(0,bm r)],1⟩)):=⟨fun r=>ju p r⟩
theorem xv{a b r_ r}(h:qX a b r_=some r):r.length=r_.length/\O.call 184 [qt 0 r_,qi a,qi b,A? (I! 80)] [(0,bm r_)]=some (Y? [],[(0,bm r)]):=by
 revert h;unfold qX;refine bs fun v2 h1=>?_;obtain⟨eR,f1⟩:=ju _ _ h1;try simp only[Q?]at eR
 try simp only[en.down,ma,nO,nQ,nP,eR]at f1
 try simp only[eR]at f1
 rintro⟨⟩;exact⟨by first|rfl|(simp only[Q?,eR];done),fF Yw.h⟩
instance(a:Int)(b:Int)(r_:(List ql)):zf (qX a b r_) (fun r=>r.length=r_.length/\O.call 184 [qt 0 r_,qi a,qi b,A? (I! 80)] [(0,bm r_)]=some (Y? [],[(0,bm r)])):=⟨fun r=>xv (r:=r)⟩
theorem kv: ∀p r,zd p=some r->r.2.length=p.2.2.2.2.length/\O.loop 130 0 ⟨[(0,qt 0 p.2.2.2.2),(1,qi p.1),(2,A? (I! 80)),(6,qi p.2.1),(7,qi p.2.2.1),(8,qi p.2.2.2.1)],[(0,bm p.2.2.2.2)],1⟩=some (j?,⟨[(0,qt 0 r.2),(1,qi p.1),(2,A? (I! 80)),(6,qi p.2.1),(7,qi r.1)],[(0,bm r.2)],1⟩):=by refine zd.partial_correctness _ ?_;rintro zd LQ ⟨n,wh,a,b,data⟩ r;dsimp only;apply it<;>intro h1;{(refine bs fun v3 h2=>?_;obtain⟨eR,f1⟩:=xv h2;try simp only[Q?]at eR);(try simp only[en.down,ma,nO,nQ,nP,eR]at f1);(try simp only[eR]at f1);(intro h;obtain⟨f2L,f2⟩:=LQ _ _ h;clear h;try simp only[en.down,ma,nO,nQ,nP,eR]at f2);(try simp only[eR]at f2);clear LQ;exact⟨by first|rfl|(simp only[Q?,f2L,eR];done),fL L2.h⟩};rintro⟨⟩;clear LQ;exact⟨by first|rfl|(simp only[Q?];done),fL L2.h⟩
instance(p):zf (zd p) (fun r=>r.2.length=p.2.2.2.2.length/\O.loop 130 0 ⟨[(0,qt 0 p.2.2.2.2),(1,qi p.1),(2,A? (I! 80)),(6,qi p.2.1),(7,qi p.2.2.1),(8,qi p.2.2.2.1)],[(0,bm p.2.2.2.2)],1⟩=some (j?,⟨[(0,qt 0 r.2),(1,qi p.1),(2,A? (I! 80)),(6,qi p.2.1),(7,qi r.1)],[(0,bm r.2)],1⟩)):=⟨fun r=>kv p r⟩
instance(n wh a b data):zf (je n wh a b data) (fun r=>O.loop 130 4 ⟨[(0,qt 0 data),(1,qi n),(2,A? (I! 80)),(6,qi wh),(7,qi a),(8,qi b)],[(0,bm data)],1⟩=some (j?,⟨[(0,qt 0 data),(1,qi n),(2,A? (I! 80)),(6,qi wh),(7,qi a)],[(0,bm data)],1⟩)):=⟨by unfold je;exact gW⟩
instance:xy zE fun(n,wh,data) r=>O.loop 130 2 ⟨[(0,qt 0 data),(1,qi n),(2,A? (I! 80)),(6,qi wh)],[(0,bm data)],1⟩=some (j?,⟨[],[(0,bm data)],1⟩):=gP zE.partial_correctness fun _ _⟨_,_,_⟩=>gW
theorem wd{n r_ r}(h:zs n r_=some r):r.length=r_.length/\O.call 130 [qt 0 r_,qi n,A? (I! 80)] [(0,bm r_)]=some (Y? [],[(0,bm r)]):=by
 revert h;unfold zs;refine bs fun v2 h1=>?_;obtain⟨eR,f1⟩:=kv _ _ h1;try simp only[Q?]at eR
 try simp only[en.down,ma,nO,nQ,nP,eR]at f1
 refine bs fun v4 h3=>?_;obtain⟨f2L,f2⟩:=xv h3;try simp only[Q?,eR]at f2L
 try simp only[en.down,ma,nO,nQ,nP,eR,f2L]at f2
 refine bs fun v6 h5=>?_;have f3:=zf.ok _ h5;try simp only[en.down,ma,nO,nQ,nP,eR,f2L]at f3
 try simp only[eR,f2L]at f1 f2 f3
 rintro⟨⟩;exact⟨by first|rfl|(simp only[Q?,eR,f2L];done),fF L2.h⟩
instance(n:Int)(r_:(List ql)):zf (zs n r_) (fun r=>r.length=r_.length/\O.call 130 [qt 0 r_,qi n,A? (I! 80)] [(0,bm r_)]=some (Y? [],[(0,bm r)])):=⟨fun r=>wd (r:=r)⟩
theorem bC{r_ r}(h:zJ r_=some r):r.length=r_.length/\O.call 79 [qt 0 r_,A? (I! 80)] [(0,bm r_)]=some (Y? [],[(0,bm r)]):=by
 revert h;unfold zJ;refine bs fun v2 h1=>?_;obtain⟨eR,f1⟩:=wd h1;try simp only[Q?]at eR
 try simp only[en.down,ma,nO,nQ,nP,eR]at f1
 try simp only[eR]at f1
 rintro⟨⟩;exact⟨by first|rfl|(simp only[Q?,eR];done),fF fn79.h⟩
instance(r_:(List ql)):zf (zJ r_) (fun r=>r.length=r_.length/\O.call 79 [qt 0 r_,A? (I! 80)] [(0,bm r_)]=some (Y? [],[(0,bm r)])):=⟨fun r=>bC (r:=r)⟩
instance(r_):zf (cA r_) (fun r=>O.call 46 [qt 0 r_] [(0,bm r_)]=some (qt 1 r,[(0,bm r_),(1,bm r)])):=⟨by unfold cA;exact gW⟩
theorem pd: ∀p r,xU p=some r->r.length=p.2.2.length/\O.loop 47 0 ⟨[(0,qt 0 p.2.2),(2,qi p.1),(3,qi p.2.1)],[(0,bm p.2.2)],1⟩=some (j?,⟨[],[(0,bm r)],1⟩):=by refine xU.partial_correctness _ ?_;rintro xU LS ⟨i,j,s⟩ r;dsimp only;apply it<;>intro h1;{(refine bw R' fun x3 h2 f1 f2 f3=>?_;refine bw R' fun x5 h4 f4 f5 f6=>?_;refine bw R' fun x7 h6 f7 f8 f9=>?_;try simp only[en.down,ma,nO,nQ,nP]at f7 f8 f9);(try simp only[Q?]at f9);(intro h;obtain⟨f10L,f10⟩:=LS _ _ h;clear h;try simp only[en.down,ma,nO,nQ,nP]at f10);clear LS;exact⟨by first|rfl|(simp only[Q?,f10L];done),fL fn47.h⟩};rintro⟨⟩;clear LS;exact⟨by first|rfl|(simp only[Q?];done),fL fn47.h⟩
instance(p):zf (xU p) (fun r=>r.length=p.2.2.length/\O.loop 47 0 ⟨[(0,qt 0 p.2.2),(2,qi p.1),(3,qi p.2.1)],[(0,bm p.2.2)],1⟩=some (j?,⟨[],[(0,bm r)],1⟩)):=⟨fun r=>pd p r⟩
theorem iT{r_ r}(h:kJ r_=some r):r.length=r_.length/\O.call 47 [qt 0 r_] [(0,bm r_)]=some (Y? [],[(0,bm r)]):=by
 revert h;unfold kJ;refine bs fun v2 h1=>?_;obtain⟨eR,f1⟩:=pd _ _ h1;try simp only[Q?]at eR
 try simp only[en.down,ma,nO,nQ,nP,eR]at f1
 try simp only[eR]at f1
 rintro⟨⟩;exact⟨by first|rfl|(simp only[Q?,eR];done),fF fn47.h⟩
instance(r_:(List ql)):zf (kJ r_) (fun r=>r.length=r_.length/\O.call 47 [qt 0 r_] [(0,bm r_)]=some (Y? [],[(0,bm r)])):=⟨fun r=>iT (r:=r)⟩
instance:xy kg fun(qp,right,t15,t16,QG,aB) r=>O.loop 128 0 ⟨[(0,qi qp),(1,zu right),(14,qt 1 aB),(15,qi t15),(16,qi t16)],[(0,bm QG),(1,bm aB)],2⟩=some (j?,⟨[(0,qi r)],[(0,bm QG),(1,bm aB)],2⟩):=gP kg.partial_correctness fun _ _⟨_,_,_,_,_,_⟩=>gW
instance(qp right r_):zf (tZ qp right r_) (fun r=>O.call 128 [qi qp,zu right,qt 0 r_] [(0,bm r_)]=some (qi r,[(0,bm r_)])):=⟨by unfold tZ;exact gW⟩
instance(x jy b):zf (wB x jy b) (fun r=>O.call 73 [x? 0 0,vv x,qi jy] [(0,bb b)]=some (vv r,[(0,bb b)])):=⟨by unfold wB;exact gW⟩
instance:xy zk fun(jy,marks,typed,t32,t33,Xs,r_,i,oX,out,eF,places,bh,uJ) r=>O.loop 38 0 ⟨[(0,x? 0 0),(2,vv jy),(3,vv marks),(4,zu typed),(6,x? 1 0),(10,x? 2 0),(12,x? 3 0),(13,qt 5 bh),(14,qt 4 places),(32,vv t32),(33,qi t33),(34,qi Xs)],[(0,bb r_),(1,bb i),(2,bb oX),(3,y? [qi out,qi eF,qt 6 uJ]),(4,bm places),(5,br bh),(6,br uJ)],7⟩=some (j?,⟨[(10,x? 2 0),(12,x? 3 0),(13,qt 5 r.2.1)],[(0,bb r_),(1,bb i),(2,bb oX),(3,y? [qi out,qi eF,qt 6 r.2.2]),(4,bm r.1),(5,br r.2.1),(6,br r.2.2)],7⟩):=gP zk.partial_correctness fun _ _⟨_,_,_,_,_,_,_,_,_,_,_,_,_,_⟩=>gW
instance(i jy marks typed b):zf (yv i jy marks typed b) (fun r=>O.call 38 [x? 0 0,vv i,vv jy,vv marks,zu typed] [(0,bb b)]=some (Y? [vv r.1,vv r.2],[(0,bb b)])):=⟨by unfold yv;exact gW⟩
instance:xy xr fun(typed,Xs,t35,t36,s,ep,eg,r_,out,ig,uJ) r=>O.loop 19 0 ⟨[(5,zu typed),(6,x? 0 0),(12,x? 2 0),(13,x? 3 0),(14,x? 4 0),(34,vv Xs),(35,qi t35),(36,qi t36)],[(0,bb s),(1,bb ep),(2,bb eg),(3,bb r_),(4,y? [qi out,qt 5 ig,qt 6 uJ]),(5,br ig),(6,br uJ)],7⟩=some (j?,⟨[(12,x? 2 0),(14,x? 4 0)],[(0,bb s),(1,bb ep),(2,bb eg),(3,bb r_),(4,y? [qi out,qt 5 r.1,qt 6 r.2]),(5,br r.1),(6,br r.2)],7⟩):=gP xr.partial_correctness fun _ _⟨_,_,_,_,_,_,_,_,_,_,_⟩=>gW
instance(s inst stop e deep typed):zf (uS s inst stop e deep typed) (fun r=>O.call 19 [vv s,qi inst,qi stop,vv e,zu deep,zu typed] []=some (vv r,[])):=⟨by unfold uS;exact gW⟩
instance(s inst stop e):zf (uV s inst stop e) (fun r=>O.call 8 [vv s,qi inst,qi stop,vv e] []=some (vv r,[])):=⟨by unfold uV;exact gW⟩
instance(s n):zf (iV s n) (fun r=>O.call 20 [vv s,qi n] []=some (zu r,[])):=⟨by unfold iV;exact gW⟩
instance(i k):zf (ax i k) (fun r=>O.call 39 [vv i,qi k] []=some (qi r,[])):=⟨by unfold ax;exact gW⟩
@[go_sem] def dz (k:Int) (i:qj):((Bool)⊕(Unit))->Ex×St
 | .inl y=>(G?,⟨[(1,qi k),(2,x? 0 0),(4,zu y)],[(0,bb i)],1⟩)
 | .inr y=>(j?,⟨[(1,qi k),(2,x? 0 0),(4,f?)],[(0,bb i)],1⟩)
instance:xy jM fun(k,u,i) r=>O.loop 21 0 ⟨[(1,qi k),(2,x? 0 0),(5,qi u)],[(0,bb i)],1⟩=some (dz k i r):=gP jM.partial_correctness fun _ _⟨_,_,_⟩=>gW
instance(i k):zf (gx i k) (fun r=>O.call 21 [vv i,qi k] []=some (zu r,[])):=⟨by unfold gx;exact gW⟩
@[go_sem] def iW (i:qj):((Bool×pG)⊕(pG))->Ex×St
 | .inl y=>(G?,⟨[(4,zu y.1)],[(0,bb i),(1,b_m y.2)],2⟩)
 | .inr y=>(j?,⟨[(4,f?)],[(0,bb i),(1,b_m y)],2⟩)
instance:xy vi fun(t18,Pv,t20,i,vH) r=>O.loop 9 0 ⟨[(2,x? 0 0),(5,AV.map 1),(18,vv t18),(19,qi Pv),(20,qi t20)],[(0,bb i),(1,b_m vH)],2⟩=some (iW i r):=gP vi.partial_correctness fun _ _⟨_,_,_,_,_⟩=>gW
instance(i n):zf (dW i n) (fun r=>O.call 9 [vv i,qi n] []=some (zu r,[])):=⟨by unfold dW;exact gW⟩
@[go_sem] def tg (a:Int) (k:Int) (t:qa) (i:Int) (mE:ql) (st:qv) (s:qb) (x:qn) (kU:ql) (out:qb):((Bool)⊕(Unit))->Ex×St
 | .inl y=>(G?,⟨[(10,zu y),(11,x? 1 0),(12,x? 2 0),(13,qi a),(14,qi k),(15,x? 3 0),(17,x? 4 0),(18,qM t),(19,x? 5 0),(20,qi i)],[(0,bb mE),(1,bb st),(2,bb s),(3,bb x),(4,bb kU),(5,bb out)],6⟩)
 | .inr y=>(j?,⟨[(10,f?),(11,x? 1 0),(12,x? 2 0),(13,qi a),(14,qi k),(15,x? 3 0),(17,x? 4 0),(18,qM t),(19,x? 5 0),(20,qi i)],[(0,bb mE),(1,bb st),(2,bb s),(3,bb x),(4,bb kU),(5,bb out)],6⟩)
instance:xy xB fun(a,k,t,i,j,mE,st,s,x,kU,out) r=>O.loop 3 2 ⟨[(11,x? 1 0),(12,x? 2 0),(13,qi a),(14,qi k),(15,x? 3 0),(17,x? 4 0),(18,qM t),(19,x? 5 0),(20,qi i),(21,qi j)],[(0,bb mE),(1,bb st),(2,bb s),(3,bb x),(4,bb kU),(5,bb out)],6⟩=some (tg a k t i mE st s x kU out r):=gP xB.partial_correctness fun _ _⟨_,_,_,_,_,_,_,_,_,_,_⟩=>gW
@[go_sem] def tc (a:Int) (k:Int) (mE:ql) (st:qv) (s:qb) (x:qn) (kU:ql) (out:qb):((Bool)⊕(Unit))->Ex×St
 | .inl y=>(G?,⟨[(10,zu y),(12,x? 2 0),(13,qi a),(14,qi k),(15,x? 3 0),(17,x? 4 0),(19,x? 5 0)],[(0,bb mE),(1,bb st),(2,bb s),(3,bb x),(4,bb kU),(5,bb out)],6⟩)
 | .inr y=>(j?,⟨[(10,f?),(12,x? 2 0),(13,qi a),(14,qi k),(15,x? 3 0),(17,x? 4 0),(19,x? 5 0)],[(0,bb mE),(1,bb st),(2,bb s),(3,bb x),(4,bb kU),(5,bb out)],6⟩)
instance:xy xA fun(a,k,t,i,mE,st,s,x,kU,out) r=>O.loop 3 0 ⟨[(11,x? 1 0),(12,x? 2 0),(13,qi a),(14,qi k),(15,x? 3 0),(17,x? 4 0),(18,qM t),(19,x? 5 0),(20,qi i)],[(0,bb mE),(1,bb st),(2,bb s),(3,bb x),(4,bb kU),(5,bb out)],6⟩=some (tc a k mE st s x kU out r):=gP xA.partial_correctness fun _ _⟨_,_,_,_,_,_,_,_,_,_⟩=>gW
instance lR(os which inst stop e):zf (vL os which inst stop e) (fun r=>O.call 3 [vv os,qi which,qi inst,qi stop,vv e] []=some (zu r,[])):=⟨by unfold vL;exact gW⟩
end Go.Proofs.YtnojdepmnnebnaaGreat
