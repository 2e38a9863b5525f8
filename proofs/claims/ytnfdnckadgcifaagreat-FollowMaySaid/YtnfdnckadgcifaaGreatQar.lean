/-
  What the machine's calls come to: the plain functions.
-/
import Derived.Test.YtnfdnckadgcifaaGreatQag
import Derived.Test.YtnfdnckadgcifaaGreatQaj
import Derived.Test.YtnfdnckadgcifaaGreatQao
import Derived.Test.YtnfdnckadgcifaaGreatQap
open Go.Gm.AV renaming ptr->x?,undef->Q?,xW->C?,pv->I?
open Go.Gm.Ex renaming normal->j?
open Go.Gm.PV renaming int->m?
open Go.Gm.qJ renaming box->h?
open Go.IntKind renaming u8->R?
set_option linter.unusedSimpArgs false
set_option linter.unusedVariables false
set_option maxRecDepth 100000
namespace Go.Proofs.YtnfdnckadgcifaaGreat
open Go Go.Gm
set_option maxHeartbeats 4000000
instance:xL wE fun(s,i,t2,t) r=>O.loop 168 0 ⟨[(0,qS s),(2,x? 0 0),(3,x? 1 0),(4,qj i)],[(0,bb t2),(1,bb t)],2⟩=some (j?,⟨[(2,x? 0 0),(3,x? 1 0)],[(0,bb t2),(1,bb r)],2⟩):=gP wE.partial_correctness fun _ _⟨_,_,_,_⟩=>gW
instance(s):zl (ov s) (fun r=>O.call 168 [qS s] []=some (vv r,[])):=⟨by unfold ov;exact gW⟩
instance(s off):zl (dB s off) (fun r=>O.call 116 [qS s,qj off] []=some (C? [qj r.1,qj r.2],[])):=⟨by unfold dB;exact gW⟩
instance(s off wP):zl (fY s off wP) (fun r=>O.call 151 [qS s,qj off,qj wP] []=some (C? [qj r.1,qj r.2.1,qj r.2.2],[])):=⟨by unfold fY;exact gW⟩
instance:xL yK fun(s,qo) r=>O.loop 152 0 ⟨[(0,qS s),(1,qj qo)],[],0⟩=some (j?,⟨[(1,qj r)],[],0⟩):=gP yK.partial_correctness fun _ _⟨_,_⟩=>gW
instance(s qo):zl (iI s qo) (fun r=>O.call 152 [qS s,qj qo] []=some (qj r,[])):=⟨by unfold iI;exact gW⟩
instance:xL vF fun(s,qo) r=>O.loop 153 0 ⟨[(0,qS s),(1,qj qo)],[],0⟩=some (j?,⟨[(0,qS s),(1,qj r)],[],0⟩):=gP vF.partial_correctness fun _ _⟨_,_⟩=>gW
instance(s qo):zl (ah s qo) (fun r=>O.call 153 [qS s,qj qo] []=some (qj r,[])):=⟨by unfold ah;exact gW⟩
@[go_sem] def iD (s:qa):((Int)⊕(Unit))->Ex×St
 | .inl y=>(Ex.ret,⟨[(0,qS s),(6,qj y)],[],0⟩)
 | .inr y=>(j?,⟨[(0,qS s),(6,Q?)],[],0⟩)
instance:xL nA fun(s,wP,n,many,k) r=>O.loop 211 0 ⟨[(0,qS s),(1,qj wP),(2,qj n),(7,qj many),(8,qj k)],[],0⟩=some (iD s r):=gP nA.partial_correctness fun _ _⟨_,_,_,_,_⟩=>gW
instance(s wP n):zl (iC s wP n) (fun r=>O.call 211 [qS s,qj wP,qj n] []=some (qj r,[])):=⟨by unfold iC;exact gW⟩
instance(s line col wP):zl (rk s line col wP) (fun r=>O.call 156 [qS s,qj line,qj col,qj wP] []=some (C? [qj r.1,qj r.2],[])):=⟨by unfold rk;exact gW⟩
instance(s qo wP):zl (cd s qo wP) (fun r=>O.call 108 [qS s,qj qo,qj wP] []=some (C? [qj r.1,qj r.2],[])):=⟨by unfold cd;exact gW⟩
instance:xL xy fun(s,l,aM,i,sp) r=>O.loop 72 0 ⟨[(0,qS s),(1,vv l),(2,zD aM),(7,qr 0 sp),(8,qj i)],[(0,br sp)],1⟩=some (j?,⟨[(7,qr 0 r)],[(0,br r)],1⟩):=gP xy.partial_correctness fun _ _⟨_,_,_,_,_⟩=>gW
instance(s l aM):zl (rP s l aM) (fun r=>O.call 72 [qS s,vv l,zD aM] []=some (vv r,[])):=⟨by unfold rP;exact gW⟩
instance:xL vg fun(s,wP,extend,l,i,out) r=>O.loop 73 0 ⟨[(0,qS s),(1,qj wP),(2,zD extend),(10,vv l),(12,qr 0 out),(13,qj i)],[(0,br out)],1⟩=some (j?,⟨[(0,qS s),(12,qr 0 r)],[(0,br r)],1⟩):=gP vg.partial_correctness fun _ _⟨_,_,_,_,_,_⟩=>gW
instance(s wP extend ss):zl (X8 s wP extend ss) (fun r=>O.call 73 [qS s,qj wP,zD extend,vv ss] []=some (C? [vv r.1,qj r.2],[])):=⟨by unfold X8;exact gW⟩
instance:xL jV fun(l,i,out) r=>O.loop 164 0 ⟨[(0,vv l),(3,qr 0 out),(4,qj i)],[(0,br out)],1⟩=some (j?,⟨[(3,qr 0 r)],[(0,br r)],1⟩):=gP jV.partial_correctness fun _ _⟨_,_,_⟩=>gW
instance(l):zl (fI l) (fun r=>O.call 164 [vv l] []=some (vv r,[])):=⟨by unfold fI;exact gW⟩
instance(qo pM b r_ r_2):zl (wU qo pM b r_ r_2) (fun r=>O.call 111 [x? 0 0,qj qo,zD pM] [(0,h? [qS b,qr 1 r_,qr 2 r_2]),(1,bm r_),(2,bm r_2)]=some (C? [vv r.1,qj r.2],[(0,h? [qS b,qr 1 r_,qr 2 r_2]),(1,bm r_),(2,bm r_2)])):=⟨by unfold wU;exact gW⟩
instance:xL vK fun(s,k,t4,b) r=>O.loop 161 0 ⟨[(0,qS s),(4,x? 0 0),(7,qr 1 b),(8,qj k)],[(0,bb t4),(1,br b)],2⟩=some (j?,⟨[(0,qS s),(4,x? 0 0),(7,qr 1 r.2),(8,qj r.1)],[(0,bb t4),(1,br r.2)],2⟩):=gP vK.partial_correctness fun _ _⟨_,_,_,_⟩=>gW
instance(b):zl (xv b) (fun r=>O.call 302 [x? 0 0] [(0,bb b)]=some (qS r,[(0,bb b)])):=⟨by unfold xv;exact gW⟩
instance(c b):zl (qN c b) (fun r=>O.call 305 [x? 0 0,qS c] [(0,bb b)]=some (zD r.1,[(0,bb r.2)])):=⟨by unfold qN;exact gW⟩
instance(c):zl (tZ c) (fun r=>O.call 367 [I? (m? R? (c.toNat:Int))] []=some (C? [vv r.1,zD r.2],[])):=⟨by unfold tZ;exact gW⟩
instance:xL uq fun(rows,s,i,k,r_) r=>O.loop 365 2 ⟨[(0,vv rows),(3,vv s),(4,qj i),(5,x? 0 0),(6,qj k)],[(0,bb r_)],1⟩=some (j?,⟨[(0,vv rows),(3,vv s),(4,qj i),(5,x? 0 0),(6,qj r)],[(0,bb r_)],1⟩):=gP uq.partial_correctness fun _ _⟨_,_,_,_,_⟩=>gW
instance:xL wq fun(rows,s,i) r=>O.loop 365 0 ⟨[(0,vv rows),(3,vv s),(4,qj i)],[],0⟩=some (j?,⟨[(3,vv r)],[],0⟩):=gP wq.partial_correctness fun _ _⟨_,_,_⟩=>gW
instance:xL wu fun(s,i,out) r=>O.loop 365 4 ⟨[(3,vv s),(7,qr 0 out),(8,qj i)],[(0,br out)],1⟩=some (j?,⟨[(7,qr 0 r)],[(0,br r)],1⟩):=gP wu.partial_correctness fun _ _⟨_,_,_⟩=>gW
instance(rows):zl (cL rows) (fun r=>O.call 365 [vv rows] []=some (vv r,[])):=⟨by unfold cL;exact gW⟩
instance:xL kb fun(n,many,r_) r=>O.loop 352 0 ⟨[(0,x? 0 0),(4,qj n),(5,qj many)],[(0,bb r_)],1⟩=some (j?,⟨[(4,qj r.1),(5,qj r.2.1)],[(0,bb r.2.2)],1⟩):=gP kb.partial_correctness fun _ _⟨_,_,_⟩=>gW
instance(b):zl (wG b) (fun r=>O.call 352 [x? 0 0] [(0,bb b)]=some (C? [qj r.1,zD r.2.1],[(0,bb r.2.2)])):=⟨by unfold wG;exact gW⟩
instance(x b):zl (kM x b) (fun r=>O.call 328 [x? 0 0,vv x] [(0,bb b)]=some (C? [vv r.1,qj r.2.1],[(0,bb r.2.2)])):=⟨by unfold kM;exact gW⟩
instance:xL vw fun(kind,xs,i,l) r=>O.loop 329 0 ⟨[(0,qj kind),(1,vv xs),(5,qr 0 l),(6,qj i)],[(0,br l)],1⟩=some (j?,⟨[(5,qr 0 r)],[(0,br r)],1⟩):=gP vw.partial_correctness fun _ _⟨_,_,_,_⟩=>gW
instance(kind xs):zl (sQ kind xs) (fun r=>O.call 329 [qj kind,vv xs] []=some (vv r,[])):=⟨by unfold sQ;exact gW⟩
instance(xs):zl (ie xs) (fun r=>O.call 304 [vv xs] []=some (vv r,[])):=⟨by unfold ie;exact gW⟩
instance(xs):zl (ia xs) (fun r=>O.call 306 [vv xs] []=some (vv r,[])):=⟨by unfold ia;exact gW⟩
@[go_sem] def aV (t4:zw) (f:zw):((Int×Bool×zw×zw)⊕(Unit))->Ex×St
 | .inl y=>(Ex.ret,⟨[(4,x? 0 0),(5,qj y.1),(6,zD y.2.1)],[(0,bb y.2.2.1),(1,bb y.2.2.2)],2⟩)
 | .inr y=>(j?,⟨[(4,x? 0 0),(5,Q?),(6,Q?)],[(0,bb t4),(1,bb f)],2⟩)
instance:xL gS fun(s,end_,w,t4,f) r=>O.loop 266 1 ⟨[(0,qS s),(4,x? 0 0),(8,qj end_),(10,x? 1 0),(11,qj w)],[(0,bb t4),(1,bb f)],2⟩=some (aV t4 f r):=gP gS.partial_correctness fun _ _⟨_,_,_,_,_⟩=>gW
instance(s qo colon):zl (tN s qo colon) (fun r=>O.call 267 [qS s,qj qo,zD colon] []=some (zD r,[])):=⟨by unfold tN;exact gW⟩
instance:xL uv fun(s,qo,stop,b) r=>O.loop 308 0 ⟨[(0,qS s),(1,qj qo),(2,I? (m? R? (stop.toNat:Int))),(9,qr 0 b)],[(0,br b)],1⟩=some (j?,⟨[(0,qS s),(1,qj r.1),(9,qr 0 r.2)],[(0,br r.2)],1⟩):=gP uv.partial_correctness fun _ _⟨_,_,_,_⟩=>gW
instance(s qo stop):zl (gq s qo stop) (fun r=>O.call 308 [qS s,qj qo,I? (m? R? (stop.toNat:Int))] []=some (C? [qS r.1,qj r.2.1,zD r.2.2],[])):=⟨by unfold gq;exact gW⟩
instance(s qo):zl (fE s qo) (fun r=>O.call 266 [qS s,qj qo] []=some (C? [vv r.1,qj r.2.1,zD r.2.2],[])):=⟨by unfold fE;exact gW⟩
instance(c r_):zl (mM c r_) (fun r=>O.call 268 [qr 0 r_,I? (m? R? (c.toNat:Int))] [(0,br r_)]=some (qr 0 r,[(0,br r)])):=⟨by unfold mM;exact gW⟩
instance:xL wk fun(s,qo,fs) r=>O.loop 215 0 ⟨[(0,qS s),(1,qj qo),(7,qr 0 fs)],[(0,br fs)],1⟩=some (j?,⟨[(0,qS s),(1,qj r.1),(7,qr 0 r.2)],[(0,br r.2)],1⟩):=gP wk.partial_correctness fun _ _⟨_,_,_⟩=>gW
instance(s qo):zl (fD s qo) (fun r=>O.call 215 [qS s,qj qo] []=some (C? [vv r.1,qj r.2.1,zD r.2.2],[])):=⟨by unfold fD;exact gW⟩
instance:xL ji fun(qo,r_,zr,qZ,l,text) r=>O.loop 162 0 ⟨[(0,x? 0 0),(1,qj qo),(6,qr 3 l),(7,qr 4 text)],[(0,h? [qS r_,qr 1 zr,qr 2 qZ]),(1,bm zr),(2,bm qZ),(3,br l),(4,br text)],5⟩=some (j?,⟨[(0,x? 0 0),(1,qj r.1),(6,qr 3 r.2.1),(7,qr 4 r.2.2)],[(0,h? [qS r_,qr 1 zr,qr 2 qZ]),(1,bm zr),(2,bm qZ),(3,br r.2.1),(4,br r.2.2)],5⟩):=gP ji.partial_correctness fun _ _⟨_,_,_,_,_,_⟩=>gW
instance(a b):zl (rh a b) (fun r=>O.call 175 [qj a,qj b] []=some (zD r,[])):=⟨by unfold rh;exact gW⟩
end Go.Proofs.YtnfdnckadgcifaaGreat
