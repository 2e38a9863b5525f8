/-
  What the machine's calls come to: the plain functions.
-/
import Derived.Test.YtnfdnckadgcifaaGreatQag
import Derived.Test.YtnfdnckadgcifaaGreatQaj
import Derived.Test.YtnfdnckadgcifaaGreatQal
open Go.Gm.AV renaming ptr->x?,xW->C?,pv->I?
open Go.Gm.Ex renaming normal->j?
open Go.Gm.PV renaming int->m?
open Go.Gm.qJ renaming box->h?,xH->K!
open Go.IntKind renaming u8->R?
set_option linter.unusedSimpArgs false
set_option linter.unusedVariables false
set_option maxRecDepth 100000
namespace Go.Proofs.YtnfdnckadgcifaaGreat
open Go Go.Gm
set_option maxHeartbeats 4000000
instance:xL gu fun(s,i,f,m,parts) r=>O.loop 263 0 ⟨[(1,qS s),(3,x? 0 0),(5,x? 1 0),(7,qr 2 parts),(8,qj i)],[(0,bb f),(1,bb m),(2,bm parts)],3⟩=some (j?,⟨[(3,x? 0 0),(7,qr 2 r)],[(0,bb f),(1,bb m),(2,bm r)],3⟩):=gP gu.partial_correctness fun _ _⟨_,_,_,_,_⟩=>gW
instance(c):zl (sU c) (fun r=>O.call 348 [I? (m? R? (c.toNat:Int))] []=some (I? (m? R? (r.toNat:Int)),[])):=⟨by unfold sU;exact gW⟩
instance:xL me fun(i,b) r=>O.loop 326 3 ⟨[(6,qr 0 b),(8,qj i)],[(0,bm b)],1⟩=some (j?,⟨[(6,qr 0 r)],[(0,bm r)],1⟩):=gP me.partial_correctness fun _ _⟨_,_⟩=>gW
instance(c):zl (dA c) (fun r=>O.call 373 [I? (m? R? (c.toNat:Int))] []=some (zD r,[])):=⟨by unfold dA;exact gW⟩
instance(c):zl (fB c) (fun r=>O.call 363 [I? (m? R? (c.toNat:Int))] []=some (zD r,[])):=⟨by unfold fB;exact gW⟩
instance:xL jK fun(s,i,l) r=>O.loop 349 0 ⟨[(0,qS s),(3,qr 0 l),(4,qj i)],[(0,br l)],1⟩=some (j?,⟨[(3,qr 0 r)],[(0,br r)],1⟩):=gP jK.partial_correctness fun _ _⟨_,_,_⟩=>gW
instance(s):zl (cM s) (fun r=>O.call 349 [qS s] []=some (vv r,[])):=⟨by unfold cM;exact gW⟩
instance(m ok_ b):zl (fA m ok_ b) (fun r=>O.call 300 [x? 0 0,vv m,zD ok_] [(0,bb b)]=some (C? [vv r.1,qj r.2.1,zD r.2.2.1,qj r.2.2.2],[(0,bb b)])):=⟨by unfold fA;exact gW⟩
instance:xL xP fun(i,a,w,w2,zr,qZ,s,is) r=>O.loop 107 2 ⟨[(0,x? 0 0),(2,qj i),(3,x? 3 0),(4,qr 4 is),(5,qj a)],[(0,h? [qS w,vv w2,qr 1 zr,qr 2 qZ.l]),(1,bm zr),(2,pA [1,1] 1 (bo 1 zY) qZ),(3,bb s),(4,br is)],5⟩=some (j?,⟨[(0,x? 0 0),(2,qj i),(3,x? 3 0),(4,qr 4 r)],[(0,h? [qS w,vv w2,qr 1 zr,qr 2 qZ.l]),(1,bm zr),(2,pA [1,1] 1 (bo 1 zY) qZ),(3,bb s),(4,br r)],5⟩):=gP xP.partial_correctness fun _ _⟨_,_,_,_,_,_,_,_⟩=>gW
@[go_sem] def tj (w:qa) (w2:(Sl qm)) (qZ:(Sl (Sl (Sl Int)))):((qc×(List qc))⊕((List qc)))->Ex×St
 | .inl y=>(Ex.ret,⟨[],[(0,h? [qS w,vv w2,qr 5 y.2,qr 2 qZ.l]),(1,K!),(2,pA [1,1] 1 (bo 1 zY) qZ),(3,bb y.1),(4,K!),(5,bm y.2)],6⟩)
 | .inr y=>(j?,⟨[],[(0,h? [qS w,vv w2,qr 1 y,qr 2 qZ.l]),(1,bm y),(2,pA [1,1] 1 (bo 1 zY) qZ)],3⟩)
instance:xL jM fun(i,w,w2,zr,qZ) r=>O.loop 107 0 ⟨[(0,x? 0 0),(2,qj i)],[(0,h? [qS w,vv w2,qr 1 zr,qr 2 qZ.l]),(1,bm zr),(2,pA [1,1] 1 (bo 1 zY) qZ)],3⟩=some (tj w w2 qZ r):=gP jM.partial_correctness fun _ _⟨_,_,_,_,_⟩=>gW
@[go_sem] def sy (b:qa) (b_2:(Sl qm)) (r_2:(Sl (Sl (Sl Int)))):(((List qc))⊕((List qc)))->AV×qp
 | .inl y=>(C? [],[(0,h? [qS b,vv b_2,qr 3 y,qr 2 r_2.l]),(1,K!),(2,pA [1,1] 1 (bo 1 zY) r_2),(3,bm y)])
 | .inr y=>(C? [],[(0,h? [qS b,vv b_2,qr 1 y,qr 2 r_2.l]),(1,bm y),(2,pA [1,1] 1 (bo 1 zY) r_2)])
instance(b b_2 r_ r_2):zl (yd b b_2 r_ r_2) (fun r=>O.call 107 [x? 0 0] [(0,h? [qS b,vv b_2,qr 1 r_,qr 2 r_2.l]),(1,bm r_),(2,pA [1,1] 1 (bo 1 zY) r_2)]=some (sy b b_2 r_2 r)):=⟨by unfold yd;exact gW⟩
instance(wP):zl (dN wP) (fun r=>O.call 207 [qj wP] []=some (zD r,[])):=⟨by unfold dN;exact gW⟩
instance:xL vR fun(s,i,l) r=>O.loop 210 0 ⟨[(0,qS s),(3,qr 0 l),(4,qj i)],[(0,bm l)],1⟩=some (j?,⟨[(3,qr 0 r)],[(0,bm r)],1⟩):=gP vR.partial_correctness fun _ _⟨_,_,_⟩=>gW
instance(s):zl (mS s) (fun r=>O.call 210 [qS s] []=some (vv r,[])):=⟨by unfold mS;exact gW⟩
instance(s line):zl (uN s line) (fun r=>O.call 154 [qS s,qj line] []=some (C? [qj r.1,qj r.2],[])):=⟨by unfold uN;exact gW⟩
instance(t wP):zl (bx t wP) (fun r=>O.call 208 [vv t,qj wP] []=some (qj r,[])):=⟨by unfold bx;exact gW⟩
instance(s line):zl (sa s line) (fun r=>O.call 155 [qS s,qj line] []=some (C? [qj r.1,qj r.2],[])):=⟨by unfold sa;exact gW⟩
instance(s):zl (Qf s) (fun r=>O.call 157 [qS s] []=some (qj r,[])):=⟨by unfold Qf;exact gW⟩
theorem HX{c r}(h:ug c=some r):O.call 158 [I? (m? R? (c.toNat:Int))] []=some (zD r,[]):=by revert h;unfold ug;refine K2 ?_ ?_;{rintro(⟨h1,h2,Xh,XF,JT,JU,Jl⟩|⟨h1,h2,Xh,XF,JT,JU,Jl⟩|⟨h1,h2,Xh,XF,JT,JU,Jl⟩|⟨h1,h2,Xh,XF,JT,JU,Jl⟩|⟨h1,h2,Xh,XF,JT,JU,Jl⟩|⟨h1,h2,Xh,XF,JT,JU,Jl⟩|⟨h1,h2,Xh,XF,JT,JU,Jl⟩|⟨h1,h2,Xh,XF,JT,JU,Jl⟩|⟨h1,h2,Xh,XF,JT,JU,Jl⟩|⟨h1,h2,Xh,XF,JT,JU,Jl⟩|⟨h1,h2,Xh,XF,JT,JU,Jl⟩|⟨h1,h2,Xh,XF,JT,JU,Jl⟩|⟨h1,h2,Xh,XF,JT,JU,Jl⟩|⟨h1,h2,Xh,XF,JT,JU,Jl⟩|⟨h1,h2,Xh,XF,JT,JU,Jl⟩);all_goals rintro⟨⟩;exact fF fn158.h};rintro(⟨h1,h2,Xh,XF,JT,JU,Jl⟩|⟨h1,h2,Xh,XF,JT,JU,Jl⟩|⟨h1,h2,Xh,XF,JT,JU,Jl⟩|⟨h1,h2,Xh,XF,JT,JU,Jl⟩|⟨h1,h2,Xh,XF,JT,JU,Jl⟩|⟨h1,h2,Xh,XF,JT,JU,Jl⟩|⟨h1,h2,Xh,XF,JT,JU,Jl⟩|⟨h1,h2,Xh,XF,JT,JU,Jl⟩);all_goals rintro⟨⟩;exact fF fn158.h
instance(c:UInt8):zl (ug c) (fun r=>O.call 158 [I? (m? R? (c.toNat:Int))] []=some (zD r,[])):=⟨fun r=>HX (r:=r)⟩
instance:xL nJ fun(s,qo) r=>O.loop 108 5 ⟨[(0,qS s),(1,qj qo)],[],0⟩=some (j?,⟨[(0,qS s),(1,qj r)],[],0⟩):=gP nJ.partial_correctness fun _ _⟨_,_⟩=>gW
instance:xL nK fun(s,qo) r=>O.loop 108 7 ⟨[(0,qS s),(1,qj qo)],[],0⟩=some (j?,⟨[(1,qj r)],[],0⟩):=gP nK.partial_correctness fun _ _⟨_,_⟩=>gW
instance:xL nH fun(s,qo) r=>O.loop 108 1 ⟨[(0,qS s),(1,qj qo)],[],0⟩=some (j?,⟨[(0,qS s),(1,qj r)],[],0⟩):=gP nH.partial_correctness fun _ _⟨_,_⟩=>gW
instance:xL nI fun(s,qo) r=>O.loop 108 3 ⟨[(0,qS s),(1,qj qo)],[],0⟩=some (j?,⟨[(1,qj r)],[],0⟩):=gP nI.partial_correctness fun _ _⟨_,_⟩=>gW
instance:xL kB fun(s,i,out) r=>O.loop 109 0 ⟨[(3,vv s),(4,qr 0 out),(5,qj i)],[(0,br out)],1⟩=some (j?,⟨[(4,qr 0 r)],[(0,br r)],1⟩):=gP kB.partial_correctness fun _ _⟨_,_,_⟩=>gW
instance(l):zl (a7 l) (fun r=>O.call 109 [vv l] []=some (vv r,[])):=⟨by unfold a7;exact gW⟩
instance:xL yk fun(u,i,es) r=>O.loop 72 2 ⟨[(14,vv u),(15,qr 1 es),(16,qj i)],[(0,K!),(1,br es)],2⟩=some (j?,⟨[(15,qr 1 r)],[(0,K!),(1,br r)],2⟩):=gP yk.partial_correctness fun _ _⟨_,_,_⟩=>gW
instance:xL hQ fun(s,qo,n,end_) r=>O.loop 212 0 ⟨[(0,qS s),(1,qj qo),(7,qj n),(8,qj end_)],[],0⟩=some (j?,⟨[(0,qS s),(1,qj qo),(7,qj r.1),(8,qj r.2)],[],0⟩):=gP hQ.partial_correctness fun _ _⟨_,_,_,_⟩=>gW
instance(s qo):zl (nk s qo) (fun r=>O.call 212 [qS s,qj qo] []=some (C? [qj r.1,qj r.2.1,zD r.2.2],[])):=⟨by unfold nk;exact gW⟩
instance:xL jh fun(qo,end_,r_,zr,qZ) r=>O.loop 213 0 ⟨[(0,x? 0 0),(1,qj qo),(7,qj end_)],[(0,h? [qS r_,qr 1 zr,qr 2 qZ]),(1,bm zr),(2,bm qZ)],3⟩=some (j?,⟨[(0,x? 0 0),(1,qj qo),(7,qj r)],[(0,h? [qS r_,qr 1 zr,qr 2 qZ]),(1,bm zr),(2,bm qZ)],3⟩):=gP jh.partial_correctness fun _ _⟨_,_,_,_,_⟩=>gW
instance(qo b r_ r_2):zl (gx qo b r_ r_2) (fun r=>O.call 213 [x? 0 0,qj qo] [(0,h? [qS b,qr 1 r_,qr 2 r_2]),(1,bm r_),(2,bm r_2)]=some (C? [qS r.1,qj r.2.1,zD r.2.2],[(0,h? [qS b,qr 1 r_,qr 2 r_2]),(1,bm r_),(2,bm r_2)])):=⟨by unfold gx;exact gW⟩
instance(qo b r_ r_2):zl (yc qo b r_ r_2) (fun r=>O.call 160 [x? 0 0,qj qo] [(0,h? [qS b,qr 1 r_,qr 2 r_2]),(1,bm r_),(2,bm r_2)]=some (C? [vv r.1,qj r.2.1,zD r.2.2],[(0,h? [qS b,qr 1 r_,qr 2 r_2]),(1,bm r_),(2,bm r_2)])):=⟨by unfold yc;exact gW⟩
instance(s qo opt):zl (tO s qo opt) (fun r=>O.call 163 [qS s,qj qo,zD opt] []=some (zD r,[])):=⟨by unfold tO;exact gW⟩
instance:xL zp fun(qo,pM,r_,zr,qZ,l,text) r=>O.loop 111 0 ⟨[(0,x? 0 0),(1,qj qo),(2,zD pM),(8,qr 3 l),(9,qr 4 text)],[(0,h? [qS r_,qr 1 zr,qr 2 qZ]),(1,bm zr),(2,bm qZ),(3,br l),(4,br text)],5⟩=some (j?,⟨[(0,x? 0 0),(1,qj r.1),(2,zD pM),(8,qr 3 r.2.1),(9,qr 4 r.2.2)],[(0,h? [qS r_,qr 1 zr,qr 2 qZ]),(1,bm zr),(2,bm qZ),(3,br r.2.1),(4,br r.2.2)],5⟩):=gP zp.partial_correctness fun _ _⟨_,_,_,_,_,_,_⟩=>gW
instance:zl (aX) (fun r=>O.call 270 [] []=some (vv r,[])):=⟨by unfold aX;exact gW⟩
end Go.Proofs.YtnfdnckadgcifaaGreat
