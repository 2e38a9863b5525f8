/-
  What the machine's calls come to: the plain functions.
-/
import Derived.Test.YtnfdnckadgcifaaGreatQag
open Go.Gm.AV renaming ptr->x?,undef->Q?,xW->C?,pv->I?
open Go.Gm.Ex renaming normal->j?
open Go.Gm.PV renaming fn->W!
open Go.Proofs.YtnfdnckadgcifaaGreat.qm renaming enc->J_
open List renaming length_set->y?
set_option linter.unusedSimpArgs false
set_option linter.unusedVariables false
set_option maxRecDepth 100000
namespace Go.Proofs.YtnfdnckadgcifaaGreat
open Go Go.Gm
set_option maxHeartbeats 4000000
theorem kI: ∀p r,zh p=some r->r.length=p.2.2.length/\O.loop 141 2 ⟨[(0,qr 0 p.2.2),(10,qj p.1),(13,qj p.2.1)],[(0,bm p.2.2)],1⟩=some (j?,⟨[],[(0,bm r)],1⟩):=by refine zh.partial_correctness _ ?_;rintro zh ih33 ⟨i,k,data⟩ r;dsimp only;apply it<;>intro h1;{(refine bw J_ fun x3 h2 f1 f2 f3=>?_;refine bw J_ fun x5 h4 f4 f5 f6=>?_;refine bw J_ fun x7 h6 f7 f8 f9=>?_;try simp only[en.down,xJ,xE,xG,xF]at f7 f8 f9);(try simp only[y?]at f9);(intro h;obtain⟨VQ,f10⟩:=ih33 _ _ h;clear h;try simp only[en.down,xJ,xE,xG,xF]at f10);clear ih33;exact⟨by first|rfl|(simp only[y?,VQ];done),fL pB.h⟩};rintro⟨⟩;clear ih33;exact⟨by first|rfl|(simp only[y?];done),fL pB.h⟩
instance(p):zl (zh p) (fun r=>r.length=p.2.2.length/\O.loop 141 2 ⟨[(0,qr 0 p.2.2),(10,qj p.1),(13,qj p.2.1)],[(0,bm p.2.2)],1⟩=some (j?,⟨[],[(0,bm r)],1⟩)):=⟨fun r=>kI p r⟩
theorem kJ: ∀p r,zj p=some r->r.length=p.2.2.length/\O.loop 141 6 ⟨[(0,qr 0 p.2.2),(14,qj p.1),(17,qj p.2.1)],[(0,bm p.2.2)],1⟩=some (j?,⟨[],[(0,bm r)],1⟩):=by refine zj.partial_correctness _ ?_;rintro zj ih35 ⟨i,k,data⟩ r;dsimp only;apply it<;>intro h1;{(refine bw J_ fun x3 h2 f1 f2 f3=>?_;refine bw J_ fun x5 h4 f4 f5 f6=>?_;refine bw J_ fun x7 h6 f7 f8 f9=>?_;try simp only[en.down,xJ,xE,xG,xF]at f7 f8 f9);(try simp only[y?]at f9);(intro h;obtain⟨VQ,f10⟩:=ih35 _ _ h;clear h;try simp only[en.down,xJ,xE,xG,xF]at f10);clear ih35;exact⟨by first|rfl|(simp only[y?,VQ];done),fL pB.h⟩};rintro⟨⟩;clear ih35;exact⟨by first|rfl|(simp only[y?];done),fL pB.h⟩
instance(p):zl (zj p) (fun r=>r.length=p.2.2.length/\O.loop 141 6 ⟨[(0,qr 0 p.2.2),(14,qj p.1),(17,qj p.2.1)],[(0,bm p.2.2)],1⟩=some (j?,⟨[],[(0,bm r)],1⟩)):=⟨fun r=>kJ p r⟩
theorem kC: ∀p r,zu p=some r->r.length=p.2.2.2.2.length/\O.loop 253 0 ⟨[(0,qr 0 p.2.2.2.2),(1,qj p.1),(2,qj p.2.1),(3,qj p.2.2.1),(10,qj p.2.2.2.1)],[(0,bm p.2.2.2.2)],1⟩=some (j?,⟨[],[(0,bm r)],1⟩):=by refine zu.partial_correctness _ ?_;rintro zu ih40 ⟨a,b,n,i,data⟩ r;dsimp only;apply it<;>intro h1;{(refine bw J_ fun x3 h2 f1 f2 f3=>?_;refine bw J_ fun x5 h4 f4 f5 f6=>?_;refine bw J_ fun x7 h6 f7 f8 f9=>?_;try simp only[en.down,xJ,xE,xG,xF]at f7 f8 f9);(try simp only[y?]at f9);(intro h;obtain⟨VQ,f10⟩:=ih40 _ _ h;clear h;try simp only[en.down,xJ,xE,xG,xF]at f10);clear ih40;exact⟨by first|rfl|(simp only[y?,VQ];done),fL Oo.h⟩};rintro⟨⟩;clear ih40;exact⟨by first|rfl|(simp only[y?];done),fL Oo.h⟩
instance(p):zl (zu p) (fun r=>r.length=p.2.2.2.2.length/\O.loop 253 0 ⟨[(0,qr 0 p.2.2.2.2),(1,qj p.1),(2,qj p.2.1),(3,qj p.2.2.1),(10,qj p.2.2.2.1)],[(0,bm p.2.2.2.2)],1⟩=some (j?,⟨[],[(0,bm r)],1⟩)):=⟨fun r=>kC p r⟩
theorem xg{a b n r_ r}(h:zy a b n r_=some r):r.length=r_.length/\O.call 253 [qr 0 r_,qj a,qj b,qj n,I? (W! 60)] [(0,bm r_)]=some (C? [],[(0,bm r)]):=by
 revert h;unfold zy;refine bs fun v2 h1=>?_;obtain⟨m9,f1⟩:=kC _ _ h1;try simp only[y?]at m9
 try simp only[en.down,xJ,xE,xG,xF,m9]at f1
 try simp only[m9]at f1
 rintro⟨⟩;exact⟨by first|rfl|(simp only[y?,m9];done),fF Oo.h⟩
instance(a:Int)(b:Int)(n:Int)(r_:(List qm)):zl (zy a b n r_) (fun r=>r.length=r_.length/\O.call 253 [qr 0 r_,qj a,qj b,qj n,I? (W! 60)] [(0,bm r_)]=some (C? [],[(0,bm r)])):=⟨fun r=>xg (r:=r)⟩
theorem w8: ∀p r,zq p=some r->r.2.length=p.2.2.2.length/\O.loop 198 0 ⟨[(0,qr 0 p.2.2.2),(2,qj p.1),(4,I? (W! 60)),(10,qj p.2.1),(11,qj p.2.2.1)],[(0,bm p.2.2.2)],1⟩=some (j?,⟨[(0,qr 0 r.2),(2,qj p.1),(4,I? (W! 60)),(10,qj r.1)],[(0,bm r.2)],1⟩):=by refine zq.partial_correctness _ ?_;rintro zq Lc ⟨m,i,j,data⟩ r;dsimp only;apply it<;>intro h1;{apply it<;>intro h2;{(refine bs fun v4 h3=>?_;obtain⟨m9,f1⟩:=xg h3;try simp only[y?]at m9);(try simp only[en.down,xJ,xE,xG,xF,m9]at f1);(try simp only[m9]at f1);(intro h;obtain⟨QY,f2⟩:=Lc _ _ h;clear h;try simp only[en.down,xJ,xE,xG,xF,m9]at f2);(try simp only[m9]at f2);clear Lc;exact⟨by first|rfl|(simp only[y?,QY,m9];done),fL Sg.h⟩};(refine bs fun v6 h5=>?_;obtain⟨DS,f3⟩:=xg h5;try simp only[y?]at DS);(try simp only[en.down,xJ,xE,xG,xF,DS]at f3);(try simp only[DS]at f3);(intro h;obtain⟨f4L,f4⟩:=Lc _ _ h;clear h;try simp only[en.down,xJ,xE,xG,xF,DS]at f4);(try simp only[DS]at f4);clear Lc;exact⟨by first|rfl|(simp only[y?,f4L,DS];done),fL Sg.h⟩};rintro⟨⟩;clear Lc;exact⟨by first|rfl|(simp only[y?];done),fL Sg.h⟩
instance(p):zl (zq p) (fun r=>r.2.length=p.2.2.2.length/\O.loop 198 0 ⟨[(0,qr 0 p.2.2.2),(2,qj p.1),(4,I? (W! 60)),(10,qj p.2.1),(11,qj p.2.2.1)],[(0,bm p.2.2.2)],1⟩=some (j?,⟨[(0,qr 0 r.2),(2,qj p.1),(4,I? (W! 60)),(10,qj r.1)],[(0,bm r.2)],1⟩)):=⟨fun r=>w8 p r⟩
theorem jC{a m b r_ r}(h:xb a m b r_=some r):r.length=r_.length/\O.call 198 [qr 0 r_,qj a,qj m,qj b,I? (W! 60)] [(0,bm r_)]=some (C? [],[(0,bm r)]):=by
 revert h;unfold xb;refine bs fun v2 h1=>?_;obtain⟨m9,f1⟩:=w8 _ _ h1;try simp only[y?]at m9
 try simp only[en.down,xJ,xE,xG,xF,m9]at f1
 refine bs fun v4 h3=>?_;obtain⟨QY,f2⟩:=xg h3;try simp only[y?,m9]at QY
 try simp only[en.down,xJ,xE,xG,xF,m9,QY]at f2
 try simp only[m9,QY]at f1 f2
 rintro⟨⟩;exact⟨by first|rfl|(simp only[y?,m9,QY];done),fF Sg.h⟩
instance(a:Int)(m:Int)(b:Int)(r_:(List qm)):zl (xb a m b r_) (fun r=>r.length=r_.length/\O.call 198 [qr 0 r_,qj a,qj m,qj b,I? (W! 60)] [(0,bm r_)]=some (C? [],[(0,bm r)])):=⟨fun r=>jC (r:=r)⟩
@[go_sem] def tu:((Bool)⊕(Unit))->Ex×St
 | .inl y=>(Ex.ret,⟨[(4,zD y)],[],0⟩)
 | .inr y=>(j?,⟨[(4,Q?)],[],0⟩)
instance:xL jP fun(s1,s2,MH,t13) r=>O.loop 15 0 ⟨[(0,vv s1),(1,vv s2),(12,qj MH),(13,qj t13)],[],0⟩=some (tu r):=gP jP.partial_correctness fun _ _⟨_,_,_,_⟩=>gW
instance(s1 s2):zl (gD s1 s2) (fun r=>O.call 15 [vv s1,vv s2] []=some (zD r,[])):=⟨by unfold gD;exact gW⟩
instance(a b):zl (bS a b) (fun r=>O.call 36 [vv a,vv b] []=some (zD r,[])):=⟨by unfold bS;exact gW⟩
instance(y b):zl (cm y b) (fun r=>O.call 38 [vv y,x? 0 0] [(0,bb b)]=some (zD r,[(0,bb b)])):=⟨by unfold cm;exact gW⟩
@[go_sem] def w7 (f:qk):((Int)⊕(Unit))->Ex×St
 | .inl y=>(Ex.ret,⟨[(4,qj y)],[(0,bb f)],1⟩)
 | .inr y=>(j?,⟨[(4,Q?)],[(0,bb f)],1⟩)
instance:xL zs fun(s,t7,t8,f) r=>O.loop 65 0 ⟨[(0,vv s),(1,AV.Q3 38 [] [x? 0 0]),(7,qj t7),(8,qj t8)],[(0,bb f)],1⟩=some (w7 f r):=gP zs.partial_correctness fun _ _⟨_,_,_,_⟩=>gW
instance(s b):zl (j8 s b) (fun r=>O.call 65 [vv s,AV.Q3 38 [] [x? 0 0]] [(0,bb b)]=some (qj r,[(0,bb b)])):=⟨by unfold j8;exact gW⟩
instance(s b):zl (xK s b) (fun r=>O.call 37 [vv s,AV.Q3 38 [] [x? 0 0]] [(0,bb b)]=some (zD r,[(0,bb b)])):=⟨by unfold xK;exact gW⟩
instance(x yB):zl (cD x yB) (fun r=>O.call 17 [vv x,vv yB] []=some (zD r,[])):=⟨by unfold cD;exact gW⟩
end Go.Proofs.YtnfdnckadgcifaaGreat
