/-
  What the machine's calls come to: the plain functions.
-/
import Derived.Test.YtadahlbndbmdeaaGreatQag
import Derived.Test.YtadahlbndbmdeaaGreatQah
import Derived.Test.YtadahlbndbmdeaaGreatQai
import Derived.Test.YtadahlbndbmdeaaGreatQaj
import Derived.Test.YtadahlbndbmdeaaGreatQak
import Derived.Test.YtadahlbndbmdeaaGreatQal
import Derived.Test.YtadahlbndbmdeaaGreatQam
import Derived.Test.YtadahlbndbmdeaaGreatQan
import Derived.Test.YtadahlbndbmdeaaGreatQao
import Derived.Test.YtadahlbndbmdeaaGreatQap
import Derived.Test.YtadahlbndbmdeaaGreatQaq
import Derived.Test.YtadahlbndbmdeaaGreatQar
open Go.Gm renaming vv->Y
open Option renaming some->Z
set_option linter.unusedSimpArgs false
set_option linter.unusedVariables false
set_option maxRecDepth 100000
namespace Go.Proofs.YtadahlbndbmdeaaGreat
open Go Go.Gm
set_option maxHeartbeats 4000000
instance(l r_):z7 (r9 l r_) (λr=>O.call 13 [Y l,qq 0 r_] [(0,bm r_)]=Z (Y r,[(0,qD.xA)])):=⟨by unfold r9;exact gW⟩
instance(depth inst stop e typed b):z7 (tA depth inst stop e typed b) (λr=>O.call 51 [AV.ptr 0 0,qh depth,qh inst,qh stop,Y e,zN typed] [(0,bb b)]=Z (AV.xL [],[(0,bb r)])):=⟨by unfold tA;exact gW⟩
instance:xT jz λ(b,c,w,a) r=>O.loop 25 0 ⟨[(0,AV.ptr 0 0),(14,qq 1 a),(15,qh b),(16,qh c)],[(0,bb w),(1,bm a)],2⟩=Z (Ex.normal,⟨[],[(0,bb r),(1,bm a)],2⟩):=gP jz.partial_correctness λ_ _⟨_,_,_,_⟩=>gW
instance(es b):z7 (mJ es b) (λr=>O.call 25 [AV.ptr 0 0,Y es] [(0,bb b)]=Z (AV.xL [],[(0,bb r)])):=⟨by unfold mJ;exact gW⟩
instance(depth inst stop e typed b a r_):z7 (nr depth inst stop e typed b a r_) (λr=>O.call 51 [AV.ptr 0 0,qh depth,qh inst,qh stop,Y e,zN typed] [(0,qD.box [qP b,Y a,qq 1 r_]),(1,br r_)]=Z (AV.xL [],[(0,qD.box [qP r.1,Y r.2,qq 1 r_]),(1,br r_)])):=⟨by unfold nr;exact gW⟩
instance:xT jj λ(c,d,w,w2,a,b) r=>O.loop 25 0 ⟨[(0,AV.ptr 0 0),(14,qq 2 b),(15,qh c),(16,qh d)],[(0,qD.box [qP w,Y w2,qq 1 a]),(1,br a),(2,bm b)],3⟩=Z (Ex.normal,⟨[],[(0,qD.box [qP r.1,Y r.2,qq 1 a]),(1,br a),(2,bm b)],3⟩):=gP jj.partial_correctness λ_ _⟨_,_,_,_,_,_⟩=>gW
instance(es b a r_):z7 (gQ es b a r_) (λr=>O.call 25 [AV.ptr 0 0,Y es] [(0,qD.box [qP b,Y a,qq 1 r_]),(1,br r_)]=Z (AV.xL [],[(0,qD.box [qP r.1,Y r.2,qq 1 r_]),(1,br r_)])):=⟨by unfold gQ;exact gW⟩
instance(st es):z7 (fj st es) (λr=>O.call 11 [Y st,Y es] []=Z (AV.xL [Y r.1,qh r.2],[])):=⟨by unfold fj;exact gW⟩
instance:xT jV λ(q,i,a,out,one) r=>O.loop 3 2 ⟨[(10,AV.ptr 1 0),(12,Y q),(13,qq 2 one),(14,qh i)],[(0,bb a),(1,bb out),(2,bm one)],3⟩=Z (Ex.normal,⟨[(10,AV.ptr 1 0),(12,Y r)],[(0,bb a),(1,bb out),(2,bm one)],3⟩):=gP jV.partial_correctness λ_ _⟨_,_,_,_,_⟩=>gW
instance Xm(os es):z7 (ug os es) (λr=>O.call 3 [Y os,Y es] []=Z (zN r,[])):=⟨by unfold ug;exact gW⟩
end Go.Proofs.YtadahlbndbmdeaaGreat
