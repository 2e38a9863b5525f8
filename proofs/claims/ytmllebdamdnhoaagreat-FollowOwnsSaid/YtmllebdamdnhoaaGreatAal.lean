/-
  A session behind an edit: all that is kept.
-/
import Derived.Test.YtmllebdamdnhoaaGreatAad
import Derived.Test.YtmllebdamdnhoaaGreatAae
import Derived.Test.YtmllebdamdnhoaaGreatAaf
set_option linter.unusedSimpArgs false
set_option linter.unusedVariables false
set_option maxRecDepth 100000
namespace Go.Proofs.YtmllebdamdnhoaaGreat
open Go Go.Gm
theorem TW(n:Nat):jO Tryz.prog 24 ql.enc (fun _=>True) n:=by
 have h:=jO.struct (P:=Tryz.prog) (t:=24) (c:=2) (n:=n) Tryz.underlying24 (by kernel_rfl) (fun _=>by simp[Qx,YH,ql.qN,zX])
  (fP (c:=1) rfl (by kernel_rfl) (l4 (jO.int (P:=Tryz.prog) (t:=3) Tryz.underlying3 (by kernel_rfl) n)) (fP (c:=1) rfl (by kernel_rfl) (l4 (jO.int (P:=Tryz.prog) (t:=3) Tryz.underlying3 (by kernel_rfl) n)) (fNil n _)))
 exact(h.map (fun x=>ql.mk x.1 x.2.1) (fun _ _=>⟨trivial,by simp[Qx,YH,ql.qN,zX]⟩)).mono (Nat.le_succ n)
theorem TV(n:Nat):jO Tryz.prog 43 qo.enc (fun _=>True) n:=by
 have h:=jO.struct (P:=Tryz.prog) (t:=43) (c:=3) (n:=n) Tryz.underlying43 (by kernel_rfl) (fun _=>by simp[Qx,YH,qo.qN,ql.qN,dF])
  (fP (c:=2) rfl (by kernel_rfl) (TW n) (fP (c:=1) rfl (by kernel_rfl) (l4 (jO.str (P:=Tryz.prog) (t:=9) Tryz.underlying9 (by kernel_rfl) n)) (fNil n _)))
 exact(h.map (fun x=>qo.mk x.1 x.2.1) (fun _ _=>⟨trivial,by simp[Qx,YH,qo.qN,ql.qN,dF]⟩)).mono (Nat.le_succ n)
theorem rd_Sel(n:Nat):jO Tryz.prog 87 qx.enc (fun _=>True) n:=by
 have h:=jO.struct (P:=Tryz.prog) (t:=87) (c:=2) (n:=n) Tryz.underlying87 (by kernel_rfl) (fun _=>by simp[Qx,YH,qx.qN,zX])
  (fP (c:=1) rfl (by kernel_rfl) (l4 (jO.int (P:=Tryz.prog) (t:=3) Tryz.underlying3 (by kernel_rfl) n)) (fP (c:=1) rfl (by kernel_rfl) (l4 (jO.int (P:=Tryz.prog) (t:=3) Tryz.underlying3 (by kernel_rfl) n)) (fNil n _)))
 exact(h.map (fun x=>qx.mk x.1 x.2.1) (fun _ _=>⟨trivial,by simp[Qx,YH,qx.qN,zX]⟩)).mono (Nat.le_succ n)
theorem rd_Op(n:Nat):jO Tryz.prog 47 gy.enc (fun _=>True) n:=by
 have h:=jO.struct (P:=Tryz.prog) (t:=47) (c:=7) (n:=n) Tryz.underlying47 (by kernel_rfl) (fun _=>by simp[Qx,YH,qo.qN,gy.qN,qx.qN,Hy,zX,ng,dF])
  (fP (c:=1) rfl (by kernel_rfl) (l4 (jO.int (P:=Tryz.prog) (t:=3) Tryz.underlying3 (by kernel_rfl) n)) (fP (c:=1) rfl (by kernel_rfl) (l4 (jO.str (P:=Tryz.prog) (t:=9) Tryz.underlying9 (by kernel_rfl) n)) (fP (c:=1) rfl (by kernel_rfl) (l4 (jO.str (P:=Tryz.prog) (t:=9) Tryz.underlying9 (by kernel_rfl) n)) (fP (c:=1) rfl (by kernel_rfl) (l4 (jO.int (P:=Tryz.prog) (t:=3) Tryz.underlying3 (by kernel_rfl) n)) (fP (c:=1) rfl (by kernel_rfl) (l4 (jO.bool (P:=Tryz.prog) (t:=4) Tryz.underlying4 (by kernel_rfl) n)) (fP (c:=1) rfl (by kernel_rfl) (rdSl (P:=Tryz.prog) (t:=25) (el:=43) (sz:=3) Tryz.underlying25 (by kernel_rfl) (by kernel_rfl) (by omega) (TV n)) (fP (c:=1) rfl (by kernel_rfl) (rdSl (P:=Tryz.prog) (t:=29) (el:=87) (sz:=2) Tryz.underlying29 (by kernel_rfl) (by kernel_rfl) (by omega) (rd_Sel n)) (fNil n _))))))))
 exact(h.map (fun x=>gy.mk x.1 x.2.1 x.2.2.1 x.2.2.2.1 x.2.2.2.2.1 x.2.2.2.2.2.1 x.2.2.2.2.2.2.1) (fun _ _=>⟨trivial,by simp[Qx,YH,qo.qN,gy.qN,qx.qN,Hy,zX,ng,dF]⟩)).mono (Nat.le_succ n)
theorem rdv22:cx Tryz.prog 22 (fun x:(Sl gy)=>PV.sl x.nil (zC 7 x.l) (List.map gy.enc x.l)) (fun _=>True):=cx.one Tryz.underlying22 rfl (fun n=>(rdSl (P:=Tryz.prog) (t:=22) (el:=47) (sz:=7) Tryz.underlying22 (by kernel_rfl) (by kernel_rfl) (by omega) (rd_Op n)))
theorem rdv24:cx Tryz.prog 24 (fun x=> .agg (ql.enc x)) (fun _=>True):=cx.struct Tryz.underlying24 TW
theorem rdv25:cx Tryz.prog 25 (fun x:(Sl qo)=>PV.sl x.nil (zC 3 x.l) (List.map qo.enc x.l)) (fun _=>True):=cx.one Tryz.underlying25 rfl (fun n=>(rdSl (P:=Tryz.prog) (t:=25) (el:=43) (sz:=3) Tryz.underlying25 (by kernel_rfl) (by kernel_rfl) (by omega) (TV n)))
end Go.Proofs.YtmllebdamdnhoaaGreat
set_option maxRecDepth 512
namespace Go.Proofs.YtmllebdamdnhoaaGreat
namespace Xr
structure Row (m:Nat) (F T U:Nat->Int) (n:Int):Prop where
 QN: ∀r,r<m->0<=F r/\F r<=T r/\T r<=n
 up: ∀r,r<m-> -1<=U r/\U r<r
 nest: ∀r,r<m-> ∀p:Nat,U r=p->F p<=F r/\T r<=T p
 N1: ∀r,r<m-> ∀q,q<r->U q=U r->T q<=F r
 pre: ∀r,r<m-> ∀q:Nat,q<r->U r<q->U r<=U q
structure N5 (m:Nat) (F T U:Nat->Int) (H:Nat->Prop) (a b:Int):Prop where
 up: ∀r,r<m->H r-> ∀p:Nat,U r=p->H p
 has: ∀r,r<m->H r->F r<=a/\b<=T r
 one: ∀r,r<m-> ∀q,q<r->U q=U r->H q-> ¬H r
structure Side (m:Nat) (F T U:Nat->Int) (H:Nat->Prop) (a b:Int) (last:Int) (s:Nat->Int):Prop where
 holds: ∀r,r<m->H r->s r=0
 gone: ∀r,r<m-> ¬H r-> ∀p:Nat,U r=p->s p=1->s r=1
 cut: ∀r,r<m-> ¬H r->(∀ p:Nat,U r=p->s p≠1)->F r<b->a<T r->s r=1
 Xp: ∀r,r<m-> ¬H r->(∀ p:Nat,U r=p->s p≠1)-> ¬(F r<b/\a<T r)-> ∀p:Nat,U r=p-> ¬H p->s r=s p
 left: ∀r,r<m-> ¬H r->(∀ p:Nat,U r=p->s p≠1/\H p)-> ¬(F r<b/\a<T r)->(T r<a\/T r=a/\(F r<T r\/(r:Int)<last\/last<0))->s r=2
 right: ∀r,r<m-> ¬H r->(∀ p:Nat,U r=p->s p≠1/\H p)-> ¬(F r<b/\a<T r)-> ¬(T r<a\/T r=a/\(F r<T r\/(r:Int)<last\/last<0))->s r=3
 last1: ∀r,r<m->H r->(r:Int)<=last
 last2:0<=last-> ∃r:Nat,last=r/\r<m/\H r
 lastm: -1<=last
def mv(a b c:Int)(right:Bool)(p:Int):Int:=if p<a then p else if p>b then p+(c-(b-a))else if right then a+c else a
theorem Qs{a b c:Int}(eM:a<=b)(hc:0<=c)(right:Bool){p q:Int}(h:p<=q):mv a b c right p<=mv a b c right q:=by
 unfold mv
 repeat' split
 all_goals omega
section
variable {m:Nat} {F T U:Nat->Int} {n:Int} {H:Nat->Prop} {a b c:Int} {last:Int} {s:Nat->Int}
variable (hR:Row m F T U n) (hH:N5 m F T U H a b) (hS:Side m F T U H a b last s) (ha:0<=a) (eM:a<=b) (hb:b<=n) (hc:0<=c)
theorem hold_up(hR:Row m F T U n)(hH:N5 m F T U H a b){u:Int}{x:Nat}(hx:x<m)(hxu:U x=u): ∀q:Nat,u<q->q<x->H q-> ∃p:Nat,u<p/\p<=q/\H p/\U p=u:=by
 intro q;induction q using Nat.strongRecOn with
 |_ q ih=>
 intro h1 h2 h3;have h4:=hR.pre x hx q h2 (by omega);have h5:=hR.up q (by omega);by_cases e:U q=u
 ·exact⟨q,h1,Nat.le_refl _,h3,e⟩
 obtain⟨p,hp⟩: ∃p:Nat,U q=p:=⟨(U q).toNat,by have:=hR.up x hx;omega⟩;obtain⟨p',g1,g2,g3,g4⟩:=ih p (by omega) (by omega) (by omega) (hH.up q (by omega) h3 p hp);exact⟨p',g1,by omega,g3,g4⟩
theorem M3(hR:Row m F T U n)(hH:N5 m F T U H a b){q:Nat}(hq:H q): ∀x:Nat,x<m->H x->q<x-> ∀y:Nat,q<y->y<=x->(q:Int)<=U y:=by
 intro x;induction x using Nat.strongRecOn with
 |_ x ih=>
 intro hx hHx hqx y h1 h2;have C0:=hR.up x hx;by_cases e:(q:Int)<=U x
 ·by_cases ey:y=x
  ·subst ey;exact e
  by_cases e2:U x<y
  ·have:=hR.pre x hx y (by omega) e2;omega
  obtain⟨p,hp⟩: ∃p:Nat,U x=p:=⟨(U x).toNat,by omega⟩;exact ih p (by omega) (by omega) (hH.up x hx hHx p hp) (by omega) y h1 (by omega)
 exfalso;obtain⟨p,g1,g2,g3,g4⟩:=hold_up hR hH hx rfl q (by omega) hqx hq;exact hH.one x hx p (by omega) g4 g3 hHx
theorem SV(hR:Row m F T U n)(hH:N5 m F T U H a b){q r:Nat}(hr:r<m)(hqr:q<r)(hu:U q=U r)(hq:H q){x:Nat}(hx:x<m)(hHx:H x):x<r:=by
 by_cases e:x<r
 ·exact e
 exfalso;have h1:=M3 hR hH hq x hx hHx (by omega) r hqr (by omega);have h2:=hR.up q (by omega);omega
include hR hS in
theorem nG{r:Nat}(hr:r<m):(H r/\s r=0)\/(¬ H r/\s r=1)\/(¬ H r/\s r=2)\/(¬ H r/\s r=3):=by
 induction r using Nat.strongRecOn with
 |_ r ih=>
 by_cases h:H r
 ·exact .inl ⟨h,hS.holds r hr h⟩
 right;have hu:=hR.up r hr;by_cases hp:0<=U r
 ·obtain⟨p,hp⟩: ∃p:Nat,U r=p:=⟨(U r).toNat,by omega⟩;have Z7: ∀p' :Nat,U r=p' ->p' =p:=fun p' h=>by omega
  have hih:=ih p (by omega) (by omega);by_cases g:s p=1
  ·exact .inl ⟨h,hS.gone r hr h p hp g⟩
  have g' : ∀p' :Nat,U r=p' ->s p' ≠1:=fun p' e=>by rw[Z7 p' e];exact g
  by_cases k:F r<b/\a<T r
  ·exact .inl ⟨h,hS.cut r hr h g' k.1 k.2⟩
  by_cases w:H p
  ·have g2: ∀p' :Nat,U r=p' ->s p' ≠1/\H p' :=fun p' e=>by rw[Z7 p' e];exact⟨g,w⟩
   by_cases z:T r<a\/T r=a/\(F r<T r\/(r:Int)<last\/last<0)
   ·exact .inr (.inl ⟨h,hS.left r hr h g2 k z⟩)
   exact .inr (.inr ⟨h,hS.right r hr h g2 k z⟩)
  have e:=hS.Xp r hr h g' k p hp w;rcases hih with ⟨x,_⟩|⟨_,x⟩|⟨_,x⟩|⟨_,x⟩
  ·exact absurd x w
  ·exact absurd x g
  ·exact .inr (.inl ⟨h,e.trans x⟩)
  exact .inr (.inr ⟨h,e.trans x⟩)
 have g2: ∀p' :Nat,U r=p' ->s p' ≠1/\H p' :=fun p' e=>by omega
 by_cases k:F r<b/\a<T r
 ·exact .inl ⟨h,hS.cut r hr h (fun p' e=>(g2 p' e).1) k.1 k.2⟩
 by_cases z:T r<a\/T r=a/\(F r<T r\/(r:Int)<last\/last<0)
 ·exact .inr (.inl ⟨h,hS.left r hr h g2 k z⟩)
 exact .inr (.inr ⟨h,hS.right r hr h g2 k z⟩)
include hR hH hS in
theorem cz{r:Nat}(hr:r<m)(h:s r≠1){p:Nat}(hp:U r=p):s p≠1:=by
 intro g;by_cases k:H r
 ·have hu:=hR.up r hr;have:=hS.holds p (by omega) (hH.up r hr k p hp);omega
 exact h (hS.gone r hr k p hp g)
include hR hH hS in
theorem XK{r:Nat}(hr:r<m)(h:s r=2):T r<=a:=by
 induction r using Nat.strongRecOn with
 |_ r ih=>
 have hu:=hR.up r hr;have hn: ¬H r:=fun k=>by have:=hS.holds r hr k;omega
 have WV:=fun p(hp:U r=((p:Nat):Int))=>cz hR hH hS hr (by omega) hp;by_cases k:F r<b/\a<T r
 ·have:=hS.cut r hr hn WV k.1 k.2;omega
 by_cases w: ∃p:Nat,U r=p/\ ¬H p
 ·obtain⟨p,hp,w⟩:=w;have e:=hS.Xp r hr hn WV k p hp w;have:=ih p (by omega) (by omega) (by omega);have:=hR.nest r hr p hp;omega
 have g2: ∀p' :Nat,U r=p' ->s p' ≠1/\H p' :=fun p' e=>⟨WV p' e,Classical.byContradiction fun c=>w ⟨p',e,c⟩⟩;by_cases z:T r<a\/T r=a/\(F r<T r\/(r:Int)<last\/last<0)
 ·omega
 have:=hS.right r hr hn g2 k z;omega
include hR hH hS in
theorem eD{r:Nat}(hr:r<m)(h:s r=3):b<=F r\/(F r=a/\T r=a):=by
 induction r using Nat.strongRecOn with
 |_ r ih=>
 have hu:=hR.up r hr;have hg:=hR.QN r hr;have hn: ¬H r:=fun k=>by have:=hS.holds r hr k;omega
 have WV:=fun p(hp:U r=((p:Nat):Int))=>cz hR hH hS hr (by omega) hp;by_cases k:F r<b/\a<T r
 ·have:=hS.cut r hr hn WV k.1 k.2;omega
 by_cases w: ∃p:Nat,U r=p/\ ¬H p
 ·obtain⟨p,hp,w⟩:=w;have e:=hS.Xp r hr hn WV k p hp w;have:=ih p (by omega) (by omega) (by omega);have:=hR.nest r hr p hp;omega
 have g2: ∀p' :Nat,U r=p' ->s p' ≠1/\H p' :=fun p' e=>⟨WV p' e,Classical.byContradiction fun c=>w ⟨p',e,c⟩⟩;by_cases z:T r<a\/T r=a/\(F r<T r\/(r:Int)<last\/last<0)
 ·have:=hS.left r hr hn g2 k z;omega
 omega
def Tc(a b c:Int)(F:Nat->Int)(s:Nat->Int)(r:Nat):Int:=if s r=0 then F r else mv a b c (decide (s r=3)) (F r)
def RQ(a b c:Int)(T:Nat->Int)(s:Nat->Int)(r:Nat):Int:=if s r=0 then T r+(c-(b-a))else mv a b c (decide (s r=3)) (T r)
include hR hH hS ha eM hb hc in
theorem VK{r:Nat}(hr:r<m)(h:s r≠1):0<=Tc a b c F s r/\Tc a b c F s r<=RQ a b c T s r/\RQ a b c T s r<=n+(c-(b-a)):=by
 have hg:=hR.QN r hr;unfold Tc RQ;rcases nG hR hS hr with ⟨k,e⟩|⟨k,e⟩|⟨k,e⟩|⟨k,e⟩
 ·have:=hH.has r hr k;simp only[e,if_true];omega
 ·exact absurd e h
 ·have:=XK hR hH hS hr e;simp only[e];simp only[mv];simp
  repeat' split
  all_goals omega
 have:=eD hR hH hS hr e;simp only[e];simp only[mv];simp
 repeat' split
 all_goals omega
include hR hH hS eM hc in
theorem Km{r:Nat}(hr:r<m)(h:s r≠1){p:Nat}(hp:U r=p):Tc a b c F s p<=Tc a b c F s r/\RQ a b c T s r<=RQ a b c T s p:=by
 have hu:=hR.up r hr;have hpm:p<m:=by omega
 have hg:=hR.QN r hr;have hgp:=hR.QN p hpm;have hn:=hR.nest r hr p hp;have WV:=cz hR hH hS hr h hp;by_cases w:H p
 ·have h0:=hS.holds p hpm w;have hw:=hH.has p hpm w;unfold Tc RQ;rcases nG hR hS hr with ⟨k,e⟩|⟨k,e⟩|⟨k,e⟩|⟨k,e⟩
  ·simp only[e,h0,if_true];omega
  ·exact absurd e h
  ·have:=XK hR hH hS hr e;simp only[e,h0,mv];simp
   repeat' split
   all_goals omega
  have:=eD hR hH hS hr e;simp only[e,h0,mv];simp
  repeat' split
  all_goals omega
 have hnr: ¬H r:=fun k=>w (hH.up r hr k p hp);have hal' : ∀p' :Nat,U r=p' ->s p' ≠1:=fun p' e=>by rw[show p' =p by omega];exact WV
 have hk: ¬(F r<b/\a<T r):=fun k=>h (hS.cut r hr hnr hal' k.1 k.2);have e:=hS.Xp r hr hnr hal' hk p hp w;have h0:s p≠0:=by
  rcases nG hR hS hpm with ⟨k,_⟩|⟨_,x⟩|⟨_,x⟩|⟨_,x⟩
  ·exact absurd k w
  all_goals omega
 unfold Tc RQ;rw[e,if_neg h0,if_neg h0,if_neg h0,if_neg h0];exact⟨Qs eM hc _ hn.1,Qs eM hc _ hn.2⟩
include hR hH hS eM hc in
theorem VL{r:Nat}(hr:r<m)(h:s r≠1){q:Nat}(hqr:q<r)(hq:s q≠1)(hu:U q=U r):RQ a b c T s q<=Tc a b c F s r:=by
 have Ef:q<m:=by omega
 have hg:=hR.QN r hr;have hgq:=hR.QN q Ef;have hn:=hR.N1 r hr q hqr hu;have halr:=fun p(hp:U r=((p:Nat):Int))=>cz hR hH hS hr h hp;have halq:=fun p(hp:U q=((p:Nat):Int))=>cz hR hH hS Ef hq hp;have hkr: ¬H r-> ¬(F r<b/\a<T r):=fun x k=>h (hS.cut r hr x halr k.1 k.2);have hkq: ¬H q-> ¬(F q<b/\a<T q):=fun x k=>hq (hS.cut q Ef x halq k.1 k.2);by_cases w: ∃p:Nat,U r=p/\ ¬H p
 ·obtain⟨p,hp,w⟩:=w;have Xm:=hR.up r hr;have hnr: ¬H r:=fun k=>w (hH.up r hr k p hp);have hnq: ¬H q:=fun k=>w (hH.up q Ef k p (by omega));have e1:=hS.Xp r hr hnr halr (hkr hnr) p hp w;have e2:=hS.Xp q Ef hnq halq (hkq hnq) p (by omega) w;have h0:s p≠0:=by
   rcases nG hR hS (show p<m by omega)with ⟨k,_⟩|⟨_,x⟩|⟨_,x⟩|⟨_,x⟩
   ·exact absurd k w
   all_goals omega
  unfold Tc RQ;rw[e1,e2,if_neg h0,if_neg h0];exact Qs eM hc _ hn
 have hwr: ∀p' :Nat,U r=p' ->s p' ≠1/\H p' :=fun p' e=>⟨halr p' e,Classical.byContradiction fun c=>w ⟨p',e,c⟩⟩;have hwq: ∀p' :Nat,U q=p' ->s p' ≠1/\H p' :=fun p' e=>hwr p' (by omega);unfold Tc RQ;rcases nG hR hS Ef with ⟨k,e⟩|⟨k,e⟩|⟨k,e⟩|⟨k,e⟩
 ·
  have hnr: ¬H r:=hH.one r hr q hqr hu k;have hq2:=hH.has q Ef k;have hql:=hS.last1 q Ef k;obtain⟨x,C2,Er,hx3⟩:=hS.last2 (by omega);have hlr:=SV hR hH hr hqr hu k Er hx3;have h3:s r=3:=hS.right r hr hnr hwr (hkr hnr) (by omega);simp only[e,h3,mv];simp
  repeat' split
  all_goals omega
 ·exact absurd e hq
 ·
  have hl:=XK hR hH hS Ef e;rcases nG hR hS hr with ⟨k2,e2⟩|⟨k2,e2⟩|⟨k2,e2⟩|⟨k2,e2⟩
  ·simp only[e,e2,mv];simp
   repeat' split
   all_goals omega
  ·exact absurd e2 h
  ·simp only[e,e2];simp;exact Qs eM hc _ hn
  have:=eD hR hH hS hr e2;simp only[e,e2,mv];simp
  repeat' split
  all_goals omega
 
 have hrq:=eD hR hH hS Ef e;have hz: ¬(T q<a\/T q=a/\(F q<T q\/(q:Int)<last\/last<0)):=fun z=>by
  have:=hS.left q Ef k hwq (hkq k) z;omega
 rcases nG hR hS hr with ⟨k2,e2⟩|⟨k2,e2⟩|⟨k2,e2⟩|⟨k2,e2⟩
 ·have h1:=hS.last1 r hr k2;have h2:=hH.has r hr k2;omega
 ·exact absurd e2 h
 ·have hl:=XK hR hH hS hr e2;by_cases z:T r<a\/T r=a/\(F r<T r\/(r:Int)<last\/last<0)
  ·omega
  have:=hS.right r hr k2 hwr (hkr k2) z;omega
 simp only[e,e2];simp;exact Qs eM hc _ hn
end
end Xr
end Go.Proofs.YtmllebdamdnhoaaGreat
namespace Go.Proofs.YtmllebdamdnhoaaGreat
open Go Go.Gm
namespace Xr
structure VS (i:qw) (n:Int):Prop where
 QN:0<=i.span.qO/\i.span.qO<=i.span.to/\i.span.to<=n
 up: ∀(k:Nat)(x:qu),i.stops.l[k]? =some x-> -1<=x.up/\x.up<(k:Nat)
 le: ∀(k:Nat)(x:qu),i.stops.l[k]? =some x->x.span.qO<=x.span.to
 top: ∀(k:Nat)(x:qu),i.stops.l[k]? =some x->x.up= -1->i.span.qO<=x.span.qO/\x.span.to<=i.span.to
 nest: ∀(k:Nat)(x:qu),i.stops.l[k]? =some x-> ∀(p:Nat)(y:qu),x.up=p->i.stops.l[p]? =some y->y.span.qO<=x.span.qO/\x.span.to<=y.span.to
 N1: ∀(k:Nat)(x:qu),i.stops.l[k]? =some x-> ∀(j:Nat)(y:qu),j<k->i.stops.l[j]? =some y->y.up=x.up->y.span.to<=x.span.qO
 pre: ∀(k:Nat)(x:qu),i.stops.l[k]? =some x-> ∀(q:Nat)(y:qu),q<k->x.up<q->i.stops.l[q]? =some y->x.up<=y.up
theorem VS.inside{i:qw}{n:Int}(h:VS i n): ∀(k:Nat)(x:qu),i.stops.l[k]? =some x->i.span.qO<=x.span.qO/\x.span.to<=i.span.to:=by
 intro k;induction k using Nat.strongRecOn with
 |_ k ih=>
 intro x hx;have hu:=h.up k x hx;by_cases e:x.up= -1
 ·exact h.top k x hx e
 obtain⟨p,hp⟩: ∃p:Nat,x.up=p:=⟨x.up.toNat,by omega⟩;have hk:=(qF hx).1;have hy:i.stops.l[p]? =some i.stops.l[p]:=kU (by omega);have h1:=h.nest k x hx p _ hp hy;have h2:=ih p (by omega) _ hy;omega
structure cw (is:List qw) (n:Int):Prop where
 may: ∀(a:Nat)(i:qw),is[a]? =some i->VS i n
 D3: ∀(a b:Nat)(i j:qw),a<b->is[a]? =some i->is[b]? =some j->i.span.to<=j.span.qO
theorem cw.tail{i:qw}{is:List qw}{n:Int}(h:cw (i::is) n):cw is n:=
 ⟨fun a j hj=>h.may (a+1) j (by simpa using hj),fun a b j k eM hj hk=>h.D3 (a+1) (b+1) j k (by omega) (by simpa using hj) (by simpa using hk)⟩
abbrev oD:=Int×Int×Int
def sW(b:Nat)(i:qw):List oD:=(i.span.qO,i.span.to,-1)::i.stops.l.map (fun x=>(x.span.qO,x.span.to,b+1+x.up))
def bp(b:Nat):List qw->List oD
 |[]=>[]
 |i::is=>sW b i++bp (b+1+i.stops.l.length) is
theorem aO(b:Nat)(i:qw):(sW b i).length=1+i.stops.l.length:=by simp[sW];omega
structure RowB (b:Nat) (l:List oD) (lo n:Int):Prop where
 QN: ∀(r:Nat)(x:oD),l[r]? =some x->0<=x.1/\x.1<=x.2.1/\x.2.1<=n
 lo: ∀(r:Nat)(x:oD),l[r]? =some x->x.2.2= -1->lo<=x.1
 up: ∀(r:Nat)(x:oD),l[r]? =some x->x.2.2= -1\/(b:Int)<=x.2.2/\x.2.2<b+r
 nest: ∀(r:Nat)(x:oD),l[r]? =some x-> ∀(p:Nat)(y:oD),x.2.2=b+p->l[p]? =some y->y.1<=x.1/\x.2.1<=y.2.1
 N1: ∀(r:Nat)(x:oD),l[r]? =some x-> ∀(q:Nat)(y:oD),q<r->l[q]? =some y->y.2.2=x.2.2->y.2.1<=x.1
 pre: ∀(r:Nat)(x:oD),l[r]? =some x-> ∀(q:Nat)(y:oD),q<r->x.2.2<b+q->l[q]? =some y->x.2.2<=y.2.2
theorem nE{b:Nat}{i:qw}{r:Nat}{x:oD}(h:(sW b i)[r]? =some x):(r=0/\x=(i.span.qO,i.span.to,-1))\/ ∃k s,r=k+1/\i.stops.l[k]? =some s/\x=(s.span.qO,s.span.to,b+1+s.up):=by
 cases r with
 |zero=>left;simpa[sW,eq_comm]using h
 |succ k=>
  right;simp only[sW,List.getElem?_cons_succ,List.getElem?_map,yi]at h;obtain⟨s,h1,h2⟩:=h;exact⟨k,s,rfl,h1,h2.symm⟩
theorem rowS_ok(n:Int): ∀(is:List qw)(b:Nat)(lo:Int),cw is n->(∀(a:Nat)(i:qw),is[a]? =some i->lo<=i.span.qO)->RowB b (bp b is) lo n:=by
 intro is;induction is with
 |nil=>intro b lo _ _;constructor<;>intro r x h<;>simp[bp]at h
 |cons i is ih=>
  intro b lo h hlo;have hm:=h.may 0 i rfl;have hi:=ih (b+1+i.stops.l.length) i.span.to h.tail (fun a j hj=>h.D3 0 (a+1) i j (by omega) rfl (by simpa using hj));have hlo0:=hlo 0 i rfl;have hir:=hm.QN;have hL:=aO b i;have split: ∀(r:Nat)(x:oD),(bp b (i::is))[r]? =some x->(r<1+i.stops.l.length/\(sW b i)[r]? =some x)\/ ∃q,r=1+i.stops.l.length+q/\(bp (b+1+i.stops.l.length) is)[q]? =some x:=by
   intro r x hx;rw[bp]at hx;by_cases hr:r<1+i.stops.l.length
   ·rw[List.getElem?_append_left (by omega)]at hx;exact .inl ⟨hr,hx⟩
   rw[List.getElem?_append_right (by omega),hL]at hx;exact .inr ⟨r-(1+i.stops.l.length),by omega,hx⟩
  have kin: ∀(k:Nat)(s:qu),i.stops.l[k]? =some s->k<i.stops.l.length:=fun k s hs=>(qF hs).1;refine⟨?_, ?_, ?_, ?_, ?_, ?_⟩
  ·intro r x hx;rcases split r x hx with ⟨_,hx⟩|⟨q,_,hx⟩
   ·rcases nE hx with ⟨_,rfl⟩|⟨k,s,_,hs,rfl⟩
    ·exact hir
    have:=hm.inside k s hs;have:=hm.le k s hs;simp only;omega
   exact hi.QN q x hx
  ·intro r x hx hu;rcases split r x hx with ⟨_,hx⟩|⟨q,_,hx⟩
   ·rcases nE hx with ⟨_,rfl⟩|⟨k,s,_,hs,rfl⟩
    ·exact hlo0
    have:=hm.inside k s hs;simp only;omega
   have:=hi.lo q x hx hu;omega
  ·intro r x hx;rcases split r x hx with ⟨hr,hx⟩|⟨q,hr,hx⟩
   ·rcases nE hx with ⟨_,rfl⟩|⟨k,s,hk,hs,rfl⟩
    ·exact .inl rfl
    have:=hm.up k s hs;right;simp only;omega
   rcases hi.up q x hx with e|e
   ·exact .inl e
   right;omega
  ·intro r x hx p y hp hy;rcases split r x hx with ⟨hr,hx⟩|⟨q,hr,hx⟩
   ·rcases nE hx with ⟨_,rfl⟩|⟨k,s,hk,hs,rfl⟩
    ·simp only at hp;omega
    have hu:=hm.up k s hs;have mE:=kin k s hs;simp only at hp |-;rcases split p y hy with ⟨_,hy⟩|⟨q',Ee,hy⟩
    ·rcases nE hy with ⟨_,rfl⟩|⟨k',s',QM,eN,rfl⟩
     ·exact hm.inside k s hs
     exact hm.nest k s hs k' s' (by omega) eN
    omega
   have hu:=hi.up q x hx;rcases split p y hy with ⟨hp',hy⟩|⟨q',Ee,hy⟩
   ·omega
   exact hi.nest q x hx q' y (by omega) hy
  ·intro r x hx q y hq hy hu;rcases split r x hx with ⟨hr,hx⟩|⟨r',hr,hx⟩
   ·rcases nE hx with ⟨h0,rfl⟩|⟨k,s,hk,hs,rfl⟩
    ·omega
    have hus:=hm.up k s hs;have mE:=kin k s hs;rcases split q y hy with ⟨_,hy⟩|⟨q',Ee,hy⟩
    ·rcases nE hy with ⟨_,rfl⟩|⟨k',s',QM,eN,rfl⟩
     ·simp only at hu;omega
     simp only at hu |-;exact hm.N1 k s hs k' s' (by omega) eN (by omega)
    omega
   rcases split q y hy with ⟨Ee,hy⟩|⟨q',Ee,hy⟩
   ·have C0:=hi.up r' x hx;rcases nE hy with ⟨h0,rfl⟩|⟨k,s,hk,hs,rfl⟩
    ·simp only at hu |-;have:=hi.lo r' x hx hu.symm;omega
    have hus:=hm.up k s hs;have mE:=kin k s hs;simp only at hu;omega
   exact hi.N1 r' x hx q' y (by omega) hy hu
  intro r x hx q y hq hu hy;rcases split r x hx with ⟨hr,hx⟩|⟨r',hr,hx⟩
  ·rcases split q y hy with ⟨_,hy⟩|⟨q',Ee,hy⟩
   ·rcases nE hx with ⟨h0,rfl⟩|⟨k,s,hk,hs,rfl⟩
    ·omega
    have hus:=hm.up k s hs;rcases nE hy with ⟨h0,rfl⟩|⟨k',s',QM,eN,rfl⟩
    ·simp only at hu;omega
    simp only at hu |-;have:=hm.pre k s hs k' s' (by omega) (by omega) eN;omega
   omega
  have C0:=hi.up r' x hx;rcases split q y hy with ⟨Ee,hy⟩|⟨q',Ee,hy⟩
  ·rcases C0 with e|e
   ·rcases nE hy with ⟨h0,rfl⟩|⟨k,s,hk,hs,rfl⟩
    ·simp only;omega
    have hus:=hm.up k s hs;simp only;omega
   omega
  have huy:=hi.up q' y hy;rcases C0 with e|e
  ·omega
  exact hi.pre r' x hx q' y (by omega) (by omega) hy
def FO(l:List oD)(r:Nat):Int:=(l.getD r (0,0,-1)).1
def FV(l:List oD)(r:Nat):Int:=(l.getD r (0,0,-1)).2.1
def PY(l:List oD)(r:Nat):Int:=(l.getD r (0,0,-1)).2.2
theorem cM{l:List oD}{r:Nat}{x:oD}(h:l[r]? =some x):FO l r=x.1/\FV l r=x.2.1/\PY l r=x.2.2:=by
 simp[FO,FV,PY,h]
theorem RowB.row{l:List oD}{lo n:Int}(h:RowB 0 l lo n):Row l.length (FO l) (FV l) (PY l) n:=by
 have g: ∀r,r<l.length-> ∃x,l[r]? =some x/\FO l r=x.1/\FV l r=x.2.1/\PY l r=x.2.2:=by
  intro r hr;exact⟨l[r],kU hr,cM (kU hr)⟩
 refine⟨?_, ?_, ?_, ?_, ?_⟩
 ·intro r hr;obtain⟨x,hx,e1,e2,e3⟩:=g r hr;rw[e1,e2];exact h.QN r x hx
 ·intro r hr;obtain⟨x,hx,e1,e2,e3⟩:=g r hr;have:=h.up r x hx;omega
 ·intro r hr p hp;obtain⟨x,hx,e1,e2,e3⟩:=g r hr;have hu:=h.up r x hx;obtain⟨y,hy,f1,f2,f3⟩:=g p (by omega);have:=h.nest r x hx p y (by omega) hy;omega
 ·intro r hr q hq hu;obtain⟨x,hx,e1,e2,e3⟩:=g r hr;obtain⟨y,hy,f1,f2,f3⟩:=g q (by omega);have:=h.N1 r x hx q y hq hy (by omega);omega
 intro r hr q hq hu;obtain⟨x,hx,e1,e2,e3⟩:=g r hr;obtain⟨y,hy,f1,f2,f3⟩:=g q (by omega);have:=h.pre r x hx q y hq (by omega) hy;omega
end Xr
namespace Xr
def Mt(a b c:Int)(side:Int)(p:ql):ql:=if side=0 then⟨p.qO,p.to+(c-(b-a))⟩else⟨mv a b c (decide (side=3)) p.qO,mv a b c (decide (side=3)) p.to⟩
def oi(s:Nat->Int)(b:Nat):Nat->Nat
 |0=>0
 |k+1=>oi s b k+if s (b+k)=1 then 0 else 1
def Cl(a b c:Int)(s:Nat->Int)(b0 k:Nat)(x:qu):qu:={ x with span:=Mt a b c (s (b0+k)) x.span,up:=if 0<=x.up then(oi s b0 x.up.toNat:Int)else x.up }
def tC(a b c:Int)(s:Nat->Int)(b0:Nat):Nat->List qu->List qu
 |_,[]=>[]
 |k,x::r=>if s (b0+k)=1 then tC a b c s b0 (k+1) r else Cl a b c s b0 k x::tC a b c s b0 (k+1) r
def Zf(a b c:Int)(s:Nat->Int)(b0:Nat)(i:qw):qw:=⟨Mt a b c (s b0) i.span,⟨(tC a b c s (b0+1) 0 i.stops.l).isEmpty,tC a b c s (b0+1) 0 i.stops.l⟩⟩
def bZ(a b c:Int)(s:Nat->Int):Nat->List qw->List qw
 |_,[]=>[]
 |b0,i::is=>if s b0=1 then bZ a b c s (b0+1+i.stops.l.length) is else Zf a b c s b0 i::bZ a b c s (b0+1+i.stops.l.length) is
theorem Kc(s:Nat->Int)(b:Nat): ∀{k k' :Nat},k<=k' ->oi s b k<=oi s b k' :=by
 intro k k' h;induction k' with
 |zero=>
  obtain rfl:k=0:=by omega
  exact xJ _
 |succ k' ih=>
  by_cases e:k=k' +1
  ·subst e;exact xJ _
  have:=ih (by omega);rw[oi];omega
theorem MI(s:Nat->Int)(b:Nat){k k' :Nat}(h:k<k')(hk:s (b+k)≠1):oi s b k<oi s b k' :=by
 have h1:oi s b (k+1)=oi s b k+1:=by rw[oi,if_neg hk]
 have h2:=Kc s b (show k+1<=k' by omega);omega
theorem TP(s:Nat->Int)(b:Nat){k k' :Nat}(hk:s (b+k)≠1)(QM:s (b+k')≠1)(h:oi s b k=oi s b k'):k=k' :=by
 rcases Nat.lt_trichotomy k k' with h1|h1|h1
 ·have:=MI s b h1 hk;omega
 ·exact h1
 have:=MI s b h1 QM;omega
theorem YW(s:Nat->Int)(b:Nat){k k' :Nat}(h:oi s b k<oi s b k'):k<k' :=by
 by_cases e:k<k'
 ·exact e
 have:=Kc s b (show k' <=k by omega);omega
section
variable {a b c:Int} {s:Nat->Int}
theorem Ve(b0:Nat): ∀(st:List qu)(k0 j:Nat)(y:qu),(tC a b c s b0 k0 st)[j]? =some y-> ∃(k:Nat)(x:qu),st[k]? =some x/\s (b0+(k0+k))≠1/\y=Cl a b c s b0 (k0+k) x/\oi s b0 (k0+k)=oi s b0 k0+j:=by
 intro st;induction st with
 |nil=>intro k0 j y h;simp[tC]at h
 |cons x r ih=>
  intro k0 j y h;rw[tC]at h;split at h
  ·rename_i e;obtain⟨k,z,h1,h2,h3,h4⟩:=ih (k0+1) j y h;refine⟨k+1,z,by simpa using h1, ?_, ?_, ?_⟩
   ·rw[show k0+(k+1)=k0+1+k by omega];exact h2
   ·rw[show k0+(k+1)=k0+1+k by omega];exact h3
   rw[show k0+(k+1)=k0+1+k by omega,h4,oi,if_pos e];omega
  rename_i e;cases j with
  |zero=>
   simp only[List.getElem?_cons_zero,kX]at h;exact⟨0,x,by simp,by simpa using e,by simpa using h.symm,by simp⟩
  |succ j=>
   simp only[List.getElem?_cons_succ]at h;obtain⟨k,z,h1,h2,h3,h4⟩:=ih (k0+1) j y h;refine⟨k+1,z,by simpa using h1, ?_, ?_, ?_⟩
   ·rw[show k0+(k+1)=k0+1+k by omega];exact h2
   ·rw[show k0+(k+1)=k0+1+k by omega];exact h3
   rw[show k0+(k+1)=k0+1+k by omega,h4,oi,if_neg e];omega
theorem Cj(b0:Nat): ∀(st:List qu)(k0:Nat),(tC a b c s b0 k0 st).length<=st.length:=by
 intro st;induction st with
 |nil=>intro k0;simp[tC]
 |cons x r ih=>
  intro k0;have:=ih (k0+1);rw[tC];split<;>simp<;>omega
theorem Ck(b0:Nat)(st:List qu)(k0:Nat)(y:qu)(h:y∈tC a b c s b0 k0 st): ∃x∈st,∃ k,y=Cl a b c s b0 k x:=by
 obtain⟨j,hj⟩:=jz h;obtain⟨k,x,h1,_,h3,_⟩:=Ve b0 st k0 j y hj;exact⟨x,qX h1,_,h3⟩
theorem Mu(r:Nat)(F:Nat->Int)(p:ql)(h:F r=p.qO):(Mt a b c (s r) p).qO=Tc a b c F s r:=by
 unfold Mt Tc;rw[h];split<;>rfl
theorem Mv(r:Nat)(p:ql)(W:Nat->Int)(h:W r=p.to):(Mt a b c (s r) p).to=RQ a b c W s r:=by
 unfold Mt RQ;rw[h];split<;>rfl
variable {l:List oD} {n:Int} {H:Nat->Prop} {last:Int}
variable (hR:Row l.length (FO l) (FV l) (PY l) n) (hH:N5 l.length (FO l) (FV l) (PY l) H a b) (hS:Side l.length (FO l) (FV l) (PY l) H a b last s) (ha:0<=a) (eM:a<=b) (hb:b<=n) (hc:0<=c)
include hR hH hS ha eM hb hc in
theorem Ia{i:qw}{b0:Nat}(hi: ∀(r:Nat)(x:oD),(sW b0 i)[r]? =some x->l[b0+r]? =some x)(hm:VS i n)(h0:s b0≠1):VS (Zf a b c s b0 i) (n+(c-(b-a))):=by
 have hh:l[b0]? =some (i.span.qO,i.span.to,-1):=by simpa using hi 0 _ rfl
 have ZK:b0<l.length:=(qF hh).1;have gh:=cM hh;have hk: ∀(k:Nat)(x:qu),i.stops.l[k]? =some x->l[b0+1+k]? =some (x.span.qO,x.span.to,(b0:Int)+1+x.up):=by
  intro k x hx;have:=hi (k+1) (x.span.qO,x.span.to,b0+1+x.up) (by simp[sW,hx]);rwa[show b0+(k+1)=b0+1+k by omega]at this
 have mE: ∀(k:Nat)(x:qu),i.stops.l[k]? =some x->b0+1+k<l.length:=fun k x hx=>(qF (hk k x hx)).1;have gk:=fun(k:Nat)(x:qu) hx=>cM (hk k x hx);have get: ∀(j:Nat)(y:qu),(Zf a b c s b0 i).stops.l[j]? =some y-> ∃(k:Nat)(x:qu),i.stops.l[k]? =some x/\s (b0+1+k)≠1/\y=Cl a b c s (b0+1) k x/\oi s (b0+1) k=j:=by
  intro j y hy;obtain⟨k,x,h1,h2,h3,h4⟩:=Ve (b0+1) i.stops.l 0 j y hy;simp only[Nat.zero_add,oi]at h2 h3 h4;exact⟨k,x,h1,h2,h3,h4⟩
 have fr: ∀(k:Nat)(x:qu),i.stops.l[k]? =some x->(Cl a b c s (b0+1) k x).span.qO=Tc a b c (FO l) s (b0+1+k):=fun k x hx=>Mu _ _ _ (gk k x hx).1;have to: ∀(k:Nat)(x:qu),i.stops.l[k]? =some x->(Cl a b c s (b0+1) k x).span.to=RQ a b c (FV l) s (b0+1+k):=fun k x hx=>Mv _ _ _ (gk k x hx).2.1;have fr0:(Zf a b c s b0 i).span.qO=Tc a b c (FO l) s b0:=Mu _ _ _ gh.1;have to0:(Zf a b c s b0 i).span.to=RQ a b c (FV l) s b0:=Mv _ _ _ gh.2.1;have par: ∀(k:Nat)(x:qu),i.stops.l[k]? =some x->s (b0+1+k)≠1-> ∀p:Nat,x.up=p->p<k/\s (b0+1+p)≠1/\ ∃y,i.stops.l[p]? =some y:=by
  intro k x hx h p hp;have hu:=hm.up k x hx;have Xk:=(qF hx).1;refine⟨by omega,cz hR hH hS (mE k x hx) h (p:=b0+1+p) (by rw[(gk k x hx).2.2,hp];simp),_,kU (by omega)⟩
 have La: ∀(k:Nat)(x:qu),i.stops.l[k]? =some x->(x.up= -1/\(Cl a b c s (b0+1) k x).up= -1)\/ ∃p:Nat,x.up=p/\(Cl a b c s (b0+1) k x).up=(oi s (b0+1) p:Nat):=by
  intro k x hx;have hu:=hm.up k x hx;unfold Cl;by_cases e:0<=x.up
  ·right;exact⟨x.up.toNat,by omega,by simp only[if_pos e]⟩
  left;simp only[if_neg e];omega
 refine⟨?_, ?_, ?_, ?_, ?_, ?_, ?_⟩
 ·rw[fr0,to0];exact VK hR hH hS ha eM hb hc ZK h0
 ·intro j y hy;obtain⟨k,x,h1,h2,rfl,h4⟩:=get j y hy;rcases La k x h1 with ⟨_,e⟩|⟨p,e1,e2⟩
  ·omega
  obtain⟨q1,q2,_⟩:=par k x h1 h2 p e1;have:=MI s (b0+1) q1 q2;omega
 ·intro j y hy;obtain⟨k,x,h1,h2,rfl,h4⟩:=get j y hy;rw[fr k x h1,to k x h1];exact(VK hR hH hS ha eM hb hc (mE k x h1) h2).2.1
 ·intro j y hy hu;obtain⟨k,x,h1,h2,rfl,h4⟩:=get j y hy;rcases La k x h1 with ⟨e,_⟩|⟨p,e1,e2⟩
  ·rw[fr k x h1,to k x h1,fr0,to0];exact Km hR hH hS eM hc (mE k x h1) h2 (p:=b0) (by rw[(gk k x h1).2.2,e];simp only;omega)
  omega
 ·intro j y hy p y2 hp Wb;obtain⟨k,x,h1,h2,rfl,h4⟩:=get j y hy;obtain⟨k2,x2,g1,g2,rfl,g4⟩:=get p y2 Wb;rcases La k x h1 with ⟨e,e'⟩|⟨q,e1,e2⟩
  ·omega
  obtain⟨q1,q2,_⟩:=par k x h1 h2 q e1;obtain rfl:q=k2:=TP s (b0+1) q2 g2 (by omega);rw[fr k x h1,to k x h1,fr q x2 g1,to q x2 g1];exact Km hR hH hS eM hc (mE k x h1) h2 (p:=b0+1+q) (by rw[(gk k x h1).2.2,e1];simp)
 ·intro j y hy j2 y2 hj Wb hu;obtain⟨k,x,h1,h2,rfl,h4⟩:=get j y hy;obtain⟨k2,x2,g1,g2,rfl,g4⟩:=get j2 y2 Wb;have Xk:k2<k:=YW s (b0+1) (by omega);have he:x2.up=x.up:=by
   rcases La k x h1 with ⟨e,e'⟩|⟨q,e1,e2⟩<;>rcases La k2 x2 g1 with ⟨f,f'⟩|⟨q',f1,f2⟩
   ·omega
   ·omega
   ·omega
   obtain⟨_,q2,_⟩:=par k x h1 h2 q e1;obtain⟨_,q2',_⟩:=par k2 x2 g1 g2 q' f1;have:=TP s (b0+1) q2 q2' (by omega);omega
  rw[fr k x h1,to k2 x2 g1];exact VL hR hH hS eM hc (mE k x h1) h2 (q:=b0+1+k2) (by omega) g2 (by rw[(gk k x h1).2.2,(gk k2 x2 g1).2.2,he])
 intro j y hy q y2 hq hu Wb;obtain⟨k,x,h1,h2,rfl,h4⟩:=get j y hy;obtain⟨k2,x2,g1,g2,rfl,g4⟩:=get q y2 Wb;have Xk:k2<k:=YW s (b0+1) (by omega);rcases La k x h1 with ⟨e,e'⟩|⟨p,e1,e2⟩
 ·rcases La k2 x2 g1 with ⟨f,f'⟩|⟨q',f1,f2⟩<;>omega
 have hpk:p<k2:=YW s (b0+1) (by omega);have:=hm.pre k x h1 k2 x2 Xk (by omega) g1;rcases La k2 x2 g1 with ⟨f,f'⟩|⟨q',f1,f2⟩
 ·omega
 have:=Kc s (b0+1) (show p<=q' by omega);omega
theorem Zg: ∀(is:List qw)(b0:Nat),(∀(r:Nat)(x:oD),(bp b0 is)[r]? =some x->l[b0+r]? =some x)-> ∀(j:Nat)(y:qw),(bZ a b c s b0 is)[j]? =some y->
  ∃(k:Nat)(i:qw)(b1:Nat),is[k]? =some i/\b0<=b1/\s b1≠1/\y=Zf a b c s b1 i/\(∀(r:Nat)(x:oD),(sW b1 i)[r]? =some x->l[b1+r]? =some x):=by
 intro is;induction is with
 |nil=>intro b0 _ j y h;simp[bZ]at h
 |cons i is ih=>
  intro b0 hl j y h;have hL:=aO b0 i;have h1: ∀(r:Nat)(x:oD),(sW b0 i)[r]? =some x->l[b0+r]? =some x:=by
   intro r x hx;have hr:=(qF hx).1;exact hl r x (by rw[bp,List.getElem?_append_left hr];exact hx)
  have h2: ∀(r:Nat)(x:oD),(bp (b0+1+i.stops.l.length) is)[r]? =some x->l[b0+1+i.stops.l.length+r]? =some x:=by
   intro r x hx;have:=hl (1+i.stops.l.length+r) x (by rw[bp,List.getElem?_append_right (by omega),hL,show 1+i.stops.l.length+r-(1+i.stops.l.length)=r by omega];exact hx);rwa[show b0+(1+i.stops.l.length+r)=b0+1+i.stops.l.length+r by omega]at this
  have again: ∀(j:Nat)(y:qw),(bZ a b c s (b0+1+i.stops.l.length) is)[j]? =some y-> ∃(k:Nat)(i' :qw)(b1:Nat),(i::is)[k]? =some i' /\b0<b1/\s b1≠1/\y=Zf a b c s b1 i' /\(∀(r:Nat)(x:oD),(sW b1 i')[r]? =some x->l[b1+r]? =some x):=by
   intro j y h;obtain⟨k,i',b1,g1,g2,g3⟩:=ih (b0+1+i.stops.l.length) h2 j y h;exact⟨k+1,i',b1,by simpa using g1,by omega,g3⟩
  rw[bZ]at h;split at h
  ·obtain⟨k,i',b1,g1,g2,g3⟩:=again j y h;exact⟨k,i',b1,g1,by omega,g3⟩
  rename_i e;cases j with
  |zero=>
   simp only[List.getElem?_cons_zero,kX]at h;exact⟨0,i,b0,rfl,xJ _,e,h.symm,h1⟩
  |succ j=>
   simp only[List.getElem?_cons_succ]at h;obtain⟨k,i',b1,g1,g2,g3⟩:=again j y h;exact⟨k,i',b1,g1,by omega,g3⟩
theorem Mq: ∀(is:List qw)(b0:Nat),(∀(r:Nat)(x:oD),(bp b0 is)[r]? =some x->l[b0+r]? =some x)-> ∀(j j' :Nat)(y y' :qw),j<j' ->(bZ a b c s b0 is)[j]? =some y->(bZ a b c s b0 is)[j']? =some y' ->
  ∃(i i' :qw)(b1 b2:Nat),b0<=b1/\b1<b2/\s b1≠1/\s b2≠1/\y=Zf a b c s b1 i/\y' =Zf a b c s b2 i' /\l[b1]? =some (i.span.qO,i.span.to,-1)/\l[b2]? =some (i'.span.qO,i'.span.to,-1):=by
 intro is;induction is with
 |nil=>intro b0 _ j j' y y' _ h;simp[bZ]at h
 |cons i is ih=>
  intro b0 hl j j' y y' hj h h';have hL:=aO b0 i;have h1:l[b0]? =some (i.span.qO,i.span.to,-1):=by simpa using hl 0 _ (by rw[bp,List.getElem?_append_left (by omega)];rfl)
  have h2: ∀(r:Nat)(x:oD),(bp (b0+1+i.stops.l.length) is)[r]? =some x->l[b0+1+i.stops.l.length+r]? =some x:=by
   intro r x hx;have:=hl (1+i.stops.l.length+r) x (by rw[bp,List.getElem?_append_right (by omega),hL,show 1+i.stops.l.length+r-(1+i.stops.l.length)=r by omega];exact hx);rwa[show b0+(1+i.stops.l.length+r)=b0+1+i.stops.l.length+r by omega]at this
  rw[bZ]at h h';split at h
  ·rename_i e;rw[if_pos e]at h';obtain⟨i1,i2,b1,b2,g1,g⟩:=ih (b0+1+i.stops.l.length) h2 j j' y y' hj h h';exact⟨i1,i2,b1,b2,by omega,g⟩
  rename_i e;rw[if_neg e]at h';obtain⟨j',rfl⟩: ∃q,j' =q+1:=⟨j' -1,by omega⟩;simp only[List.getElem?_cons_succ]at h';cases j with
  |zero=>
   simp only[List.getElem?_cons_zero,kX]at h;obtain⟨k,i',b2,g1,g2,g3,g4,g5⟩:=Zg is (b0+1+i.stops.l.length) h2 j' y' h';exact⟨i,i',b0,b2,xJ _,by omega,e,g3,h.symm,g4,h1,by simpa using g5 0 _ rfl⟩
  |succ j=>
   simp only[List.getElem?_cons_succ]at h;obtain⟨i1,i2,b1,b2,g1,g⟩:=ih (b0+1+i.stops.l.length) h2 j j' y y' (by omega) h h';exact⟨i1,i2,b1,b2,by omega,g⟩
include hR hH hS ha eM hb hc in
theorem Ci{is:List qw}(hl:l=bp 0 is)(hm:cw is n):cw (bZ a b c s 0 is) (n+(c-(b-a))):=by
 have hg: ∀(r:Nat)(x:oD),(bp 0 is)[r]? =some x->l[0+r]? =some x:=fun r x h=>by rw[hl,Nat.zero_add];exact h
 constructor
 ·intro j y hy;obtain⟨k,i,b1,g1,_,g3,rfl,g5⟩:=Zg is 0 hg j y hy;exact Ia hR hH hS ha eM hb hc g5 (hm.may k i g1) g3
 intro j j' y y' hj hy hy';obtain⟨i,i',b1,b2,_,g2,g3,g4,rfl,rfl,g7,g8⟩:=Mq is 0 hg j j' y y' hj hy hy';have e1:=cM g7;have e2:=cM g8;have hb2:=(qF g8).1;show(Mt a b c (s b1) i.span).to<=(Mt a b c (s b2) i'.span).qO;rw[Mv _ _ _ e1.2.1,Mu _ _ _ e2.1];exact VL hR hH hS eM hc hb2 g4 g2 g3 (by rw[e1.2.2,e2.2.2])
end
end Xr
def qG{α:Type}(o:Option α)(Q:α->Prop):Prop:= ∃r,o=some r/\Q r
theorem qG.ret{α:Type}{a:α}{Q:α->Prop}(h:Q a):qG (some a) Q:=⟨a,rfl,h⟩
theorem qG.bind{α β:Type}{o:Option α}{f:α->Option β}{P:α->Prop}{Q:β->Prop}(h:qG o P)(k: ∀x,P x->qG (f x) Q):qG (o>>=f) Q:=by
 obtain⟨x,rfl,hx⟩:=h;exact k x hx
theorem qG.go{α β:Type}{o:Option α}{f:α->Option β}{a:α}{Q:β->Prop}(h:o=some a)(k:qG (f a) Q):qG (o>>=f) Q:=by
 subst h;exact k
theorem qG.ite{α:Type}{c:Prop}[Decidable c]{a b:Option α}{Q:α->Prop}(h1:c->qG a Q)(h2: ¬c->qG b Q):qG (if c then a else b) Q:=by
 split
 ·exact h1 (by assumption)
 exact h2 (by assumption)
theorem qG.zm{α:Type}{c:Prop}[Decidable c]{a:Option α}{Q:α->Prop}(hc:c)(h:qG a Q):qG (if c then a else none) Q:=by
 rw[if_pos hc];exact h
theorem qG.mono{α:Type}{o:Option α}{P Q:α->Prop}(h:qG o P)(k: ∀x,P x->Q x):qG o Q:=by
 obtain⟨x,h1,h2⟩:=h;exact⟨x,h1,k x h2⟩
theorem qG.get{α:Type}{l:List α}{i:Int}(h1:0<=i:=by omega)(h2:i<(l.length:Int):=by omega):qG (qi l i) (fun x=>l[i.toNat]? =some x/\x∈l):=by
 have h3:i.toNat<l.length:=by omega
 refine⟨l[i.toNat], ?_,by simp[h3],List.getElem_mem h3⟩;unfold qi;rw[if_pos h1];simp[h3]
theorem qG.kb{α:Type}{l:List α}{lo hi:Int}(h1:0<=lo:=by omega)(h2:lo<=hi:=by omega)(h3:hi<=(l.length:Int):=by omega):qG (Gm.kb l lo hi) (fun r=>r=(l.take hi.toNat).drop lo.toNat/\(r.length:Int)=hi-lo):=by
 refine⟨(l.take hi.toNat).drop lo.toNat, ?_,rfl, ?_⟩
 ·unfold Gm.kb;rw[if_pos ⟨⟨h1,by omega⟩,by omega,by omega⟩]
 simp only[List.length_drop,List.length_take];omega
theorem qG.bX{α:Type}{l:List α}{lo:Int}(h1:0<=lo:=by omega)(h2:lo<=(l.length:Int):=by omega):qG (Gm.bX l lo) (fun r=>r=l.drop lo.toNat/\(r.length:Int)=l.length-lo):=by
 refine⟨l.drop lo.toNat, ?_,rfl, ?_⟩
 ·unfold Gm.bX;rw[if_pos ⟨h1,by omega⟩]
 simp only[List.length_drop];omega
theorem qG.kx{α:Type}{l:List α}{hi:Int}(h1:0<=hi:=by omega)(h2:hi<=(l.length:Int):=by omega):qG (Gm.kx l hi) (fun r=>r=l.take hi.toNat/\(r.length:Int)=hi):=by
 refine⟨l.take hi.toNat, ?_,rfl, ?_⟩
 ·unfold Gm.kx;rw[if_pos ⟨h1,by omega⟩]
 simp only[List.length_take];omega
theorem qB{n k:Nat}(h:n<=2^30:=by omega)(hk:k<=2^16:=by omega):qg n k=true:=by
 have h1:n*k<=2^30*2^16:=Nat.mul_le_mul h hk;unfold qg;simp only[zB,decide_eq_true_eq];refine⟨⟨by simpa using h1,by omega⟩,by omega⟩
theorem xp{n:Int}(h1:0<=n)(h2:n<=255):IntKind.u8.wrap n=n:=IntWalk.u8_in n ⟨h1,h2⟩
theorem ge0{a b:Int}:(a>=b)=(b<=a):=rfl
theorem gt0{a b:Int}:(a>b)=(b<a):=rfl
def tfx:=PLift.up (And.intro @decide_eq_true_eq (And.intro @zB (And.intro @Bool.or_eq_true (And.intro @Bool.not_eq_true' (And.intro @Bool.not_eq_true (And.intro @Bool.and_eq_false_iff (And.intro @Bool.or_eq_false_iff (And.intro @decide_eq_false_iff_not
 (And.intro @beq_iff_eq.{0} (And.intro @bne_iff_ne.{0} (And.intro @beq_eq_false_iff_ne.{0} (And.intro @bne_eq_false_iff_eq.{0} (And.intro @not_and (And.intro @not_or (And.intro @ge0 (And.intro @gt0 (And.intro @Bool.not_eq_false' (And.intro @Bool.not_eq_false (And.intro @Int.not_lt (And.intro @Int.not_le
 (And.intro @ne_eq.{1} @Decidable.not_not)))))))))))))))))))))
def BN:Nat:=8192
theorem qG.tI{α:Type}{c:Prop}[Decidable c]{a b:Option α}{Q:α->Prop}{p n:Prop}(f:p->qG a Q)(g:n->qG b Q)
  (hp:c->p:=by(intro hT;(try simp(disch:=omega) only[tfx.down,qI,xp]at hT);exact hT)) (hn: ¬c->n:=by(intro hT;(try simp(disch:=omega) only[tfx.down,qI,xp]at hT);exact hT)):qG (if c then a else b) Q:=
 qG.ite (fun h=>f (hp h)) (fun h=>g (hn h))
theorem tW{P:Prop}(h:P:=by
 (try intros)
 (try simp only[BN]at *)
 repeat' (first
  |refine qG.zm (qB (by first|omega|grind) (by omega)) ?_
  |refine qG.zm (by (try simp only[Bool.and_eq_true,decide_eq_true_eq,List.length_append,List.length_cons,List.length_nil]);first|omega|grind) ?_
  |(refine qG.tI ?_ ?_<;>intro _)
  |(rw [qI];rotate_left;(first|omega|grind);(first|omega|grind))
  |(rw [xp];rotate_left;(first|omega|grind);(first|omega|grind))
  |refine qG.bind (qG.get (by first|omega|grind) (by first|omega|grind)) fun _ _=>?_
  |refine qG.bind (qG.kb (by first|omega|grind) (by first|omega|grind) (by first|omega|grind)) fun _ _=>?_
  |refine qG.bind (qG.kx (by first|omega|grind) (by first|omega|grind)) fun _ _=>?_
  |refine qG.bind (qG.bX (by first|omega|grind) (by first|omega|grind)) fun _ _=>?_
  |refine qG.bind (by (apply_assumption;(try any_goals rfl);all_goals (first|assumption|omega|grind))) fun _ _=>?_
  |refine .ret ?_
  |(refine qG.mono (by (apply_assumption;(try any_goals rfl);all_goals (first|assumption|omega|grind))) ?_;intros)
  |(rintro _ ⟨⟩))
 all_goals (first|omega|(simp only[List.length_append,List.length_cons,List.length_nil]at *; first|omega|grind)|grind|((repeat' (refine And.intro ?_ ?_))<;>first|rfl|omega|(simp only[List.length_append,List.length_cons,List.length_nil]at *; omega)|grind)|(split<;>refine .ret ?_<;>first|omega|grind))):P:=h
theorem bL(c:UInt8):qG (kj c) (fun v=>v=true->48<=c.toNat/\c.toNat<=57):=by
 unfold kj;refine .tI ?_ ?_<;>intro hT
 ·exact .ret (by simp;omega)
 exact .ret (by simp)
theorem mN(c:UInt8):qG (wx c) (fun _=>True):=by
 unfold wx;refine .tI ?_ ?_<;>intro hT
 ·exact .ret trivial
 refine .tI ?_ ?_<;>intro hT
 ·exact .ret trivial
 exact .ret trivial
theorem We(s:qa)(hs:s.length<=BN)(qk:Int)(ha:0<=qk)(dR:qk<=s.length): ∀(m:Nat)(n e:Int),m=(s.length-e).toNat->qk<=e->e<=s.length->0<=n->
  (e=qk/\n<1\/e=qk+1/\n<10\/e=qk+2/\n<100\/e=qk+3/\n<1000\/e=qk+4/\n<10000)->
  qG (u7 (s,qk,n,e)) (fun r=>0<=r.1/\r.1<=9999/\e<=r.2/\r.2<=s.length):=by
 unfold BN at hs;intro m;induction m using Nat.strongRecOn with
 |_ m ih=>
 intro n e hm h1 h2 h4 h5;rw[u7.eq_1];refine .tI ?_ ?_<;>intro hT
 ·(repeat (first|(rw [qI];rotate_left;omega;omega)|(rw [xp];rotate_left;omega;omega)))
  refine .bind .get fun b hb=>?_;refine .bind (bL b) fun v hv=>?_;refine .tI ?_ ?_<;>intro hT
  ·have Ql:=hT;have DO:=hv Ql
   (try simp(disch:=omega) only[qI,xp])
   exact(ih _ (by omega) _ _ rfl (by omega) (by omega) (by omega) (by omega)).mono fun r hr=>by omega
  exact .ret (by simp only;omega)
 exact .ret (by simp only;omega)
theorem cK(s:qa)(hs:s.length<=BN)(qk:Int)(ha:0<=qk)(dR:qk<=s.length):
  qG (gN s qk) (fun r=>0<=r.1/\r.1<=9999/\(r.2.2=true->qk<r.2.1/\r.2.1<=s.length)):=by
 unfold gN;refine .bind (We s hs qk ha dR _ 0 qk rfl (by omega) dR (by omega) (by omega)) fun v hv=>?_;refine .tI ?_ ?_<;>intro hT
 ·exact .ret (by simp)
 refine .tI ?_ ?_<;>intro hT
 ·refine .bind .get fun b hb=>?_;refine .bind (bL b) fun w hw=>?_;refine .tI ?_ ?_<;>intro hT
  ·exact .ret (by simp)
  exact .ret ⟨hv.1,hv.2.1,fun _=>by simp only;omega⟩
 exact .ret ⟨hv.1,hv.2.1,fun _=>by simp only;omega⟩
theorem Gy(s:qa)(hs:s.length<=BN): ∀(m:Nat)(i:Int),m=(s.length-i).toNat->0<=i->qG (xG (s,i)) (fun _=>True):=by
 unfold BN at hs;intro m;induction m using Nat.strongRecOn with
 |_ m ih=>
 intro i hm h1;rw[xG.eq_1];refine .tI ?_ ?_<;>intro hT
 ·(repeat (first|(rw [qI];rotate_left;omega;omega)|(rw [xp];rotate_left;omega;omega)))
  refine .bind .get fun b hb=>?_;refine .bind (mN b) fun v hv=>?_;have h:=ih _ (by omega) (i+1) rfl (by omega);refine .tI ?_ ?_<;>intro hT
  ·refine .tI ?_ ?_<;>intro hT
   ·refine .tI ?_ ?_<;>intro hT
    ·exact .ret trivial
    refine .bind (bL b) fun w hw=>?_;refine .tI ?_ ?_<;>intro hT
    ·exact .ret trivial
    exact h
   exact h
  exact h
 exact .ret trivial
theorem K2(s:qa)(hs:s.length<=BN):qG (j9 s) (fun _=>True):=by
 unfold j9;refine .tI ?_ ?_<;>intro hT
 ·exact .ret trivial
 refine .bind (Gy s hs _ 0 rfl (by omega)) fun v hv=>?_;rcases v with v|v<;>exact .ret trivial
theorem Uc(s:qa)(hs:s.length<=BN)(w:List qA)(es:List Int)(qk:Int)(ha:0<=qk): ∀(m:Nat)(e:Int),m=(s.length-e).toNat->qk<=e->e<=s.length->
  qG (xK (qk,e,s,w,es)) (fun r=>e<=r/\r<=s.length):=by
 unfold BN at hs;intro m;induction m using Nat.strongRecOn with
 |_ m ih=>
 intro e hm h1 h2;rw[xK.eq_1];refine .tI ?_ ?_<;>intro hT
 ·(repeat (first|(rw [qI];rotate_left;omega;omega)|(rw [xp];rotate_left;omega;omega)))
  refine .bind .get fun b hb=>?_;refine .bind (mN b) fun v hv=>?_;have h:=(ih _ (by omega) (e+1) rfl (by omega) (by omega)).mono (Q:=fun r=>e<=r/\r<=s.length) fun r hr=>by omega
  refine .tI ?_ ?_<;>intro hT
  ·exact h
  refine .tI ?_ ?_<;>intro hT
  ·exact h
  refine .tI ?_ ?_<;>intro hT
  ·refine .bind (bL b) fun w hw=>?_;refine .tI ?_ ?_<;>intro hT
   ·exact h
   exact .ret (by omega)
  exact .ret (by omega)
 exact .ret (by omega)
theorem D4(s:qa)(hs:s.length<=BN)(w:List qA)(es:List Int)(qk:Int)(ha:0<=qk)(dR:qk<=s.length):
  qG (um qk s w es) (fun r=>qk<=r.2.1/\r.2.1<=s.length/\(r.1.length:Int)=r.2.1-qk/\(r.2.2=true->qk<r.2.1)):=by
 unfold um;refine .bind (Uc s hs w es qk ha _ qk rfl (by omega) dR) fun v hv=>?_;refine .bind (qG.kb ha hv.1 hv.2) fun x hx=>?_;have hn:=K2 x (by omega);by_cases he:x.length=0
 ·have:x=[]:=by simpa using he
  subst this;refine .bind (o:=j9 []) (P:=fun w=>w=false) ⟨false,by unfold j9;simp,rfl⟩ fun w hw=>?_;subst hw;exact .ret ⟨hv.1,hv.2,hx.2,by simp⟩
 refine .bind hn fun w hw=>?_;exact .ret ⟨hv.1,hv.2,hx.2,fun _=>by simp only;omega⟩
namespace Xr
theorem gi{α:Type}{l:List α}{k:Nat}{x:α}(h:l[k]? =some x):qi l (k:Int)=some x:=by
 have hk:=(qF h).1;rw[j8 hk];rw[kU hk]at h;exact h
theorem gl{α:Type}{l:List α}{k:Nat}(h:k<l.length): ∃x,l[k]? =some x:=⟨l[k],kU h⟩
theorem ws{k:Nat}(h:k<2^60):IntKind.i64.wrap ((k:Int)+1)=((k+1:Nat):Int):=ct (by omega)
def xo(a b:ql):Prop:=b.qO<=a.qO/\a.to<=b.to
instance(a b:ql):Decidable (xo a b):=by unfold xo;infer_instance
theorem rA(a b:ql):xl a b=some (decide (xo a b)):=by
 unfold xl xo;by_cases h:b.qO<=a.qO
 ·rw[if_pos (by simpa using h)];simp[h]
 rw[if_neg (by simpa using h)];simp[h]
theorem zp{α:Type}{l:List α}{k:Nat}{x:α}{r:List α}(h:l.drop k=x::r):l[k]? =some x/\l.drop (k+1)=r/\k<l.length:=by
 have hk:k<l.length:=by
  rcases Nat.lt_or_ge k l.length with h1|h1
  ·exact h1
  rw[List.drop_eq_nil_of_le h1]at h;cases h
 rw[List.drop_eq_getElem_cons hk]at h;simp only[List.cons.injEq]at h;exact⟨by rw[kU hk,h.1],h.2,hk⟩
theorem zc{α:Type}{l:List α}{k:Nat}(h:l.drop k=[]):l.length<=k:=by simpa using h
def isN(n:Int)(x:qu):Bool:= !x.qJ&&x.n==n
def l9(n:Int)(l:List qu):List ql:=(l.filter (isN n)).map (·.span)
def vU(n:Int)(is:List qw):List ql:=is.flatMap fun i=>l9 n i.stops.l
def many(is:List qw):Nat:=(is.map fun i=>i.stops.l.length).sum
theorem VM(n:Int)(l:List qu):(l9 n l).length<=l.length:=by
 unfold l9;rw[List.length_map];exact List.length_filter_le _ _
theorem OM{n:Int}{is:List qw}{p:ql}(h:p∈vU n is): ∃i∈is,∃ x∈i.stops.l,x.span=p/\x.n=n/\x.qJ=false:=by
 unfold vU l9 at h;simp only[List.mem_flatMap,List.mem_map,List.mem_filter,isN,zB,Bool.not_eq_true',beq_iff_eq]at h;obtain⟨i,hi,x,⟨hx,h1,h2⟩,h3⟩:=h;exact⟨i,hi,x,hx,h3,h2,h1⟩
theorem OP(n:Int)(is:Sl qw)(a:Nat)(i:qw)(hi:is.l[a]? =some i)(hl:i.stops.l.length<=2^20): ∀(r:List qu)(k:Nat)(out:List ql),i.stops.l.drop k=r->out.length+r.length<=2^29->
  kL (n,is,(a:Int),(k:Int),out)=some (out++l9 n r):=by
 intro r;induction r with
 |nil=>
  intro k out h _;have:=zc h;rw[kL.eq_1,gi hi];simp only[xe,z7];rw[if_neg (by simp;omega)];simp[l9]
 |cons x r ih=>
  intro k out h ho;obtain⟨h1,h2,h3⟩:=zp h;simp only[List.length_cons]at ho;rw[kL.eq_1,gi hi];simp only[xe,z7];rw[if_pos (by simp;omega),gi h1,ws (by omega)];simp only[z7];have e1:=ih (k+1) out h2 (by omega);have e2:=ih (k+1) (out++[x.span]) h2 (by simp;omega);generalize ((k+1:Nat):Int)=q at e1 e2 |-;cases ht:x.qJ with
  |true=>simp[e1,l9,isN,ht]
  |false=>
   by_cases hn:x.n=n
   ·simp[e2,l9,isN,ht,hn,qB (show out.length+1<=2^30 by omega) (show 16<=2^16 by omega)]
   simp[e1,l9,isN,ht,hn]
theorem OO(n:Int)(is:Sl qw)(hb: ∀i∈is.l,i.stops.l.length<=2^20)(hL:is.l.length<=2^20): ∀(r:List qw)(a:Nat)(out:List ql),is.l.drop a=r->out.length+many r<=2^29->
  yJ (n,is,(a:Int),out)=some (out++vU n r):=by
 intro r;induction r with
 |nil=>
  intro a out h _;have:=zc h;rw[yJ.eq_1,if_neg (by simp;omega)];simp[vU]
 |cons i r ih=>
  intro a out h ho;obtain⟨h1,h2,h3⟩:=zp h;have hi:=qX h1;simp only[many,List.map_cons,List.sum_cons]at ho;have hs:=VM n i.stops.l;rw[yJ.eq_1,if_pos (by simp;omega),show(0:Int)=((0:Nat):Int)from rfl,OP n is a i h1 (hb i hi) i.stops.l 0 out rfl (by omega),ws (by omega)];simp only[xe,z7];rw[ih (a+1) _ h2 (by simp only[many,List.length_append];omega)];simp[vU]
theorem Qq{is:List qw}{B:Nat}(h: ∀i∈is,i.stops.l.length<=B):many is<=is.length*B:=by
 induction is with
 |nil=>simp[many]
 |cons i is ih=>
  have h1:=h i (by simp);have h2:=ih fun j hj=>h j (by simp[hj]);simp only[many,List.map_cons,List.sum_cons,List.length_cons]at*
  rw[Nat.succ_mul];omega
theorem QH(n:Int)(is:Sl qw)(hb: ∀i∈is.l,i.stops.l.length<=2^12)(hL:is.l.length<=2^12):km n is=some ⟨(vU n is.l).isEmpty,vU n is.l⟩:=by
 have h1:=Qq hb;have h2:is.l.length*2^12<=2^12*2^12:=Nat.mul_le_mul hL (xJ _);unfold km;rw[show (0:Int)=((0:Nat):Int)from rfl,OO n is (fun i hi=>by have:=hb i hi;omega) (by omega) is.l 0 [] rfl (by simp;omega)];simp
theorem Ty(s:ql)(l:Sl ql)(hL:l.l.length<2^60): ∀(r:List ql)(k:Nat),l.l.drop k=r->uK (l,(k:Int),s)=some (if r.any (fun p=>decide (xo s p))=true then .inl true else .inr ()):=by
 intro r;induction r with
 |nil=>
  intro k h;have:=zc h;rw[uK.eq_1,if_neg (by simp;omega)];simp
 |cons p r ih=>
  intro k h;obtain⟨h1,h2,h3⟩:=zp h;rw[uK.eq_1,if_pos (by simp;omega),gi h1,ws (by omega)];simp only[xe,z7,rA,ih (k+1) h2];by_cases e:xo s p<;>simp[e]
def lB(s:ql)(l:List ql):Prop:= ∃p∈l,xo s p
theorem lies_ok(s:ql)(l:Sl ql)(hL:l.l.length<2^60): ∃t:Bool,uJ s l=some t/\(t=true↔lB s l.l):=by
 unfold uJ;rw[show (0:Int)=((0:Nat):Int)from rfl,Ty s l hL l.l 0 rfl];simp only[xe,z7,lB];cases h:l.l.any (fun p=>decide (xo s p))with
 |true=>exact⟨true,rfl,by simpa using h⟩
 |false=>exact⟨false,rfl,by simpa using h⟩
def KL(s:qc)(qk:ql)(a k:Int):Prop:= ∃(a' k' :Nat)(i:qw)(x:qu),a=a' /\k=k' /\s.insts.l[a']? =some i/\i.stops.l[k']? =some x/\x.n=s.cur/\x.qJ=false/\xo qk x.span
theorem Ir(s:qc)(qk:ql)(a:Nat)(i:qw)(hi:s.insts.l[a]? =some i)(hl:i.stops.l.length<2^60): ∀(r:List qu)(k:Nat),i.stops.l.drop k=r->
  qG (xY ((a:Int),(k:Int),s,qk)) (fun v=>v= .inr ()\/ ∃j,v= .inl j/\KL s qk a j):=by
 intro r;induction r with
 |nil=>
  intro k h;have:=zc h;rw[xY.eq_1,gi hi];simp only[xe,z7];rw[if_neg (by simp;omega)];exact .ret (.inl rfl)
 |cons x r ih=>
  intro k h;obtain⟨h1,h2,h3⟩:=zp h;rw[xY.eq_1,gi hi];simp only[xe,z7];rw[if_pos (by simp;omega),gi h1,ws (by omega)];simp only[z7,rA];have hr:=ih (k+1) h2;by_cases e:((x.n==s.cur)&&(!x.qJ))=true
  ·rw[if_pos e];simp only[zB,beq_iff_eq,Bool.not_eq_true']at e;by_cases w:xo qk x.span
   ·rw[if_pos (by simpa using w)];exact .ret (.inr ⟨_,rfl,a,k,i,x,rfl,rfl,hi,h1,e.1,e.2,w⟩)
   rw[if_neg (by simpa using w)];exact hr
  rw[if_neg e];exact hr
def jX(s:qc):Prop:=s.insts.l.length<=2^12/\ ∀i∈s.insts.l,i.stops.l.length<=2^12
theorem Iq(s:qc)(qk:ql)(hs:jX s): ∀(r:List qw)(a:Nat),s.insts.l.drop a=r->
  qG (jn ((a:Int),s,qk)) (fun v=>v= .inr ()\/ ∃j k,v= .inl (j,k)/\KL s qk j k):=by
 intro r;have nh:=hs.1;induction r with
 |nil=>
  intro a h;have:=zc h;rw[jn.eq_1,if_neg (by simp;omega)];exact .ret (.inl rfl)
 |cons i r ih=>
  intro a h;obtain⟨h1,h2,h3⟩:=zp h;have hi:=hs.2 i (qX h1);rw[jn.eq_1,if_pos (by simp;omega),ws (by omega)];refine .bind (Ir s qk a i h1 (by omega) i.stops.l 0 rfl) fun v hv=>?_;rcases hv with rfl|⟨j,rfl,hj⟩
  ·exact ih (a+1) h2
  exact .ret (.inr ⟨_,_,rfl,hj⟩)
theorem Zo(s:qc)(qk:ql)(hs:jX s):qG (ko s qk) (fun v=>v=(-1,-1)\/KL s qk v.1 v.2):=by
 unfold ko;refine .bind (Iq s qk hs s.insts.l 0 rfl) fun v hv=>?_;rcases hv with rfl|⟨j,k,rfl,hj⟩
 ·exact .ret (.inl rfl)
 exact .ret (.inr hj)
theorem KL.nat{s:qc}{qk:ql}{a k:Int}(h:KL s qk a k):0<=a/\0<=k:=by
 obtain⟨a',k',_,_,rfl,rfl,_⟩:=h;omega
theorem OS(s:qc)(es:Sl qo)(hs:jX s)(he:es.l.length<2^60): ∀(r:List qo)(k:Nat),es.l.drop k=r->
  qG (jo (es,(k:Int),s)) (fun v=>(∃ b,v= .inl b/\b=false)\/v= .inr ()/\ ∀e∈r,∃ a k,ko s e.span=some (a,k)/\KL s e.span a k):=by
 intro r;induction r with
 |nil=>
  intro k h;have:=zc h;rw[jo.eq_1,if_neg (by simp;omega)];exact .ret (.inr ⟨rfl,by simp⟩)
 |cons e r ih=>
  intro k h;obtain⟨h1,h2,h3⟩:=zp h;rw[jo.eq_1,if_pos (by simp;omega),gi h1,ws (by omega)];obtain⟨v,hv,hq⟩:=Zo s e.span hs;refine .go rfl ?_;refine .go hv ?_;rcases hq with rfl|hq
  ·rw[if_pos (by decide)];exact .ret (.inl ⟨_,rfl,rfl⟩)
  have:=hq.nat;rw[if_neg (by simp;omega)];refine(ih (k+1) h2).mono fun w hw=>?_;rcases hw with hw|⟨h4,h5⟩
  ·exact .inl hw
  refine .inr ⟨h4,fun e' W6=>?_⟩;rcases List.mem_cons.1 W6 with rfl|W6
  ·exact⟨_,_,hv,hq⟩
  exact h5 e' W6
theorem Dh(s:qc)(es:Sl qo)(hs:jX s)(he:es.l.length<2^60):qG (ur s es) (fun b=>b=true-> ∀e∈es.l,∃ a k,ko s e.span=some (a,k)/\KL s e.span a k):=by
 unfold ur;refine .bind (OS s es hs he es.l 0 rfl) fun v hv=>?_;rcases hv with ⟨b,rfl,rfl⟩|⟨rfl,hv⟩
 ·exact .ret (by simp)
 exact .ret fun _=>hv
end Xr
namespace Xr
abbrev TS:=qz
def strOf(x:TS):oD:=(x.span.qO,x.span.to,x.up)
structure gx (e:qo) (n:Int):Prop where
 a0:0<=e.span.qO
 ab:e.span.qO<=e.span.to
 bn:e.span.to<=n
 len:(e.text.length:Int)<=2^40
 nn:n<=2^40
theorem MC(e:qo)(n:Int)(he:gx e n)(qk:Int)(h0:0<=qk)(h1:qk<=n)(right:Bool):dr qk right e=some (mv e.span.qO e.span.to e.text.length right qk):=by
 have:=he.a0;have:=he.ab;have:=he.bn;have:=he.len;have:=he.nn;unfold dr mv;rw[qI (n:=qk+(e.text.length:Int)) (by omega) (by omega),qI (n:=e.span.to-e.span.qO) (by omega) (by omega),qI (n:=e.span.qO+(e.text.length:Int)) (by omega) (by omega),
  qI (n:=qk+(e.text.length:Int)-(e.span.to-e.span.qO)) (by omega) (by omega)]
 by_cases h2:qk<e.span.qO
 ·simp[h2]
 by_cases h3:qk>e.span.to
 ·simp[h2,h3];omega
 cases right<;>simp[h2,h3]
theorem Gv(e:qo)(n:Int)(he:gx e n)(p:ql)(h0:0<=p.qO)(h1:p.qO<=p.to)(h2:p.to<=n)(side:Int):px p side e=some (Mt e.span.qO e.span.to e.text.length side p):=by
 have:=he.a0;have:=he.ab;have:=he.bn;have:=he.len;have:=he.nn;unfold px Mt;by_cases h:side=0
 ·rw[qI (n:=p.to+(e.text.length:Int)) (by omega) (by omega),qI (n:=e.span.to-e.span.qO) (by omega) (by omega),qI (n:=p.to+(e.text.length:Int)-(e.span.to-e.span.qO)) (by omega) (by omega)];simp[h];omega
 rw[if_neg (by simpa using h),MC e n he p.qO (by omega) (by omega),MC e n he p.to (by omega) (by omega),if_neg h];have:(side==3)=decide (side=3):=by by_cases h:side=3<;>simp[h]
 rw[this];rfl
theorem row_L2(s:qc)(a:Nat)(i:qw)(hi:s.insts.l[a]? =some i)(b:Nat)(hb:b<=2^26)(hl:i.stops.l.length<=2^12)(hu: ∀x∈i.stops.l,-1<=x.up/\x.up<=2^20)(z:List TS):
  ∀(r:List qu)(k:Nat)(l:List TS),i.stops.l.drop k=r->l.length+r.length<=2^29->
  ∃m:List TS,gV ((a:Int),(b:Int),(k:Int),s,l,z)=some (l++m)/\m.map strOf=r.map (fun x=>(x.span.qO,x.span.to,(b:Int)+1+x.up)):=by
 intro r;induction r with
 |nil=>
  intro k l h _;have:=zc h;rw[gV.eq_1,gi hi];simp only[xe,z7];rw[if_neg (by simp;omega)];exact⟨[],by simp,rfl⟩
 |cons x r ih=>
  intro k l h hL;obtain⟨h1,h2,h3⟩:=zp h;have hx:=hu x (qX h1);simp only[List.length_cons]at hL;rw[gV.eq_1,gi hi];simp only[xe,z7];rw[if_pos (by simp;omega),gi h1,ws (by omega)];simp only[z7];rw[qI (n:=(b:Int)+1) (by omega) (by omega),qI (n:=(b:Int)+1+x.up) (by omega) (by omega)];rw[if_pos qB];obtain⟨m,e1,e2⟩:=ih (k+1) (l++[qz.mk x.span ((b:Int)+1+x.up)]) h2 (by simp;omega);exact⟨qz.mk x.span ((b:Int)+1+x.up)::m,by rw[e1];simp,by simp[e2,strOf]⟩
theorem row_L0(s:qc)(hs:jX s)(hu: ∀i∈s.insts.l,∀ x∈i.stops.l,-1<=x.up/\x.up<=2^20): ∀(r:List qw)(a:Nat)(l:List TS),s.insts.l.drop a=r->l.length+r.length+many r<=2^25->
  ∃m:List TS,gU ((a:Int),s,l)=some (l++m)/\m.map strOf=bp l.length r:=by
 intro r;have nh:=hs.1;induction r with
 |nil=>
  intro a l h _;have:=zc h;rw[gU.eq_1,if_neg (by simp;omega)];exact⟨[],by simp,rfl⟩
 |cons i r ih=>
  intro a l h hL;obtain⟨h1,h2,h3⟩:=zp h;have tQ:=qX h1;have hi:=hs.2 i tQ;simp only[List.length_cons,many,List.map_cons,List.sum_cons]at hL;rw[gU.eq_1,if_pos (by simp;omega),gi h1,ws (by omega)];simp only[xe,z7];rw[if_pos qB];obtain⟨m,e1,e2⟩:=row_L2 s a i h1 l.length (by omega) hi (hu i tQ) [qz.mk i.span (-1)] i.stops.l 0 (l++[qz.mk i.span (-1)]) rfl (by simp;omega);rw[show ((0:Nat):Int)=0 from rfl]at e1;rw[e1];simp only[z7];have JH:m.length=i.stops.l.length:=by simpa using congrArg List.length e2
  obtain⟨m2,f1,f2⟩:=ih (a+1) (l++[qz.mk i.span (-1)]++m) h2 (by simp only[many,List.length_append,List.length_singleton];omega);refine⟨qz.mk i.span (-1)::(m++m2),by rw[f1];simp, ?_⟩;simp only[List.map_cons,List.map_append,e2,f2,bp,sW,List.length_append,List.length_singleton,JH,strOf,List.cons_append]
theorem row_ok(s:qc)(hs:jX s)(hu: ∀i∈s.insts.l,∀ x∈i.stops.l,-1<=x.up/\x.up<=2^20): ∃l:List TS,aF s=some ⟨l.isEmpty,l⟩/\l.map strOf=bp 0 s.insts.l:=by
 have h1:=Qq hs.2;have h2:s.insts.l.length*2^12<=2^12*2^12:=Nat.mul_le_mul hs.1 (xJ _);have h3:=hs.1;obtain⟨m,e1,e2⟩:=row_L0 s hs hu s.insts.l 0 [] rfl (by simp;omega);refine⟨m, ?_,by simpa using e2⟩;unfold aF;rw[show (0:Int)=((0:Nat):Int)from rfl,e1];simp
def zi(is:List qw)(a:Nat):Nat:=((is.take a).map fun i=>1+i.stops.l.length).sum
theorem GH(s:qc)(hs:jX s)(inst:Nat)(sE:inst<=s.insts.l.length): ∀(d a qk:Nat),a+d=inst->qk+d*(2^12+1)<=2^40->
  yN ((inst:Int),(qk:Int),(a:Int),s)=some ((qk+(zi s.insts.l inst-zi s.insts.l a):Nat):Int):=by
 have nh:=hs.1;intro d;induction d with
 |zero=>
  intro a qk h _;obtain rfl:a=inst:=by omega
  rw[yN.eq_1,if_neg (by simp)];simp
 |succ d ih=>
  intro a qk h hb;have WV:a<s.insts.l.length:=by omega
  have h1:s.insts.l[a]? =some s.insts.l[a]:=kU WV;have h2:=hs.2 _ (List.getElem_mem WV);generalize s.insts.l[a]=i at h1 h2;rw[Nat.succ_mul]at hb;rw[yN.eq_1,if_pos (by simp;omega),gi h1,ws (k:=a) (by omega)];simp only[xe,z7];rw[qI (n:=(qk:Int)+1) (by omega) (by omega),qI (n:=(qk:Int)+1+(i.stops.l.length:Int)) (by omega) (by omega)];rw[show (qk:Int)+1+(i.stops.l.length:Int)=((qk+1+i.stops.l.length:Nat):Int) by omega,ih (a+1) (qk+1+i.stops.l.length) (by omega) (by omega)];have Yo:zi s.insts.l (a+1)=zi s.insts.l a+(1+i.stops.l.length):=by
   unfold zi;rw[List.take_add_one,h1];simp
  have hb2:zi s.insts.l (a+1)<=zi s.insts.l inst:=by
   unfold zi;have:(s.insts.l.take (a+1)).map (fun i=>1+i.stops.l.length)=((s.insts.l.take inst).map (fun i=>1+i.stops.l.length)).take (a+1):=by
    rw[<- List.map_take,List.take_take,Nat.min_eq_left (by omega)]
   rw[this];generalize (s.insts.l.take inst).map (fun i=>1+i.stops.l.length)=L;have:=List.take_append_drop (a+1) L;have h5:=congrArg List.sum this;rw[List.sum_append]at h5;omega
  congr 2;omega
theorem GI(s:qc)(hs:jX s)(qk:ql)(a k:Int)(h:(a= -1/\k= -1)\/KL s qk a k): ∃o:Int,nB s a k=some o/\((a= -1/\o= -1)\/ ∃(a' k' :Nat),a=a' /\k=k' /\o=((zi s.insts.l a' +1+k' :Nat):Int)):=by
 unfold nB;rcases h with ⟨rfl,rfl⟩|⟨a',k',i,x,rfl,rfl,h1,h2,_⟩
 ·rw[if_pos (by simp)];exact⟨-1,rfl,.inl ⟨rfl,rfl⟩⟩
 have WV:=(qF h1).1;have mE:=(qF h2).1;have nh:=hs.1;have DN:=hs.2 i (qX h1);rw[if_neg (by simp;omega),gi h1];simp only[xe,z7];rw[if_neg (by simp;omega),ws (by omega),show(0:Int)=((0:Nat):Int)from rfl,GH s hs a' (by omega) a' 0 (k' +1) (by omega) (by
  have:a' *(2^12+1)<=2^12*(2^12+1):=Nat.mul_le_mul (by omega) (xJ _)
  omega)]
 refine⟨_,rfl,.inr ⟨a',k',rfl,rfl, ?_⟩⟩;have:zi s.insts.l 0=0:=by simp[zi]
 rw[this];congr 1;omega
end Xr
namespace Xr
inductive ia (U:Nat->Int) (c:Nat):Nat->Prop
 |self:ia U c c
 |up (x p:Nat):ia U c x->U x=p->ia U c p
theorem WA{U:Nat->Int}{c r:Nat}(h:ia U c r):r=c\/ ∃p:Nat,U c=p/\ia U p r:=by
 induction h with
 |self=>exact .inl rfl
 |up x p hx hp ih=>
  rcases ih with rfl|⟨p0,h1,h2⟩
  ·exact .inr ⟨p,hp,.self⟩
  exact .inr ⟨p0,h1,.up x p h2 hp⟩
theorem WB{U:Nat->Int}{c p r:Nat}(hp:U c=p)(h:ia U p r):ia U c r:=by
 induction h with
 |self=>exact .up c p .self hp
 |up x q _ hq ih=>exact .up x q ih hq
section
variable {m:Nat} {F W U:Nat->Int} {n:Int}
theorem Ja(hR:Row m F W U n){c q:Nat}(hc:c<m)(h:ia U c q):q<=c:=by
 induction h with
 |self=>exact xJ _
 |up x p _ hp ih=>have:=hR.up x (by omega);omega
theorem Hs(hR:Row m F W U n){c q:Nat}(hc:c<m)(h:ia U c q): ∀y,q<y->y<=c->(q:Int)<=U y:=by
 induction h with
 |self=>intro y h1 h2;omega
 |up x p hx hp ih=>
  intro y h1 h2;have hxc:=Ja hR hc hx;have C0:=hR.up x (by omega);rcases Nat.lt_trichotomy y x with h3|h3|h3
  ·have:=hR.pre x (by omega) y h3 (by omega);omega
  ·subst h3;omega
  have:=ih y h3 h2;omega
theorem anc_has(hR:Row m F W U n){a b:Int}{c q:Nat}(hc:c<m)(hcc:F c<=a/\b<=W c)(h:ia U c q):F q<=a/\b<=W q:=by
 induction h with
 |self=>exact hcc
 |up x p hx hp ih=>
  have hxc:=Ja hR hc hx;have:=hR.nest x (by omega) p hp;omega
def Wide(F W:Nat->Int)(a b:Int)(r:Nat):Prop:=F r<a/\b<W r\/a<b/\F r<=a/\b<=W r
structure HI (m:Nat) (F W U:Nat->Int) (a b:Int) (o r:Nat) (h i:List Bool):Prop where
 hl:h.length=m
 il:i.length=m
 hs: ∀y,h[y]? =some true->ia U o y\/(o<y/\y<r/\(o:Int)<=U y/\(∀ p:Nat,U y=p->h[p]? =some true)/\Wide F W a b y)
 anc: ∀y,ia U o y->h[y]? =some true
 is: ∀y,i[y]? =some true->o<y
theorem HI.hold(hR:Row m F W U n){a b:Int}{o:Nat}(ho:o<m)(DM:F o<=a/\b<=W o)(eM:a<=b){h i:List Bool}{r:Nat}(H:HI m F W U a b o r h i):N5 m F W U (fun y=>h[y]? =some true) a b:=by
 refine⟨?_, ?_, ?_⟩
 ·intro y hy h1 p hp;rcases H.hs y h1 with h2|⟨_,_,_,h2,_⟩
  ·exact H.anc p (.up y p h2 hp)
  exact h2 p hp
 ·intro y hy h1;rcases H.hs y h1 with h2|⟨_,_,_,_,h2⟩
  ·exact anc_has hR ho DM h2
  unfold Wide at h2;omega
 intro y hy q Lu hu h1 h2;rcases H.hs y h2 with h3|⟨h3,_,h4,_,h5⟩
 ·have hyo:=Ja hR ho h3;rcases H.hs q h1 with g|⟨g,_⟩
  ·have:=Hs hR ho g y Lu hyo;have:=hR.up q (by omega);omega
  omega
 have hq:=hR.up q (by omega);rcases H.hs q h1 with g|⟨_,_,_,_,g⟩
 ·have:=Ja hR ho g;omega
 have:=hR.N1 y hy q Lu hu;unfold Wide at h5 g;omega
end
theorem xP{α:Type}(l:List α)(k:Nat)(v:α)(j:Nat):(l.set k v)[j]? =if k=j/\j<l.length then some v else l[j]? :=by
 rw[List.getElem?_set];by_cases h:k=j
 ·subst h;by_cases h2:k<l.length
  ·simp[h2]
  simp[h2]
 simp[h]
section
variable (L:List TS) (e:qo) (deep:Bool) (ow:Int)
theorem hold_L0{n:Int}(hR:Row (L.map strOf).length (FO (L.map strOf)) (FV (L.map strOf)) (PY (L.map strOf)) n)(z:Bool)(i_:List Bool): ∀(c:Nat)(h:List Bool),c<L.length->h.length=L.length->
  ∃h' :List Bool,ye (⟨z,L⟩,ow,deep,(c:Int),e,h,i_)=some h' /\h'.length=L.length/\ ∀y,h'[y]? =some true↔h[y]? =some true\/ia (PY (L.map strOf)) c y:=by
 intro c;induction c using Nat.strongRecOn with
 |_ c ih=>
 intro h hc hl;have hx:L[c]? =some L[c]:=kU hc;generalize L[c]=x at hx;obtain⟨w,hw⟩:=gl (l:=h) (k:=c) (by omega);have hu:=hR.up c (by simpa using hc);have C0:PY (L.map strOf) c=x.up:=by
  have:(L.map strOf)[c]? =some (strOf x):=by simp[hx]
  rw[(cM this).2.2];rfl
 have nN: ∀y,(h.set c true)[y]? =some true↔h[y]? =some true\/y=c:=by
  intro y;rw[xP];by_cases e1:c=y
  ·subst e1;simp[hl,hc]
  simp[e1];omega
 rw[ye.eq_1,if_pos (by simp),gi hw,gi hx];simp only[xe,z7,Int.toNat_natCast];by_cases hp:0<=x.up
 ·obtain⟨p,hp⟩: ∃p:Nat,x.up=p:=⟨x.up.toNat,by omega⟩;obtain⟨h',g1,g2,g3⟩:=ih p (by omega) (h.set c true) (by omega) (by simp[hl]);refine⟨h',by rw[hp,g1],g2,fun y=>?_⟩;rw[g3,nN];constructor
  ·rintro((k|rfl)|k)
   ·exact .inl k
   ·exact .inr .self
   exact .inr (WB (by rw[C0,hp]) k)
  rintro(k|k)
  ·exact .inl (.inl k)
  rcases WA k with rfl|⟨q,hq,k⟩
  ·exact .inl (.inr rfl)
  obtain rfl:q=p:=by omega
  exact .inr k
 rw[ye.eq_1,if_neg (by simpa using hp)];refine⟨_,rfl,by simp[hl],fun y=>?_⟩;rw[nN];constructor
 ·rintro(k|rfl)
  ·exact .inl k
  exact .inr .self
 rintro(k|k)
 ·exact .inl k
 rcases WA k with rfl|⟨q,hq,_⟩
 ·exact .inr rfl
 omega
def inW(o:Int)(x:TS)(i_:List Bool):Bool:=decide (0<=x.up)&&(decide (x.up=o) || (i_.getD x.up.toNat false))
def Li(e:qo)(x:TS):Bool:=(decide (x.span.qO<e.span.qO)&&decide (x.span.to>e.span.to)) || (decide (e.span.qO<e.span.to)&&decide (xo e.span x.span))
def G5(o:Int)(e:qo)(x:TS)(h i_:List Bool):Bool:=inW o x i_&&(h.getD x.up.toNat false&&Li e x)
theorem SW(z:Bool)(ho:0<=ow)(r:Nat)(x:TS)(hx:L[r]? =some x)(hr:r<2^60)(hu:x.up<(r:Nat))(h i_:List Bool)(hl:h.length=L.length)(hi:i_.length=L.length):
  qD (⟨z,L⟩,ow,true,(r:Int),e,h,i_)=qD (⟨z,L⟩,ow,true,((r+1:Nat):Int),e,h.set r (G5 ow e x h i_),i_.set r (inW ow x i_)):=by
 have Tl:=(qF hx).1;obtain⟨w1,JM⟩:=gl (l:=h) (k:=r) (by omega);obtain⟨w2,Tp⟩:=gl (l:=i_) (k:=r) (by omega);have gs: ∀v,qi (i_.set r v) (r:Int)=some v:=fun v=>gi (by rw[xP];simp[hi,Tl]);rw[qD.eq_1,if_pos (by simp[ho];omega),gi hx,ws hr,gi JM,gi Tp];simp only[xe,z7,gs,rA,Int.toNat_natCast];generalize ((r+1:Nat):Int)=q;by_cases c0:0<=x.up
 ·obtain⟨p,hp⟩: ∃p:Nat,x.up=p:=⟨x.up.toNat,by omega⟩;obtain⟨hb,hhb⟩:=gl (l:=h) (k:=p) (by omega);obtain⟨ib,hib⟩:=gl (l:=i_) (k:=p) (by omega);have d1:h.getD x.up.toNat false=hb:=by rw[hp];simp[hhb]
  have d2:i_.getD x.up.toNat false=ib:=by rw[hp];simp[hib]
  have e1:qi h x.up=some hb:=by rw[hp];exact gi hhb
  have e2:qi i_ x.up=some ib:=by rw[hp];exact gi hib
  simp only[G5,inW,Li,d1,d2,e1,e2,z7];by_cases c1:x.up=ow<;>by_cases c2:x.span.qO<e.span.qO<;>by_cases c3:e.span.qO<e.span.to<;>by_cases c4:x.span.to>e.span.to<;>by_cases c5:xo e.span x.span<;>cases hb<;>cases ib<;>simp[c0,c1,c2,c3,c4,c5,ho]
 simp only[G5,inW,c0,decide_false,Bool.false_and];by_cases c2:x.span.qO<e.span.qO<;>by_cases c3:e.span.qO<e.span.to<;>simp[c0,c2,c3]
end
end Xr
namespace Xr
abbrev FL(L:List TS):=FO (L.map strOf)
abbrev TL(L:List TS):=FV (L.map strOf)
abbrev UL(L:List TS):=PY (L.map strOf)
abbrev RowL(L:List TS)(n:Int):=Row (L.map strOf).length (FL L) (TL L) (UL L) n
section
variable (L:List TS) (e:qo) {n:Int}
variable (hR:RowL L n) (hLl:L.length<2^30)
theorem at_L{L:List TS}{r:Nat}{x:TS}(h:L[r]? =some x):FL L r=x.span.qO/\TL L r=x.span.to/\UL L r=x.up:=by
 have:(L.map strOf)[r]? =some (strOf x):=by simp[h]
 exact cM this
theorem HI.next(hR:RowL L n)(he:gx e n){o r:Nat}(hor:o<r){x:TS}(hx:L[r]? =some x){h i_:List Bool}(H:HI L.length (FL L) (TL L) (UL L) e.span.qO e.span.to o r h i_):
  HI L.length (FL L) (TL L) (UL L) e.span.qO e.span.to o (r+1) (h.set r (G5 o e x h i_)) (i_.set r (inW o x i_)):=by
 have Tl:=(qF hx).1;obtain⟨a1,a2,a3⟩:=at_L hx;have hu:=hR.up r (by simpa using Tl);have hnot: ¬ia (UL L) o r:=fun k=>by
  have:=Ja hR (by simpa using(show o<L.length by omega)) k;omega
 have sE:inW o x i_=true->(o:Int)<=x.up:=by
  intro k;simp only[inW,zB,Bool.or_eq_true,decide_eq_true_eq]at k;rcases k.2 with k1|k1
  ·omega
  have:i_[x.up.toNat]? =some true:=by
   cases h1:i_[x.up.toNat]? with
   |none=>simp[h1]at k1
   |some v=>simp[h1]at k1;rw[k1]
  have:=H.is _ this;omega
 refine⟨by simp[H.hl],by simp[H.il], ?_, ?_, ?_⟩
 ·intro y hy;rw[xP]at hy;split at hy
  ·rename_i c;obtain⟨rfl,_⟩:=c;right;simp only[kX]at hy;simp only[G5,zB]at hy;obtain⟨k1,k2,k3⟩:=hy;have k4:=sE k1;refine⟨hor,by omega,by omega, ?_, ?_⟩
   ·intro p hp;have Ed:x.up=p:=by omega
    have hpr:p<r:=by omega
    rw[xP,if_neg (by omega)];rw[Ed]at k2;cases h1:h[p]? with
    |none=>simp[h1]at k2
    |some v=>simp[h1]at k2;rw[k2]
   simp only[Li,Bool.or_eq_true,zB,decide_eq_true_eq]at k3;unfold xo at k3;unfold Wide;rw[a1,a2];omega
  rcases H.hs y hy with k|⟨k1,k2,k3,k4,k5⟩
  ·exact .inl k
  refine .inr ⟨k1,by omega,k3,fun p hp=>?_,k5⟩;have:=k4 p hp;rw[xP];have sH:=(qF this).1;have Xm:=hR.up y (by simp;have:=(qF hy).1;have:=H.hl;omega);rw[if_neg (by omega)];exact this
 ·intro y hy;rw[xP,if_neg (fun c=>hnot (by rw[c.1];exact hy))];exact H.anc y hy
 intro y hy;rw[xP]at hy;split at hy
 ·rename_i c;omega
 exact H.is y hy
include hR hLl in
theorem hold_L2(he:gx e n)(z:Bool)(o:Nat): ∀(d r:Nat)(h i_:List Bool),r+d=L.length->o<r->HI L.length (FL L) (TL L) (UL L) e.span.qO e.span.to o r h i_->
  ∃h' i',qD (⟨z,L⟩,(o:Int),true,(r:Int),e,h,i_)=some (h',i')/\HI L.length (FL L) (TL L) (UL L) e.span.qO e.span.to o L.length h' i' :=by
 intro d;induction d with
 |zero=>
  intro r h i_ hr _ H;obtain rfl:r=L.length:=by omega
  rw[qD.eq_1,if_neg (by simp)];exact⟨h,i_,rfl,H⟩
 |succ d ih=>
  intro r h i_ hr hor H;obtain⟨x,hx⟩:=gl (l:=L) (k:=r) (by omega);have hu:=hR.up r (by simp;omega);obtain⟨_,_,ha⟩:=at_L hx;rw[SW L e (o:Int) z (by omega) r x hx (by omega) (by omega) h i_ H.hl H.il];exact ih (r+1) _ _ (by omega) (by omega) (HI.next L e hR he hor hx H)
include hR hLl in
theorem hold_ok(he:gx e n)(z deep:Bool)(ow:Int)(ho:ow= -1\/ ∃o:Nat,ow=o/\o<L.length/\FL L o<=e.span.qO/\e.span.to<=TL L o):
  ∃h:List Bool,dh ⟨z,L⟩ ow e deep=some ⟨false,h⟩/\h.length=L.length/\N5 (L.map strOf).length (FL L) (TL L) (UL L) (fun y=>h[y]? =some true) e.span.qO e.span.to/\(∀ o:Nat,ow=o->h[o]? =some true):=by
 have eM:=he.ab;have h0: ∀(k:Nat),(List.replicate L.length false)[k]? ≠some true:=by
  intro k;rw[List.getElem?_replicate];split<;>simp
 unfold dh;rw[if_pos (by simp),if_pos (qB (by simp;omega) (by omega)),if_pos (by simp),if_pos (qB (by simp;omega) (by omega))];simp only[Int.toNat_natCast];rcases ho with rfl|⟨o,rfl,Eb,DI⟩
 ·rw[ye.eq_1,if_neg (by simp)];simp only[xe,z7];rw[qD.eq_1,if_neg (by simp)];refine⟨_,rfl,by simp,⟨fun r hr hh=>absurd hh (h0 r),fun r hr hh=>absurd hh (h0 r),fun r hr q hq hu hh=>absurd hh (h0 q)⟩,fun o ho=>by omega⟩
 obtain⟨h1,g1,g2,g3⟩:=hold_L0 L e deep (o:Int) hR z (List.replicate L.length false) o (List.replicate L.length false) Eb (by simp);rw[g1];simp only[xe,z7];have H:HI L.length (FL L) (TL L) (UL L) e.span.qO e.span.to o (o+1) h1 (List.replicate L.length false):=by
  refine⟨g2,by simp,fun y hy=>?_,fun y hy=>(g3 y).2 (.inr hy),fun y hy=>absurd hy (h0 y)⟩;rcases(g3 y).1 hy with k|k
  ·exact absurd k (h0 y)
  exact .inl k
 have hol2:o<(L.map strOf).length:=by simpa using Eb
 cases deep with
 |false=>
  rw[qD.eq_1,if_neg (by simp)];have:=HI.hold hR hol2 DI eM (by simpa using H);exact⟨h1,rfl,g2,this,fun o' ho' =>by
   have e1:o=o' :=by omega
   rw[<- e1]
   exact H.anc o .self⟩
 |true=>
  obtain⟨h',i',k1,k2⟩:=hold_L2 L e hR hLl he z o (L.length-(o+1)) (o+1) h1 _ (by omega) (by omega) H;rw[ws (by omega),k1];have:=HI.hold hR hol2 DI eM (by simpa using k2);exact⟨h',rfl,k2.hl,this,fun o' ho' =>by
   have e1:o=o' :=by omega
   rw[<- e1]
   exact k2.anc o .self⟩
theorem last_L0(z:Bool)(h:List Bool)(hl:h.length=L.length)(hLl:L.length<2^30): ∀(d r:Nat)(last:Int),r+d=L.length->((last= -1/\ ∀y,y<r->h[y]? ≠some true)\/ ∃q:Nat,last=q/\h[q]? =some true/\ ∀y,y<r->h[y]? =some true->y<=q)->
  ∃EF:Int,wN (⟨z,L⟩,⟨false,h⟩,last,(r:Int),e)=some EF/\((EF= -1/\ ∀y:Nat,h[y]? ≠some true)\/ ∃q:Nat,EF=q/\h[q]? =some true/\ ∀y:Nat,h[y]? =some true->y<=q):=by
 intro d;induction d with
 |zero=>
  intro r last hr Th;obtain rfl:r=L.length:=by omega
  rw[wN.eq_1,if_neg (by simp)];have lt: ∀y:Nat,h[y]? =some true->y<L.length:=fun y hy=>by have:=(qF hy).1;omega
  refine⟨last,rfl, ?_⟩;rcases Th with ⟨k1,k2⟩|⟨q,k1,k2,k3⟩
  ·exact .inl ⟨k1,fun y hy=>k2 y (lt y hy) hy⟩
  exact .inr ⟨q,k1,k2,fun y hy=>k3 y (lt y hy) hy⟩
 |succ d ih=>
  intro r last hr Th;obtain⟨w,hw⟩:=gl (l:=h) (k:=r) (by omega);rw[wN.eq_1,if_pos (by simp;omega),gi hw,ws (by omega)];simp only[xe,z7];cases w with
  |true=>
   rw[if_pos rfl];exact ih (r+1) (r:Int) (by omega) (.inr ⟨r,rfl,hw,fun y hy _=>by omega⟩)
  |false=>
   rw[if_neg (by simp)];refine ih (r+1) last (by omega) ?_;have ne: ∀y:Nat,h[y]? =some true->y≠r:=fun y hy e=>by subst e;rw[hw]at hy;cases hy
   rcases Th with ⟨k1,k2⟩|⟨q,k1,k2,k3⟩
   ·exact .inl ⟨k1,fun y hy h1=>k2 y (by have:=ne y h1;omega) h1⟩
   exact .inr ⟨q,k1,k2,fun y hy h1=>k3 y (by have:=ne y h1;omega) h1⟩
def dD(e:qo)(last:Int)(r:Nat)(x:TS)(h:List Bool)(out:List Int):Int:=
 if h.getD r false=true then 0
 else if 0<=x.up/\out.getD x.up.toNat 0=1 then 1
 else if x.span.qO<e.span.to/\e.span.qO<x.span.to then 1
 else if 0<=x.up/\h.getD x.up.toNat false=false then out.getD x.up.toNat 0
 else if x.span.to<e.span.qO\/x.span.to=e.span.qO/\(x.span.qO<x.span.to\/(r:Int)<last\/last<0)then 2 else 3
theorem D7(z:Bool)(h:List Bool)(last:Int)(r:Nat)(x:TS)(hx:L[r]? =some x)(hr:r<2^60)(hu:x.up<(r:Nat))(out:List Int)(hl:h.length=L.length)(ho:out.length=L.length):
  zK (⟨z,L⟩,⟨false,h⟩,last,(r:Int),e,out)=zK (⟨z,L⟩,⟨false,h⟩,last,((r+1:Nat):Int),e,out.set r (dD e last r x h out)):=by
 have Tl:=(qF hx).1;obtain⟨hw,hhw⟩:=gl (l:=h) (k:=r) (by omega);obtain⟨ow,how⟩:=gl (l:=out) (k:=r) (by omega);have d0:h.getD r false=hw:=by simp[hhw]
 rw[zK.eq_1,if_pos (by simp;omega),gi hx,ws hr,gi hhw,gi how];simp only[xe,z7,Int.toNat_natCast,dD,d0];generalize ((r+1:Nat):Int)=q;cases hw with
 |true=>simp
 |false=>
  by_cases c0:0<=x.up
  ·obtain⟨p,hp⟩: ∃p:Nat,x.up=p:=⟨x.up.toNat,by omega⟩;obtain⟨hb,hhb⟩:=gl (l:=h) (k:=p) (by omega);obtain⟨ob,hob⟩:=gl (l:=out) (k:=p) (by omega);have d1:h.getD x.up.toNat false=hb:=by rw[hp];simp[hhb]
   have d2:out.getD x.up.toNat 0=ob:=by rw[hp];simp[hob]
   have e1:qi h x.up=some hb:=by rw[hp];exact gi hhb
   have e2:qi out x.up=some ob:=by rw[hp];exact gi hob
   simp only[d1,d2,e1,e2,z7];by_cases c1:ob=1<;>by_cases c2:x.span.qO<e.span.to<;>by_cases c3:e.span.qO<x.span.to<;>by_cases c4:x.span.to<e.span.qO<;>by_cases c5:x.span.to=e.span.qO<;>by_cases c6:x.span.qO<x.span.to<;>by_cases c7:(r:Int)<last<;>by_cases c8:last<0<;>cases hb<;>simp[c0,c1,c2,c3,c4,c5,c6,c7,c8]<;>split<;>rfl
  have: ¬(0<=x.up/\out.getD x.up.toNat 0=1):=fun k=>c0 k.1;by_cases c2:x.span.qO<e.span.to<;>by_cases c3:e.span.qO<x.span.to<;>by_cases c4:x.span.to<e.span.qO<;>by_cases c5:x.span.to=e.span.qO<;>by_cases c6:x.span.qO<x.span.to<;>by_cases c7:(r:Int)<last<;>by_cases c8:last<0<;>simp[c0,c2,c3,c4,c5,c6,c7,c8]<;>split<;>rfl
end
end Xr
namespace Xr
section
variable (L:List TS) (e:qo) {n:Int}
variable (hR:RowL L n) (hLl:L.length<2^30)
theorem HX(l:List Int)(k:Nat)(v:Int)(j:Nat):(l.set k v).getD j 0=if k=j/\j<l.length then v else l.getD j 0:=by
 rw[List.getD_eq_getElem?_getD,xP];split<;>simp[*]
include hR in
theorem OD(z:Bool)(h:List Bool)(last:Int)(hl:h.length=L.length)(hLl:L.length<2^30): ∀(d r:Nat)(out:List Int),r+d=L.length->out.length=L.length->
  (∀ y x,y<r->L[y]? =some x->out.getD y 0=dD e last y x h out)->
  ∃out' :List Int,zK (⟨z,L⟩,⟨false,h⟩,last,(r:Int),e,out)=some out' /\out'.length=L.length/\ ∀y x,L[y]? =some x->out'.getD y 0=dD e last y x h out' :=by
 intro d;induction d with
 |zero=>
  intro r out hr ho H;obtain rfl:r=L.length:=by omega
  rw[zK.eq_1,if_neg (by simp)];exact⟨out,rfl,ho,fun y x hx=>H y x (qF hx).1 hx⟩
 |succ d ih=>
  intro r out hr ho H;obtain⟨x,hx⟩:=gl (l:=L) (k:=r) (by omega);have La: ∀(y:Nat)(x:TS),L[y]? =some x->x.up<y:=by
   intro y x hx;have hy:=(qF hx).1;have h1:=hR.up y (by simpa using hy);obtain⟨_,_,h2⟩:=at_L hx;omega
  have hu:=La r x hx;rw[D7 L e z h last r x hx (by omega) hu out hl ho];have ka: ∀(y:Nat)(x:TS),y<=r->L[y]? =some x-> ∀v,dD e last y x h (out.set r v)=dD e last y x h out:=by
   intro y x hy hx v;have h1:=La y x hx;by_cases c:0<=x.up
   ·have g:(out.set r v).getD x.up.toNat 0=out.getD x.up.toNat 0:=by rw[HX,if_neg (by omega)]
    unfold dD;rw[g]
   unfold dD;simp[c]
  refine ih (r+1) _ (by omega) (by simp[ho]) fun y x' hy oh=>?_;rw[HX,ka y x' (by omega) oh];by_cases c:r=y
  ·subst c;rw[if_pos ⟨rfl,by omega⟩];rw[hx]at oh;cases oh;rfl
  rw[if_neg (by omega)];exact H y x' (by omega) oh
include hR in
theorem OE(z:Bool)(h:List Bool)(hl:h.length=L.length)(hLl:L.length<2^30): ∃(sd:List Int)(last:Int),sk ⟨z,L⟩ ⟨false,h⟩ e=some ⟨false,sd⟩/\sd.length=L.length/\
  Side (L.map strOf).length (FL L) (TL L) (UL L) (fun y=>h[y]? =some true) e.span.qO e.span.to last (fun r=>sd.getD r 0):=by
 obtain⟨last,h1,h2⟩:=last_L0 L e z h hl hLl L.length 0 (-1) (by omega) (.inl ⟨rfl,fun y hy=>by omega⟩);unfold sk;rw[show ((0:Nat):Int)=0 from rfl]at h1;rw[h1];simp only[xe,z7];rw[if_pos (by simp),if_pos (qB (by simp;omega) (by omega))];obtain⟨sd,g1,g2,g3⟩:=OD L e hR z h last hl hLl L.length 0 (List.replicate L.length 0) (by omega) (by simp) fun y x hy=>by omega
 simp only[Int.toNat_natCast];rw[show ((0:Nat):Int)=0 from rfl]at g1;rw[g1];refine⟨sd,last,rfl,g2, ?_⟩;have hd: ∀y:Nat,y<L.length->(h.getD y false=true↔h[y]? =some true):=by
  intro y hy;obtain⟨v,hv⟩:=gl (l:=h) (k:=y) (by omega);simp[hv]
 have qk: ∀r,r<(L.map strOf).length-> ∃x,L[r]? =some x/\FL L r=x.span.qO/\TL L r=x.span.to/\UL L r=x.up/\sd.getD r 0=dD e last r x h sd:=by
  intro r hr;obtain⟨x,hx⟩:=gl (l:=L) (k:=r) (by simpa using hr);obtain⟨a1,a2,a3⟩:=at_L hx;exact⟨x,hx,a1,a2,a3,g3 r x hx⟩
 have JH:(L.map strOf).length=L.length:=by simp
 have upl: ∀(r:Nat)(p:Nat),r<(L.map strOf).length->UL L r=p->p<L.length:=by
  intro r p hr hp;have:=hR.up r hr;omega
 constructor
 ·intro r hr hh;obtain⟨x,hx,a1,a2,a3,a4⟩:=qk r hr;rw[a4];unfold dD;rw[if_pos ((hd r (by omega)).2 hh)]
 ·intro r hr hh p hp hs;obtain⟨x,hx,a1,a2,a3,a4⟩:=qk r hr;rw[a4];unfold dD;rw[if_neg (fun k=>hh ((hd r (by omega)).1 k)),if_pos ⟨by omega,by rw[show x.up.toNat=p by omega];exact hs⟩]
 ·intro r hr hh hs hf ht;obtain⟨x,hx,a1,a2,a3,a4⟩:=qk r hr;rw[a4];unfold dD;rw[if_neg (fun k=>hh ((hd r (by omega)).1 k)),if_neg (fun k=>hs x.up.toNat (by omega) k.2),if_pos ⟨by omega,by omega⟩]
 ·intro r hr hh hs hk p hp hnp;obtain⟨x,hx,a1,a2,a3,a4⟩:=qk r hr;have sH:=upl r p hr hp;have Ed:x.up.toNat=p:=by omega
  have Er:h.getD p false=false:=by
   cases hb:h.getD p false with
   |false=>rfl
   |true=>exact absurd ((hd p sH).1 hb) hnp
  rw[a4];unfold dD;rw[if_neg (fun k=>hh ((hd r (by omega)).1 k)),if_neg (fun k=>hs x.up.toNat (by omega) k.2),if_neg (fun k=>hk ⟨by omega,by omega⟩),Ed,if_pos ⟨by omega,Er⟩]
 ·intro r hr hh hs hk hz;obtain⟨x,hx,a1,a2,a3,a4⟩:=qk r hr;rw[a4];unfold dD;rw[if_neg (fun k=>hh ((hd r (by omega)).1 k)),if_neg (fun k=>(hs x.up.toNat (by omega)).1 k.2),if_neg (fun k=>hk ⟨by omega,by omega⟩),if_neg,if_pos (by omega)];rintro⟨k1,k2⟩;have h3:=(hs x.up.toNat (by omega)).2;have sH:=upl r x.up.toNat hr (by omega);rw[(hd _ sH).2 h3]at k2;cases k2
 ·intro r hr hh hs hk hz;obtain⟨x,hx,a1,a2,a3,a4⟩:=qk r hr;rw[a4];unfold dD;rw[if_neg (fun k=>hh ((hd r (by omega)).1 k)),if_neg (fun k=>(hs x.up.toNat (by omega)).1 k.2),if_neg (fun k=>hk ⟨by omega,by omega⟩),if_neg,if_neg (by omega)];rintro⟨k1,k2⟩;have h3:=(hs x.up.toNat (by omega)).2;have sH:=upl r x.up.toNat hr (by omega);rw[(hd _ sH).2 h3]at k2;cases k2
 ·intro r hr hh;rcases h2 with ⟨k1,k2⟩|⟨q,k1,k2,k3⟩
  ·exact absurd hh (k2 r)
  have:=k3 r hh;omega
 ·intro Th;rcases h2 with ⟨k1,k2⟩|⟨q,k1,k2,k3⟩
  ·omega
  exact⟨q,k1,by have:=(qF k2).1;omega,k2⟩
 rcases h2 with ⟨k1,k2⟩|⟨q,k1,k2,k3⟩<;>omega
end
end Xr
namespace Xr
structure fp (is:List qw) (fl:Sl (Sl Int)):Prop where
 len:fl.l.length=is.length
 nn:is≠[]->fl.nil=false
 each: ∀(a:Nat)(i:qw)(f:Sl Int),is[a]? =some i->fl.l[a]? =some f->f.l.length=i.stops.l.length/\(i.stops.l≠[]->f.nil=false)/\ ∀v∈f.l,0<=v/\v<=3
section
variable (e:qo) (n:Int) (he:gx e n) (mark:Bool) (sd:List Int) (s:qc) (Wu:qc) (cur:Int) (flags:Sl (Sl Int)) (r6:List qw) (i1 i2:Int)
abbrev lX(sd:List Int):Nat->Int:=fun r=>sd.getD r 0
abbrev NS(e:qo)(sd:List Int):=tC e.span.qO e.span.to e.text.length (lX sd)
theorem tmod2(v:Int)(h:0<=v/\v<=3)(c:v.tmod 2=0):v<=2:=by
 rcases(show v=0\/v=1\/v=2\/v=3 by omega)with rfl|rfl|rfl|rfl<;>simp_all (config:={ decide:=true })
include he in
theorem OB(a b0:Nat)(al:Bool)(i:qw)(hi:s.insts.l[a]? =some i)(hb:b0+1+i.stops.l.length<=sd.length)(hsd:sd.length<=2^30)(hL:i.stops.l.length<=2^12)
  (hrng: ∀x∈i.stops.l,0<=x.span.qO/\x.span.qO<=x.span.to/\x.span.to<=n)
  (Ec: ∀(k:Nat)(x:qu),i.stops.l[k]? =some x-> -1<=x.up/\ ∀p:Nat,x.up=p->p<k/\(lX sd (b0+1+k)≠1->lX sd (b0+1+p)≠1))
  (f0:Sl Int) (hf0:f0.l.length=i.stops.l.length) (hfn:i.stops.l≠[]->f0.nil=false) (hfb: ∀v∈f0.l,0<=v/\v<=3):
  ∀(r:List qu)(k:Nat)(fl:Sl (Sl Int))(z6 f:List Int)(out:List qu),i.stops.l.drop k=r->k<=i.stops.l.length->fl.l[a]? =some f0->fl.nil=false->z6.length=i.stops.l.length->
  (∀ j,j<k->lX sd (b0+1+j)≠1->z6[j]? =some ((oi (lX sd) (b0+1) j:Nat):Int))->out.length=oi (lX sd) (b0+1) k->out.length<=k->f.length<=k->(∀ v∈f,0<=v/\v<=3)->
  ∃(pl' f' :List Int),xZ (mark,⟨false,sd⟩,((b0+1+k:Nat):Int),(a:Int),al,(k:Int),fl,s,e,Wu,cur,flags,r6,i1,i2,z6,f,out)=
   some (((b0+1+i.stops.l.length:Nat):Int),fl,pl',f',out++NS e sd (b0+1) k r)/\f'.length=f.length+(NS e sd (b0+1) k r).length/\ ∀v∈f',0<=v/\v<=3:=by
 intro r;induction r with
 |nil=>
  intro k fl z6 f out h mE _ _ _ _ _ sG _ hfv;have h1:=zc h;rw[xZ.eq_1,gi hi];simp only[xe,z7];rw[if_neg (by simp;omega)];obtain rfl:k=i.stops.l.length:=by omega
  exact⟨z6,f,by simp[NS,tC],by simp[NS,tC],hfv⟩
 |cons x r ih=>
  intro k fl z6 f out h mE Z5 AX sH hplc Z8 sG hfk hfv;obtain⟨h1,h2,h3⟩:=zp h;have hx:=hrng x (qX h1);have hp:=Ec k x h1;obtain⟨sv,hsv⟩:=gl (l:=sd) (k:=b0+1+k) (by omega);have Ei:lX sd (b0+1+k)=sv:=by simp[lX,hsv]
  obtain⟨fv,hfv1⟩:=gl (l:=f0.l) (k:=k) (by omega);have hfv0:=hfb fv (qX hfv1);obtain⟨pv,hpv⟩:=gl (l:=z6) (k:=k) (by omega);have jv:i.stops.l≠[]:=fun c=>by rw[c]at h3;simp at h3
  have hwr:IntKind.i64.wrap (((b0+1+k:Nat):Int)+1)=((b0+1+(k+1):Nat):Int):=ws (by omega);rw[xZ.eq_1,gi hi];simp only[xe,z7];rw[if_pos (by simp;omega),gi h1,gi hsv,hwr,ws (k:=k) (by omega)];simp only[z7];by_cases c1:sv=1
  ·rw[if_pos (by simpa using c1)];have e1:NS e sd (b0+1) k (x::r)=NS e sd (b0+1) (k+1) r:=by
    show tC _ _ _ _ _ _ (x::r)=_;rw[tC,if_pos (by rw[Ei];exact c1)]
   rw[e1];refine ih (k+1) fl z6 f out h2 (by omega) Z5 AX sH (fun j hj hs=>?_) ?_ (by omega) (by omega) hfv
   ·by_cases c:j=k
    ·subst c;exact absurd (Ei.trans c1) hs
    exact hplc j (by omega) hs
   rw[oi,if_pos (by rw[Ei];exact c1)];simpa using Z8
  rw[if_neg (by simpa using c1),Gv e n he x.span hx.1 hx.2.1 hx.2.2 sv];simp only[z7];have e1:NS e sd (b0+1) k (x::r)=Cl e.span.qO e.span.to e.text.length (lX sd) (b0+1) k x::NS e sd (b0+1) (k+1) r:=by
   show tC _ _ _ _ _ _ (x::r)=_;rw[tC,if_neg (by rw[Ei];exact c1)]
  have hnst: ∀up:Int,(if 0<=x.up then((oi (lX sd) (b0+1) x.up.toNat:Nat):Int)else x.up)=up->qu.mk (Mt e.span.qO e.span.to e.text.length sv x.span) x.n up x.first x.qJ x.qP x.opts=Cl e.span.qO e.span.to e.text.length (lX sd) (b0+1) k x:=by
   intro up hu;unfold Cl;rw[hu,Ei]
  have hplk:oi (lX sd) (b0+1) (k+1)=oi (lX sd) (b0+1) k+1:=by rw[oi,if_neg (by rw[Ei];exact c1)]
  have nN: ∀j,j<k+1->lX sd (b0+1+j)≠1->(z6.set k (out.length:Int))[j]? =some ((oi (lX sd) (b0+1) j:Nat):Int):=by
   intro j hj hs;rw[xP];by_cases c:k=j
   ·subst c;rw[if_pos ⟨rfl,by omega⟩,Z8]
   rw[if_neg (by omega)];exact hplc j (by omega) hs
  have ZF: ∀(up fv' :Int),(if 0<=x.up then((oi (lX sd) (b0+1) x.up.toNat:Nat):Int)else x.up)=up->0<=fv' /\fv' <=3->
    ∃(pl' f' :List Int),xZ (mark,⟨false,sd⟩,((b0+1+(k+1):Nat):Int),(a:Int),al,((k+1:Nat):Int),fl,s,e,Wu,cur,flags,r6,i1,i2,z6.set k (out.length:Int),f++[fv'],out++[qu.mk (Mt e.span.qO e.span.to e.text.length sv x.span) x.n up x.first x.qJ x.qP x.opts])=
     some (((b0+1+i.stops.l.length:Nat):Int),fl,pl',f',out++NS e sd (b0+1) k (x::r))/\f'.length=f.length+(NS e sd (b0+1) k (x::r)).length/\ ∀v∈f',0<=v/\v<=3:=by
   intro up fv' hu hfv';rw[hnst up hu,e1];obtain⟨pl',f',g1,g2,g3⟩:=ih (k+1) fl (z6.set k (out.length:Int)) (f++[fv']) (out++[Cl e.span.qO e.span.to e.text.length (lX sd) (b0+1) k x]) h2 (by omega) Z5 AX (by simp[sH]) nN (by rw[hplk];simp[Z8]) (by simp;omega) (by simp;omega) (by
    intro v hv
    rcases List.mem_append.1 hv with hv|hv
    ·exact hfv v hv
    simp only[List.mem_singleton]at hv
    subst hv
    exact hfv')
   refine⟨pl',f',by rw[g1];simp,by simp only[List.length_append,List.length_cons,List.length_nil]at g2 |-; omega,g3⟩
  have hflE:(⟨false,fl.l⟩:Sl (Sl Int))=fl:=by rw[<- AX]
  have hz:f0.nil=false:=hfn jv;have w3:(mark&&((sv==0)&&(fv.tmod 2==0)))=true->0<=IntKind.i64.wrap (fv+1)/\IntKind.i64.wrap (fv+1)<=3:=by
   intro c;simp only[zB,beq_iff_eq]at c;have:=tmod2 fv hfv0 c.2.2;rw[qI (by omega) (by omega)];omega
  by_cases c2:0<=x.up
  ·obtain⟨p,hpp⟩: ∃p:Nat,x.up=p:=⟨x.up.toNat,by omega⟩;obtain⟨q1,q2⟩:=hp.2 p hpp;have hpp2:=hplc p q1 (q2 (by rw[Ei];exact c1));have Xm:(if 0<=x.up then((oi (lX sd) (b0+1) x.up.toNat:Nat):Int)else x.up)=((oi (lX sd) (b0+1) p:Nat):Int):=by rw[if_pos c2,show x.up.toNat=p by omega]
   rw[if_pos (by simpa using c2),show x.up=((p:Nat):Int)from hpp,gi hpp2,gi hpv];simp only[z7];rw[if_pos qB,AX,if_neg (by simp),gi Z5];simp only[z7];rw[hz,if_neg (by simp),gi hfv1];simp only[z7,Int.toNat_natCast];rw[if_pos qB,if_pos qB,hflE];split
   ·rename_i c3;exact ZF _ _ Xm (w3 c3)
   exact ZF _ _ Xm hfv0
  have Xm:(if 0<=x.up then((oi (lX sd) (b0+1) x.up.toNat:Nat):Int)else x.up)=x.up:=by rw[if_neg c2]
  rw[if_neg (by simpa using c2),gi hpv];simp only[z7];rw[if_pos qB,AX,if_neg (by simp),gi Z5];simp only[z7];rw[hz,if_neg (by simp),gi hfv1];simp only[z7,Int.toNat_natCast];rw[if_pos qB,if_pos qB,hflE];split
  ·rename_i c3;exact ZF _ _ Xm (w3 c3)
  exact ZF _ _ Xm hfv0
end
end Xr
end Go.Proofs.YtmllebdamdnhoaaGreat
