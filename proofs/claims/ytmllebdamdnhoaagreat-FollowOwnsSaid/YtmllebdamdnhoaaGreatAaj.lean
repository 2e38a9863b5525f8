/-
  Transforms, trees: which may be.
-/
import Derived.Test.YtmllebdamdnhoaaGreatAad
set_option linter.unusedSimpArgs false
set_option linter.unusedVariables false
set_option maxRecDepth 100000
namespace Go.Proofs.YtmllebdamdnhoaaGreat
open Go Go.Gm
theorem R0(n:Nat):jO Tryz.prog 24 ql.enc (fun _=>True) n:=by
 have h:=jO.struct (P:=Tryz.prog) (t:=24) (c:=2) (n:=n) Tryz.underlying24 (by kernel_rfl) (fun _=>by simp[Qz,YJ,ql.qN,zX])
  (fQ (c:=1) rfl (by kernel_rfl) (l6 (jO.int (P:=Tryz.prog) (t:=3) Tryz.underlying3 (by kernel_rfl) n)) (fQ (c:=1) rfl (by kernel_rfl) (l6 (jO.int (P:=Tryz.prog) (t:=3) Tryz.underlying3 (by kernel_rfl) n)) (fNil n _)))
 exact(h.map (fun x=>ql.mk x.1 x.2.1) (fun _ _=>⟨trivial,by simp[Qz,YJ,ql.qN,zX]⟩)).mono (Nat.le_succ n)
theorem TZ(n:Nat):jO Tryz.prog 43 qo.enc (fun _=>True) n:=by
 have h:=jO.struct (P:=Tryz.prog) (t:=43) (c:=3) (n:=n) Tryz.underlying43 (by kernel_rfl) (fun _=>by simp[Qz,YJ,qo.qN,ql.qN,dG])
  (fQ (c:=2) rfl (by kernel_rfl) (R0 n) (fQ (c:=1) rfl (by kernel_rfl) (l6 (jO.str (P:=Tryz.prog) (t:=9) Tryz.underlying9 (by kernel_rfl) n)) (fNil n _)))
 exact(h.map (fun x=>qo.mk x.1 x.2.1) (fun _ _=>⟨trivial,by simp[Qz,YJ,qo.qN,ql.qN,dG]⟩)).mono (Nat.le_succ n)
theorem rd_Sel(n:Nat):jO Tryz.prog 87 qx.enc (fun _=>True) n:=by
 have h:=jO.struct (P:=Tryz.prog) (t:=87) (c:=2) (n:=n) Tryz.underlying87 (by kernel_rfl) (fun _=>by simp[Qz,YJ,qx.qN,zX])
  (fQ (c:=1) rfl (by kernel_rfl) (l6 (jO.int (P:=Tryz.prog) (t:=3) Tryz.underlying3 (by kernel_rfl) n)) (fQ (c:=1) rfl (by kernel_rfl) (l6 (jO.int (P:=Tryz.prog) (t:=3) Tryz.underlying3 (by kernel_rfl) n)) (fNil n _)))
 exact(h.map (fun x=>qx.mk x.1 x.2.1) (fun _ _=>⟨trivial,by simp[Qz,YJ,qx.qN,zX]⟩)).mono (Nat.le_succ n)
theorem rd_Op(n:Nat):jO Tryz.prog 47 gy.enc (fun _=>True) n:=by
 have h:=jO.struct (P:=Tryz.prog) (t:=47) (c:=7) (n:=n) Tryz.underlying47 (by kernel_rfl) (fun _=>by simp[Qz,YJ,qo.qN,gy.qN,qx.qN,HA,zX,ng,dG])
  (fQ (c:=1) rfl (by kernel_rfl) (l6 (jO.int (P:=Tryz.prog) (t:=3) Tryz.underlying3 (by kernel_rfl) n)) (fQ (c:=1) rfl (by kernel_rfl) (l6 (jO.str (P:=Tryz.prog) (t:=9) Tryz.underlying9 (by kernel_rfl) n)) (fQ (c:=1) rfl (by kernel_rfl) (l6 (jO.str (P:=Tryz.prog) (t:=9) Tryz.underlying9 (by kernel_rfl) n)) (fQ (c:=1) rfl (by kernel_rfl) (l6 (jO.int (P:=Tryz.prog) (t:=3) Tryz.underlying3 (by kernel_rfl) n)) (fQ (c:=1) rfl (by kernel_rfl) (l6 (jO.bool (P:=Tryz.prog) (t:=4) Tryz.underlying4 (by kernel_rfl) n)) (fQ (c:=1) rfl (by kernel_rfl) (rdSl (P:=Tryz.prog) (t:=25) (el:=43) (sz:=3) Tryz.underlying25 (by kernel_rfl) (by kernel_rfl) (by omega) (TZ n)) (fQ (c:=1) rfl (by kernel_rfl) (rdSl (P:=Tryz.prog) (t:=29) (el:=87) (sz:=2) Tryz.underlying29 (by kernel_rfl) (by kernel_rfl) (by omega) (rd_Sel n)) (fNil n _))))))))
 exact(h.map (fun x=>gy.mk x.1 x.2.1 x.2.2.1 x.2.2.2.1 x.2.2.2.2.1 x.2.2.2.2.2.1 x.2.2.2.2.2.2.1) (fun _ _=>⟨trivial,by simp[Qz,YJ,qo.qN,gy.qN,qx.qN,HA,zX,ng,dG]⟩)).mono (Nat.le_succ n)
theorem rdv22:cy Tryz.prog 22 (fun x:(Sl gy)=>PV.sl x.nil (zC 7 x.l) (List.map gy.enc x.l)) (fun _=>True):=cy.one Tryz.underlying22 rfl (fun n=>(rdSl (P:=Tryz.prog) (t:=22) (el:=47) (sz:=7) Tryz.underlying22 (by kernel_rfl) (by kernel_rfl) (by omega) (rd_Op n)))
theorem rdv24:cy Tryz.prog 24 (fun x=> .agg (ql.enc x)) (fun _=>True):=cy.struct Tryz.underlying24 R0
theorem rdv25:cy Tryz.prog 25 (fun x:(Sl qo)=>PV.sl x.nil (zC 3 x.l) (List.map qo.enc x.l)) (fun _=>True):=cy.one Tryz.underlying25 rfl (fun n=>(rdSl (P:=Tryz.prog) (t:=25) (el:=43) (sz:=3) Tryz.underlying25 (by kernel_rfl) (by kernel_rfl) (by omega) (TZ n)))
end Go.Proofs.YtmllebdamdnhoaaGreat
namespace Go.Proofs.YtmllebdamdnhoaaGreat
namespace Xr
structure Row (m:Nat) (F T U:Nat->Int) (n:Int):Prop where
 QP: ∀r,r<m->0<=F r/\F r<=T r/\T r<=n
 up: ∀r,r<m-> -1<=U r/\U r<r
 nest: ∀r,r<m-> ∀p:Nat,U r=p->F p<=F r/\T r<=T p
 N4: ∀r,r<m-> ∀q,q<r->U q=U r->T q<=F r
 pre: ∀r,r<m-> ∀q:Nat,q<r->U r<q->U r<=U q
structure N8 (m:Nat) (F T U:Nat->Int) (H:Nat->Prop) (a b:Int):Prop where
 up: ∀r,r<m->H r-> ∀p:Nat,U r=p->H p
 has: ∀r,r<m->H r->F r<=a/\b<=T r
 one: ∀r,r<m-> ∀q,q<r->U q=U r->H q-> ¬H r
structure Side (m:Nat) (F T U:Nat->Int) (H:Nat->Prop) (a b:Int) (last:Int) (s:Nat->Int):Prop where
 holds: ∀r,r<m->H r->s r=0
 gone: ∀r,r<m-> ¬H r-> ∀p:Nat,U r=p->s p=1->s r=1
 cut: ∀r,r<m-> ¬H r->(∀ p:Nat,U r=p->s p≠1)->F r<b->a<T r->s r=1
 Xs: ∀r,r<m-> ¬H r->(∀ p:Nat,U r=p->s p≠1)-> ¬(F r<b/\a<T r)-> ∀p:Nat,U r=p-> ¬H p->s r=s p
 left: ∀r,r<m-> ¬H r->(∀ p:Nat,U r=p->s p≠1/\H p)-> ¬(F r<b/\a<T r)->(T r<a\/T r=a/\(F r<T r\/(r:Int)<last\/last<0))->s r=2
 right: ∀r,r<m-> ¬H r->(∀ p:Nat,U r=p->s p≠1/\H p)-> ¬(F r<b/\a<T r)-> ¬(T r<a\/T r=a/\(F r<T r\/(r:Int)<last\/last<0))->s r=3
 last1: ∀r,r<m->H r->(r:Int)<=last
 last2:0<=last-> ∃r:Nat,last=r/\r<m/\H r
 lastm: -1<=last
def mv(a b c:Int)(right:Bool)(p:Int):Int:=if p<a then p else if p>b then p+(c-(b-a))else if right then a+c else a
theorem Qu{a b c:Int}(eN:a<=b)(hc:0<=c)(right:Bool){p q:Int}(h:p<=q):mv a b c right p<=mv a b c right q:=by
 unfold mv
 repeat' split
 all_goals omega
section
variable {m:Nat} {F T U:Nat->Int} {n:Int} {H:Nat->Prop} {a b c:Int} {last:Int} {s:Nat->Int}
variable (hR:Row m F T U n) (hH:N8 m F T U H a b) (hS:Side m F T U H a b last s) (ha:0<=a) (eN:a<=b) (hb:b<=n) (hc:0<=c)
theorem hold_up(hR:Row m F T U n)(hH:N8 m F T U H a b){u:Int}{x:Nat}(hx:x<m)(hxu:U x=u): ∀q:Nat,u<q->q<x->H q-> ∃p:Nat,u<p/\p<=q/\H p/\U p=u:=by
 intro q;induction q using Nat.strongRecOn with
 |_ q ih=>
 intro h1 h2 h3;have h4:=hR.pre x hx q h2 (by omega);have h5:=hR.up q (by omega);by_cases e:U q=u
 ·exact⟨q,h1,Nat.le_refl _,h3,e⟩
 obtain⟨p,hp⟩: ∃p:Nat,U q=p:=⟨(U q).toNat,by have:=hR.up x hx;omega⟩;obtain⟨p',g1,g2,g3,g4⟩:=ih p (by omega) (by omega) (by omega) (hH.up q (by omega) h3 p hp);exact⟨p',g1,by omega,g3,g4⟩
theorem M7(hR:Row m F T U n)(hH:N8 m F T U H a b){q:Nat}(hq:H q): ∀x:Nat,x<m->H x->q<x-> ∀y:Nat,q<y->y<=x->(q:Int)<=U y:=by
 intro x;induction x using Nat.strongRecOn with
 |_ x ih=>
 intro hx hHx hqx y h1 h2;have C4:=hR.up x hx;by_cases e:(q:Int)<=U x
 ·by_cases ey:y=x
  ·subst ey;exact e
  by_cases e2:U x<y
  ·have:=hR.pre x hx y (by omega) e2;omega
  obtain⟨p,hp⟩: ∃p:Nat,U x=p:=⟨(U x).toNat,by omega⟩;exact ih p (by omega) (by omega) (hH.up x hx hHx p hp) (by omega) y h1 (by omega)
 exfalso;obtain⟨p,g1,g2,g3,g4⟩:=hold_up hR hH hx rfl q (by omega) hqx hq;exact hH.one x hx p (by omega) g4 g3 hHx
theorem SZ(hR:Row m F T U n)(hH:N8 m F T U H a b){q r:Nat}(hr:r<m)(hqr:q<r)(hu:U q=U r)(hq:H q){x:Nat}(hx:x<m)(hHx:H x):x<r:=by
 by_cases e:x<r
 ·exact e
 exfalso;have h1:=M7 hR hH hq x hx hHx (by omega) r hqr (by omega);have h2:=hR.up q (by omega);omega
include hR hS in
theorem nG{r:Nat}(hr:r<m):(H r/\s r=0)\/(¬ H r/\s r=1)\/(¬ H r/\s r=2)\/(¬ H r/\s r=3):=by
 induction r using Nat.strongRecOn with
 |_ r ih=>
 by_cases h:H r
 ·exact .inl ⟨h,hS.holds r hr h⟩
 right;have hu:=hR.up r hr;by_cases hp:0<=U r
 ·obtain⟨p,hp⟩: ∃p:Nat,U r=p:=⟨(U r).toNat,by omega⟩;have Z9: ∀p' :Nat,U r=p' ->p' =p:=fun p' h=>by omega
  have hih:=ih p (by omega) (by omega);by_cases g:s p=1
  ·exact .inl ⟨h,hS.gone r hr h p hp g⟩
  have g' : ∀p' :Nat,U r=p' ->s p' ≠1:=fun p' e=>by rw[Z9 p' e];exact g
  by_cases k:F r<b/\a<T r
  ·exact .inl ⟨h,hS.cut r hr h g' k.1 k.2⟩
  by_cases w:H p
  ·have g2: ∀p' :Nat,U r=p' ->s p' ≠1/\H p' :=fun p' e=>by rw[Z9 p' e];exact⟨g,w⟩
   by_cases z:T r<a\/T r=a/\(F r<T r\/(r:Int)<last\/last<0)
   ·exact .inr (.inl ⟨h,hS.left r hr h g2 k z⟩)
   exact .inr (.inr ⟨h,hS.right r hr h g2 k z⟩)
  have e:=hS.Xs r hr h g' k p hp w;rcases hih with ⟨x,_⟩|⟨_,x⟩|⟨_,x⟩|⟨_,x⟩
  ·exact absurd x w
  ·exact absurd x g
  ·exact .inr (.inl ⟨h,e.trans x⟩)
  exact .inr (.inr ⟨h,e.trans x⟩)
 have g2: ∀p' :Nat,U r=p' ->s p' ≠1/\H p' :=fun p' e=>by omega
 by_cases k:F r<b/\a<T r
 ·exact .inl ⟨h,hS.cut r hr h (fun p' e=>(g2 p' e).1) k.1 k.2⟩
 by_cases z:T r<a\/T r=a/\(F r<T r\/(r:Int)<last\/last<0)
 ·exact .inr (.inl ⟨h,hS.left r hr h g2 k z⟩)
 exact .inr (.inr ⟨h,hS.right r hr h g2 k z⟩)
include hR hH hS in
theorem cA{r:Nat}(hr:r<m)(h:s r≠1){p:Nat}(hp:U r=p):s p≠1:=by
 intro g;by_cases k:H r
 ·have hu:=hR.up r hr;have:=hS.holds p (by omega) (hH.up r hr k p hp);omega
 exact h (hS.gone r hr k p hp g)
include hR hH hS in
theorem XM{r:Nat}(hr:r<m)(h:s r=2):T r<=a:=by
 induction r using Nat.strongRecOn with
 |_ r ih=>
 have hu:=hR.up r hr;have hn: ¬H r:=fun k=>by have:=hS.holds r hr k;omega
 have WX:=fun p(hp:U r=((p:Nat):Int))=>cA hR hH hS hr (by omega) hp;by_cases k:F r<b/\a<T r
 ·have:=hS.cut r hr hn WX k.1 k.2;omega
 by_cases w: ∃p:Nat,U r=p/\ ¬H p
 ·obtain⟨p,hp,w⟩:=w;have e:=hS.Xs r hr hn WX k p hp w;have:=ih p (by omega) (by omega) (by omega);have:=hR.nest r hr p hp;omega
 have g2: ∀p' :Nat,U r=p' ->s p' ≠1/\H p' :=fun p' e=>⟨WX p' e,Classical.byContradiction fun c=>w ⟨p',e,c⟩⟩;by_cases z:T r<a\/T r=a/\(F r<T r\/(r:Int)<last\/last<0)
 ·omega
 have:=hS.right r hr hn g2 k z;omega
include hR hH hS in
theorem eE{r:Nat}(hr:r<m)(h:s r=3):b<=F r\/(F r=a/\T r=a):=by
 induction r using Nat.strongRecOn with
 |_ r ih=>
 have hu:=hR.up r hr;have hg:=hR.QP r hr;have hn: ¬H r:=fun k=>by have:=hS.holds r hr k;omega
 have WX:=fun p(hp:U r=((p:Nat):Int))=>cA hR hH hS hr (by omega) hp;by_cases k:F r<b/\a<T r
 ·have:=hS.cut r hr hn WX k.1 k.2;omega
 by_cases w: ∃p:Nat,U r=p/\ ¬H p
 ·obtain⟨p,hp,w⟩:=w;have e:=hS.Xs r hr hn WX k p hp w;have:=ih p (by omega) (by omega) (by omega);have:=hR.nest r hr p hp;omega
 have g2: ∀p' :Nat,U r=p' ->s p' ≠1/\H p' :=fun p' e=>⟨WX p' e,Classical.byContradiction fun c=>w ⟨p',e,c⟩⟩;by_cases z:T r<a\/T r=a/\(F r<T r\/(r:Int)<last\/last<0)
 ·have:=hS.left r hr hn g2 k z;omega
 omega
def Tg(a b c:Int)(F:Nat->Int)(s:Nat->Int)(r:Nat):Int:=if s r=0 then F r else mv a b c (decide (s r=3)) (F r)
def RU(a b c:Int)(T:Nat->Int)(s:Nat->Int)(r:Nat):Int:=if s r=0 then T r+(c-(b-a))else mv a b c (decide (s r=3)) (T r)
include hR hH hS ha eN hb hc in
theorem VM{r:Nat}(hr:r<m)(h:s r≠1):0<=Tg a b c F s r/\Tg a b c F s r<=RU a b c T s r/\RU a b c T s r<=n+(c-(b-a)):=by
 have hg:=hR.QP r hr;unfold Tg RU;rcases nG hR hS hr with ⟨k,e⟩|⟨k,e⟩|⟨k,e⟩|⟨k,e⟩
 ·have:=hH.has r hr k;simp only[e,if_true];omega
 ·exact absurd e h
 ·have:=XM hR hH hS hr e;simp only[e];simp only[mv];simp
  repeat' split
  all_goals omega
 have:=eE hR hH hS hr e;simp only[e];simp only[mv];simp
 repeat' split
 all_goals omega
include hR hH hS eN hc in
theorem Ko{r:Nat}(hr:r<m)(h:s r≠1){p:Nat}(hp:U r=p):Tg a b c F s p<=Tg a b c F s r/\RU a b c T s r<=RU a b c T s p:=by
 have hu:=hR.up r hr;have hpm:p<m:=by omega
 have hg:=hR.QP r hr;have hgp:=hR.QP p hpm;have hn:=hR.nest r hr p hp;have WX:=cA hR hH hS hr h hp;by_cases w:H p
 ·have h0:=hS.holds p hpm w;have hw:=hH.has p hpm w;unfold Tg RU;rcases nG hR hS hr with ⟨k,e⟩|⟨k,e⟩|⟨k,e⟩|⟨k,e⟩
  ·simp only[e,h0,if_true];omega
  ·exact absurd e h
  ·have:=XM hR hH hS hr e;simp only[e,h0,mv];simp
   repeat' split
   all_goals omega
  have:=eE hR hH hS hr e;simp only[e,h0,mv];simp
  repeat' split
  all_goals omega
 have hnr: ¬H r:=fun k=>w (hH.up r hr k p hp);have hal' : ∀p' :Nat,U r=p' ->s p' ≠1:=fun p' e=>by rw[show p' =p by omega];exact WX
 have hk: ¬(F r<b/\a<T r):=fun k=>h (hS.cut r hr hnr hal' k.1 k.2);have e:=hS.Xs r hr hnr hal' hk p hp w;have h0:s p≠0:=by
  rcases nG hR hS hpm with ⟨k,_⟩|⟨_,x⟩|⟨_,x⟩|⟨_,x⟩
  ·exact absurd k w
  all_goals omega
 unfold Tg RU;rw[e,if_neg h0,if_neg h0,if_neg h0,if_neg h0];exact⟨Qu eN hc _ hn.1,Qu eN hc _ hn.2⟩
include hR hH hS eN hc in
theorem VN{r:Nat}(hr:r<m)(h:s r≠1){q:Nat}(hqr:q<r)(hq:s q≠1)(hu:U q=U r):RU a b c T s q<=Tg a b c F s r:=by
 have Ej:q<m:=by omega
 have hg:=hR.QP r hr;have hgq:=hR.QP q Ej;have hn:=hR.N4 r hr q hqr hu;have halr:=fun p(hp:U r=((p:Nat):Int))=>cA hR hH hS hr h hp;have halq:=fun p(hp:U q=((p:Nat):Int))=>cA hR hH hS Ej hq hp;have hkr: ¬H r-> ¬(F r<b/\a<T r):=fun x k=>h (hS.cut r hr x halr k.1 k.2);have hkq: ¬H q-> ¬(F q<b/\a<T q):=fun x k=>hq (hS.cut q Ej x halq k.1 k.2);by_cases w: ∃p:Nat,U r=p/\ ¬H p
 ·obtain⟨p,hp,w⟩:=w;have Xo:=hR.up r hr;have hnr: ¬H r:=fun k=>w (hH.up r hr k p hp);have hnq: ¬H q:=fun k=>w (hH.up q Ej k p (by omega));have e1:=hS.Xs r hr hnr halr (hkr hnr) p hp w;have e2:=hS.Xs q Ej hnq halq (hkq hnq) p (by omega) w;have h0:s p≠0:=by
   rcases nG hR hS (show p<m by omega)with ⟨k,_⟩|⟨_,x⟩|⟨_,x⟩|⟨_,x⟩
   ·exact absurd k w
   all_goals omega
  unfold Tg RU;rw[e1,e2,if_neg h0,if_neg h0];exact Qu eN hc _ hn
 have hwr: ∀p' :Nat,U r=p' ->s p' ≠1/\H p' :=fun p' e=>⟨halr p' e,Classical.byContradiction fun c=>w ⟨p',e,c⟩⟩;have hwq: ∀p' :Nat,U q=p' ->s p' ≠1/\H p' :=fun p' e=>hwr p' (by omega);unfold Tg RU;rcases nG hR hS Ej with ⟨k,e⟩|⟨k,e⟩|⟨k,e⟩|⟨k,e⟩
 ·
  have hnr: ¬H r:=hH.one r hr q hqr hu k;have hq2:=hH.has q Ej k;have hql:=hS.last1 q Ej k;obtain⟨x,C6,Ev,hx3⟩:=hS.last2 (by omega);have hlr:=SZ hR hH hr hqr hu k Ev hx3;have h3:s r=3:=hS.right r hr hnr hwr (hkr hnr) (by omega);simp only[e,h3,mv];simp
  repeat' split
  all_goals omega
 ·exact absurd e hq
 ·
  have hl:=XM hR hH hS Ej e;rcases nG hR hS hr with ⟨k2,e2⟩|⟨k2,e2⟩|⟨k2,e2⟩|⟨k2,e2⟩
  ·simp only[e,e2,mv];simp
   repeat' split
   all_goals omega
  ·exact absurd e2 h
  ·simp only[e,e2];simp;exact Qu eN hc _ hn
  have:=eE hR hH hS hr e2;simp only[e,e2,mv];simp
  repeat' split
  all_goals omega
 
 have hrq:=eE hR hH hS Ej e;have hz: ¬(T q<a\/T q=a/\(F q<T q\/(q:Int)<last\/last<0)):=fun z=>by
  have:=hS.left q Ej k hwq (hkq k) z;omega
 rcases nG hR hS hr with ⟨k2,e2⟩|⟨k2,e2⟩|⟨k2,e2⟩|⟨k2,e2⟩
 ·have h1:=hS.last1 r hr k2;have h2:=hH.has r hr k2;omega
 ·exact absurd e2 h
 ·have hl:=XM hR hH hS hr e2;by_cases z:T r<a\/T r=a/\(F r<T r\/(r:Int)<last\/last<0)
  ·omega
  have:=hS.right r hr k2 hwr (hkr k2) z;omega
 simp only[e,e2];simp;exact Qu eN hc _ hn
end
end Xr
end Go.Proofs.YtmllebdamdnhoaaGreat
namespace Go.Proofs.YtmllebdamdnhoaaGreat
open Go Go.Gm
namespace Xr
structure VU (i:qw) (n:Int):Prop where
 QP:0<=i.span.qO/\i.span.qO<=i.span.to/\i.span.to<=n
 up: ∀(k:Nat)(x:qu),i.stops.l[k]? =some x-> -1<=x.up/\x.up<(k:Nat)
 le: ∀(k:Nat)(x:qu),i.stops.l[k]? =some x->x.span.qO<=x.span.to
 top: ∀(k:Nat)(x:qu),i.stops.l[k]? =some x->x.up= -1->i.span.qO<=x.span.qO/\x.span.to<=i.span.to
 nest: ∀(k:Nat)(x:qu),i.stops.l[k]? =some x-> ∀(p:Nat)(y:qu),x.up=p->i.stops.l[p]? =some y->y.span.qO<=x.span.qO/\x.span.to<=y.span.to
 N4: ∀(k:Nat)(x:qu),i.stops.l[k]? =some x-> ∀(j:Nat)(y:qu),j<k->i.stops.l[j]? =some y->y.up=x.up->y.span.to<=x.span.qO
 pre: ∀(k:Nat)(x:qu),i.stops.l[k]? =some x-> ∀(q:Nat)(y:qu),q<k->x.up<q->i.stops.l[q]? =some y->x.up<=y.up
theorem VU.inside{i:qw}{n:Int}(h:VU i n): ∀(k:Nat)(x:qu),i.stops.l[k]? =some x->i.span.qO<=x.span.qO/\x.span.to<=i.span.to:=by
 intro k;induction k using Nat.strongRecOn with
 |_ k ih=>
 intro x hx;have hu:=h.up k x hx;by_cases e:x.up= -1
 ·exact h.top k x hx e
 obtain⟨p,hp⟩: ∃p:Nat,x.up=p:=⟨x.up.toNat,by omega⟩;have hk:=(qG hx).1;have hy:i.stops.l[p]? =some i.stops.l[p]:=kU (by omega);have h1:=h.nest k x hx p _ hp hy;have h2:=ih p (by omega) _ hy;omega
structure cx (is:List qw) (n:Int):Prop where
 may: ∀(a:Nat)(i:qw),is[a]? =some i->VU i n
 D7: ∀(a b:Nat)(i j:qw),a<b->is[a]? =some i->is[b]? =some j->i.span.to<=j.span.qO
theorem cx.tail{i:qw}{is:List qw}{n:Int}(h:cx (i::is) n):cx is n:=
 ⟨fun a j hj=>h.may (a+1) j (by simpa using hj),fun a b j k eN hj hk=>h.D7 (a+1) (b+1) j k (by omega) (by simpa using hj) (by simpa using hk)⟩
abbrev oF:=Int×Int×Int
def sX(b:Nat)(i:qw):List oF:=(i.span.qO,i.span.to,-1)::i.stops.l.map (fun x=>(x.span.qO,x.span.to,b+1+x.up))
def bp(b:Nat):List qw->List oF
 |[]=>[]
 |i::is=>sX b i++bp (b+1+i.stops.l.length) is
theorem aP(b:Nat)(i:qw):(sX b i).length=1+i.stops.l.length:=by simp[sX];omega
structure RowB (b:Nat) (l:List oF) (lo n:Int):Prop where
 QP: ∀(r:Nat)(x:oF),l[r]? =some x->0<=x.1/\x.1<=x.2.1/\x.2.1<=n
 lo: ∀(r:Nat)(x:oF),l[r]? =some x->x.2.2= -1->lo<=x.1
 up: ∀(r:Nat)(x:oF),l[r]? =some x->x.2.2= -1\/(b:Int)<=x.2.2/\x.2.2<b+r
 nest: ∀(r:Nat)(x:oF),l[r]? =some x-> ∀(p:Nat)(y:oF),x.2.2=b+p->l[p]? =some y->y.1<=x.1/\x.2.1<=y.2.1
 N4: ∀(r:Nat)(x:oF),l[r]? =some x-> ∀(q:Nat)(y:oF),q<r->l[q]? =some y->y.2.2=x.2.2->y.2.1<=x.1
 pre: ∀(r:Nat)(x:oF),l[r]? =some x-> ∀(q:Nat)(y:oF),q<r->x.2.2<b+q->l[q]? =some y->x.2.2<=y.2.2
theorem nE{b:Nat}{i:qw}{r:Nat}{x:oF}(h:(sX b i)[r]? =some x):(r=0/\x=(i.span.qO,i.span.to,-1))\/ ∃k s,r=k+1/\i.stops.l[k]? =some s/\x=(s.span.qO,s.span.to,b+1+s.up):=by
 cases r with
 |zero=>left;simpa[sX,eq_comm]using h
 |succ k=>
  right;simp only[sX,List.getElem?_cons_succ,List.getElem?_map,yi]at h;obtain⟨s,h1,h2⟩:=h;exact⟨k,s,rfl,h1,h2.symm⟩
theorem rowS_ok(n:Int): ∀(is:List qw)(b:Nat)(lo:Int),cx is n->(∀(a:Nat)(i:qw),is[a]? =some i->lo<=i.span.qO)->RowB b (bp b is) lo n:=by
 intro is;induction is with
 |nil=>intro b lo _ _;constructor<;>intro r x h<;>simp[bp]at h
 |cons i is ih=>
  intro b lo h hlo;have hm:=h.may 0 i rfl;have hi:=ih (b+1+i.stops.l.length) i.span.to h.tail (fun a j hj=>h.D7 0 (a+1) i j (by omega) rfl (by simpa using hj));have hlo0:=hlo 0 i rfl;have hir:=hm.QP;have hL:=aP b i;have split: ∀(r:Nat)(x:oF),(bp b (i::is))[r]? =some x->(r<1+i.stops.l.length/\(sX b i)[r]? =some x)\/ ∃q,r=1+i.stops.l.length+q/\(bp (b+1+i.stops.l.length) is)[q]? =some x:=by
   intro r x hx;rw[bp]at hx;by_cases hr:r<1+i.stops.l.length
   ·rw[List.getElem?_append_left (by omega)]at hx;exact .inl ⟨hr,hx⟩
   rw[List.getElem?_append_right (by omega),hL]at hx;exact .inr ⟨r-(1+i.stops.l.length),by omega,hx⟩
  have kin: ∀(k:Nat)(s:qu),i.stops.l[k]? =some s->k<i.stops.l.length:=fun k s hs=>(qG hs).1;refine⟨?_, ?_, ?_, ?_, ?_, ?_⟩
  ·intro r x hx;rcases split r x hx with ⟨_,hx⟩|⟨q,_,hx⟩
   ·rcases nE hx with ⟨_,rfl⟩|⟨k,s,_,hs,rfl⟩
    ·exact hir
    have:=hm.inside k s hs;have:=hm.le k s hs;simp only;omega
   exact hi.QP q x hx
  ·intro r x hx hu;rcases split r x hx with ⟨_,hx⟩|⟨q,_,hx⟩
   ·rcases nE hx with ⟨_,rfl⟩|⟨k,s,_,hs,rfl⟩
    ·exact hlo0
    have:=hm.inside k s hs;simp only;omega
   have:=hi.lo q x hx hu;omega
  ·intro r x hx;rcases split r x hx with ⟨hr,hx⟩|⟨q,hr,hx⟩
   ·rcases nE hx with ⟨_,rfl⟩|⟨k,s,hk,hs,rfl⟩
    ·exact .inl rfl
    have:=hm.up k s hs;right;simp only;omega
   rcases hi.up q x hx with e|e
   ·exact .inl e
   right;omega
  ·intro r x hx p y hp hy;rcases split r x hx with ⟨hr,hx⟩|⟨q,hr,hx⟩
   ·rcases nE hx with ⟨_,rfl⟩|⟨k,s,hk,hs,rfl⟩
    ·simp only at hp;omega
    have hu:=hm.up k s hs;have mF:=kin k s hs;simp only at hp |-;rcases split p y hy with ⟨_,hy⟩|⟨q',Ei,hy⟩
    ·rcases nE hy with ⟨_,rfl⟩|⟨k',s',QO,eO,rfl⟩
     ·exact hm.inside k s hs
     exact hm.nest k s hs k' s' (by omega) eO
    omega
   have hu:=hi.up q x hx;rcases split p y hy with ⟨hp',hy⟩|⟨q',Ei,hy⟩
   ·omega
   exact hi.nest q x hx q' y (by omega) hy
  ·intro r x hx q y hq hy hu;rcases split r x hx with ⟨hr,hx⟩|⟨r',hr,hx⟩
   ·rcases nE hx with ⟨h0,rfl⟩|⟨k,s,hk,hs,rfl⟩
    ·omega
    have hus:=hm.up k s hs;have mF:=kin k s hs;rcases split q y hy with ⟨_,hy⟩|⟨q',Ei,hy⟩
    ·rcases nE hy with ⟨_,rfl⟩|⟨k',s',QO,eO,rfl⟩
     ·simp only at hu;omega
     simp only at hu |-;exact hm.N4 k s hs k' s' (by omega) eO (by omega)
    omega
   rcases split q y hy with ⟨Ei,hy⟩|⟨q',Ei,hy⟩
   ·have C4:=hi.up r' x hx;rcases nE hy with ⟨h0,rfl⟩|⟨k,s,hk,hs,rfl⟩
    ·simp only at hu |-;have:=hi.lo r' x hx hu.symm;omega
    have hus:=hm.up k s hs;have mF:=kin k s hs;simp only at hu;omega
   exact hi.N4 r' x hx q' y (by omega) hy hu
  intro r x hx q y hq hu hy;rcases split r x hx with ⟨hr,hx⟩|⟨r',hr,hx⟩
  ·rcases split q y hy with ⟨_,hy⟩|⟨q',Ei,hy⟩
   ·rcases nE hx with ⟨h0,rfl⟩|⟨k,s,hk,hs,rfl⟩
    ·omega
    have hus:=hm.up k s hs;rcases nE hy with ⟨h0,rfl⟩|⟨k',s',QO,eO,rfl⟩
    ·simp only at hu;omega
    simp only at hu |-;have:=hm.pre k s hs k' s' (by omega) (by omega) eO;omega
   omega
  have C4:=hi.up r' x hx;rcases split q y hy with ⟨Ei,hy⟩|⟨q',Ei,hy⟩
  ·rcases C4 with e|e
   ·rcases nE hy with ⟨h0,rfl⟩|⟨k,s,hk,hs,rfl⟩
    ·simp only;omega
    have hus:=hm.up k s hs;simp only;omega
   omega
  have huy:=hi.up q' y hy;rcases C4 with e|e
  ·omega
  exact hi.pre r' x hx q' y (by omega) (by omega) hy
def FT(l:List oF)(r:Nat):Int:=(l.getD r (0,0,-1)).1
def FZ(l:List oF)(r:Nat):Int:=(l.getD r (0,0,-1)).2.1
def T2(l:List oF)(r:Nat):Int:=(l.getD r (0,0,-1)).2.2
theorem cN{l:List oF}{r:Nat}{x:oF}(h:l[r]? =some x):FT l r=x.1/\FZ l r=x.2.1/\T2 l r=x.2.2:=by
 simp[FT,FZ,T2,h]
theorem RowB.row{l:List oF}{lo n:Int}(h:RowB 0 l lo n):Row l.length (FT l) (FZ l) (T2 l) n:=by
 have g: ∀r,r<l.length-> ∃x,l[r]? =some x/\FT l r=x.1/\FZ l r=x.2.1/\T2 l r=x.2.2:=by
  intro r hr;exact⟨l[r],kU hr,cN (kU hr)⟩
 refine⟨?_, ?_, ?_, ?_, ?_⟩
 ·intro r hr;obtain⟨x,hx,e1,e2,e3⟩:=g r hr;rw[e1,e2];exact h.QP r x hx
 ·intro r hr;obtain⟨x,hx,e1,e2,e3⟩:=g r hr;have:=h.up r x hx;omega
 ·intro r hr p hp;obtain⟨x,hx,e1,e2,e3⟩:=g r hr;have hu:=h.up r x hx;obtain⟨y,hy,f1,f2,f3⟩:=g p (by omega);have:=h.nest r x hx p y (by omega) hy;omega
 ·intro r hr q hq hu;obtain⟨x,hx,e1,e2,e3⟩:=g r hr;obtain⟨y,hy,f1,f2,f3⟩:=g q (by omega);have:=h.N4 r x hx q y hq hy (by omega);omega
 intro r hr q hq hu;obtain⟨x,hx,e1,e2,e3⟩:=g r hr;obtain⟨y,hy,f1,f2,f3⟩:=g q (by omega);have:=h.pre r x hx q y hq (by omega) hy;omega
end Xr
namespace Xr
def Mx(a b c:Int)(side:Int)(p:ql):ql:=if side=0 then⟨p.qO,p.to+(c-(b-a))⟩else⟨mv a b c (decide (side=3)) p.qO,mv a b c (decide (side=3)) p.to⟩
def om(s:Nat->Int)(b:Nat):Nat->Nat
 |0=>0
 |k+1=>om s b k+if s (b+k)=1 then 0 else 1
def Cp(a b c:Int)(s:Nat->Int)(b0 k:Nat)(x:qu):qu:={ x with span:=Mx a b c (s (b0+k)) x.span,up:=if 0<=x.up then(om s b0 x.up.toNat:Int)else x.up }
def tD(a b c:Int)(s:Nat->Int)(b0:Nat):Nat->List qu->List qu
 |_,[]=>[]
 |k,x::r=>if s (b0+k)=1 then tD a b c s b0 (k+1) r else Cp a b c s b0 k x::tD a b c s b0 (k+1) r
def Zh(a b c:Int)(s:Nat->Int)(b0:Nat)(i:qw):qw:=⟨Mx a b c (s b0) i.span,⟨(tD a b c s (b0+1) 0 i.stops.l).isEmpty,tD a b c s (b0+1) 0 i.stops.l⟩⟩
def bZ(a b c:Int)(s:Nat->Int):Nat->List qw->List qw
 |_,[]=>[]
 |b0,i::is=>if s b0=1 then bZ a b c s (b0+1+i.stops.l.length) is else Zh a b c s b0 i::bZ a b c s (b0+1+i.stops.l.length) is
theorem Ke(s:Nat->Int)(b:Nat): ∀{k k' :Nat},k<=k' ->om s b k<=om s b k' :=by
 intro k k' h;induction k' with
 |zero=>
  obtain rfl:k=0:=by omega
  exact xJ _
 |succ k' ih=>
  by_cases e:k=k' +1
  ·subst e;exact xJ _
  have:=ih (by omega);rw[om];omega
theorem MM(s:Nat->Int)(b:Nat){k k' :Nat}(h:k<k')(hk:s (b+k)≠1):om s b k<om s b k' :=by
 have h1:om s b (k+1)=om s b k+1:=by rw[om,if_neg hk]
 have h2:=Ke s b (show k+1<=k' by omega);omega
theorem TU(s:Nat->Int)(b:Nat){k k' :Nat}(hk:s (b+k)≠1)(QO:s (b+k')≠1)(h:om s b k=om s b k'):k=k' :=by
 rcases Nat.lt_trichotomy k k' with h1|h1|h1
 ·have:=MM s b h1 hk;omega
 ·exact h1
 have:=MM s b h1 QO;omega
theorem YY(s:Nat->Int)(b:Nat){k k' :Nat}(h:om s b k<om s b k'):k<k' :=by
 by_cases e:k<k'
 ·exact e
 have:=Ke s b (show k' <=k by omega);omega
section
variable {a b c:Int} {s:Nat->Int}
theorem Vg(b0:Nat): ∀(st:List qu)(k0 j:Nat)(y:qu),(tD a b c s b0 k0 st)[j]? =some y-> ∃(k:Nat)(x:qu),st[k]? =some x/\s (b0+(k0+k))≠1/\y=Cp a b c s b0 (k0+k) x/\om s b0 (k0+k)=om s b0 k0+j:=by
 intro st;induction st with
 |nil=>intro k0 j y h;simp[tD]at h
 |cons x r ih=>
  intro k0 j y h;rw[tD]at h;split at h
  ·rename_i e;obtain⟨k,z,h1,h2,h3,h4⟩:=ih (k0+1) j y h;refine⟨k+1,z,by simpa using h1, ?_, ?_, ?_⟩
   ·rw[show k0+(k+1)=k0+1+k by omega];exact h2
   ·rw[show k0+(k+1)=k0+1+k by omega];exact h3
   rw[show k0+(k+1)=k0+1+k by omega,h4,om,if_pos e];omega
  rename_i e;cases j with
  |zero=>
   simp only[List.getElem?_cons_zero,kX]at h;exact⟨0,x,by simp,by simpa using e,by simpa using h.symm,by simp⟩
  |succ j=>
   simp only[List.getElem?_cons_succ]at h;obtain⟨k,z,h1,h2,h3,h4⟩:=ih (k0+1) j y h;refine⟨k+1,z,by simpa using h1, ?_, ?_, ?_⟩
   ·rw[show k0+(k+1)=k0+1+k by omega];exact h2
   ·rw[show k0+(k+1)=k0+1+k by omega];exact h3
   rw[show k0+(k+1)=k0+1+k by omega,h4,om,if_neg e];omega
theorem Cn(b0:Nat): ∀(st:List qu)(k0:Nat),(tD a b c s b0 k0 st).length<=st.length:=by
 intro st;induction st with
 |nil=>intro k0;simp[tD]
 |cons x r ih=>
  intro k0;have:=ih (k0+1);rw[tD];split<;>simp<;>omega
theorem Co(b0:Nat)(st:List qu)(k0:Nat)(y:qu)(h:y∈tD a b c s b0 k0 st): ∃x∈st,∃ k,y=Cp a b c s b0 k x:=by
 obtain⟨j,hj⟩:=jz h;obtain⟨k,x,h1,_,h3,_⟩:=Vg b0 st k0 j y hj;exact⟨x,qX h1,_,h3⟩
theorem My(r:Nat)(F:Nat->Int)(p:ql)(h:F r=p.qO):(Mx a b c (s r) p).qO=Tg a b c F s r:=by
 unfold Mx Tg;rw[h];split<;>rfl
theorem Mz(r:Nat)(p:ql)(W:Nat->Int)(h:W r=p.to):(Mx a b c (s r) p).to=RU a b c W s r:=by
 unfold Mx RU;rw[h];split<;>rfl
variable {l:List oF} {n:Int} {H:Nat->Prop} {last:Int}
variable (hR:Row l.length (FT l) (FZ l) (T2 l) n) (hH:N8 l.length (FT l) (FZ l) (T2 l) H a b) (hS:Side l.length (FT l) (FZ l) (T2 l) H a b last s) (ha:0<=a) (eN:a<=b) (hb:b<=n) (hc:0<=c)
include hR hH hS ha eN hb hc in
theorem Ig{i:qw}{b0:Nat}(hi: ∀(r:Nat)(x:oF),(sX b0 i)[r]? =some x->l[b0+r]? =some x)(hm:VU i n)(h0:s b0≠1):VU (Zh a b c s b0 i) (n+(c-(b-a))):=by
 have hh:l[b0]? =some (i.span.qO,i.span.to,-1):=by simpa using hi 0 _ rfl
 have ZM:b0<l.length:=(qG hh).1;have gh:=cN hh;have hk: ∀(k:Nat)(x:qu),i.stops.l[k]? =some x->l[b0+1+k]? =some (x.span.qO,x.span.to,(b0:Int)+1+x.up):=by
  intro k x hx;have:=hi (k+1) (x.span.qO,x.span.to,b0+1+x.up) (by simp[sX,hx]);rwa[show b0+(k+1)=b0+1+k by omega]at this
 have mF: ∀(k:Nat)(x:qu),i.stops.l[k]? =some x->b0+1+k<l.length:=fun k x hx=>(qG (hk k x hx)).1;have gk:=fun(k:Nat)(x:qu) hx=>cN (hk k x hx);have get: ∀(j:Nat)(y:qu),(Zh a b c s b0 i).stops.l[j]? =some y-> ∃(k:Nat)(x:qu),i.stops.l[k]? =some x/\s (b0+1+k)≠1/\y=Cp a b c s (b0+1) k x/\om s (b0+1) k=j:=by
  intro j y hy;obtain⟨k,x,h1,h2,h3,h4⟩:=Vg (b0+1) i.stops.l 0 j y hy;simp only[Nat.zero_add,om]at h2 h3 h4;exact⟨k,x,h1,h2,h3,h4⟩
 have fr: ∀(k:Nat)(x:qu),i.stops.l[k]? =some x->(Cp a b c s (b0+1) k x).span.qO=Tg a b c (FT l) s (b0+1+k):=fun k x hx=>My _ _ _ (gk k x hx).1;have to: ∀(k:Nat)(x:qu),i.stops.l[k]? =some x->(Cp a b c s (b0+1) k x).span.to=RU a b c (FZ l) s (b0+1+k):=fun k x hx=>Mz _ _ _ (gk k x hx).2.1;have fr0:(Zh a b c s b0 i).span.qO=Tg a b c (FT l) s b0:=My _ _ _ gh.1;have to0:(Zh a b c s b0 i).span.to=RU a b c (FZ l) s b0:=Mz _ _ _ gh.2.1;have par: ∀(k:Nat)(x:qu),i.stops.l[k]? =some x->s (b0+1+k)≠1-> ∀p:Nat,x.up=p->p<k/\s (b0+1+p)≠1/\ ∃y,i.stops.l[p]? =some y:=by
  intro k x hx h p hp;have hu:=hm.up k x hx;have Xm:=(qG hx).1;refine⟨by omega,cA hR hH hS (mF k x hx) h (p:=b0+1+p) (by rw[(gk k x hx).2.2,hp];simp),_,kU (by omega)⟩
 have Le: ∀(k:Nat)(x:qu),i.stops.l[k]? =some x->(x.up= -1/\(Cp a b c s (b0+1) k x).up= -1)\/ ∃p:Nat,x.up=p/\(Cp a b c s (b0+1) k x).up=(om s (b0+1) p:Nat):=by
  intro k x hx;have hu:=hm.up k x hx;unfold Cp;by_cases e:0<=x.up
  ·right;exact⟨x.up.toNat,by omega,by simp only[if_pos e]⟩
  left;simp only[if_neg e];omega
 refine⟨?_, ?_, ?_, ?_, ?_, ?_, ?_⟩
 ·rw[fr0,to0];exact VM hR hH hS ha eN hb hc ZM h0
 ·intro j y hy;obtain⟨k,x,h1,h2,rfl,h4⟩:=get j y hy;rcases Le k x h1 with ⟨_,e⟩|⟨p,e1,e2⟩
  ·omega
  obtain⟨q1,q2,_⟩:=par k x h1 h2 p e1;have:=MM s (b0+1) q1 q2;omega
 ·intro j y hy;obtain⟨k,x,h1,h2,rfl,h4⟩:=get j y hy;rw[fr k x h1,to k x h1];exact(VM hR hH hS ha eN hb hc (mF k x h1) h2).2.1
 ·intro j y hy hu;obtain⟨k,x,h1,h2,rfl,h4⟩:=get j y hy;rcases Le k x h1 with ⟨e,_⟩|⟨p,e1,e2⟩
  ·rw[fr k x h1,to k x h1,fr0,to0];exact Ko hR hH hS eN hc (mF k x h1) h2 (p:=b0) (by rw[(gk k x h1).2.2,e];simp only;omega)
  omega
 ·intro j y hy p y2 hp Wd;obtain⟨k,x,h1,h2,rfl,h4⟩:=get j y hy;obtain⟨k2,x2,g1,g2,rfl,g4⟩:=get p y2 Wd;rcases Le k x h1 with ⟨e,e'⟩|⟨q,e1,e2⟩
  ·omega
  obtain⟨q1,q2,_⟩:=par k x h1 h2 q e1;obtain rfl:q=k2:=TU s (b0+1) q2 g2 (by omega);rw[fr k x h1,to k x h1,fr q x2 g1,to q x2 g1];exact Ko hR hH hS eN hc (mF k x h1) h2 (p:=b0+1+q) (by rw[(gk k x h1).2.2,e1];simp)
 ·intro j y hy j2 y2 hj Wd hu;obtain⟨k,x,h1,h2,rfl,h4⟩:=get j y hy;obtain⟨k2,x2,g1,g2,rfl,g4⟩:=get j2 y2 Wd;have Xm:k2<k:=YY s (b0+1) (by omega);have he:x2.up=x.up:=by
   rcases Le k x h1 with ⟨e,e'⟩|⟨q,e1,e2⟩<;>rcases Le k2 x2 g1 with ⟨f,f'⟩|⟨q',f1,f2⟩
   ·omega
   ·omega
   ·omega
   obtain⟨_,q2,_⟩:=par k x h1 h2 q e1;obtain⟨_,q2',_⟩:=par k2 x2 g1 g2 q' f1;have:=TU s (b0+1) q2 q2' (by omega);omega
  rw[fr k x h1,to k2 x2 g1];exact VN hR hH hS eN hc (mF k x h1) h2 (q:=b0+1+k2) (by omega) g2 (by rw[(gk k x h1).2.2,(gk k2 x2 g1).2.2,he])
 intro j y hy q y2 hq hu Wd;obtain⟨k,x,h1,h2,rfl,h4⟩:=get j y hy;obtain⟨k2,x2,g1,g2,rfl,g4⟩:=get q y2 Wd;have Xm:k2<k:=YY s (b0+1) (by omega);rcases Le k x h1 with ⟨e,e'⟩|⟨p,e1,e2⟩
 ·rcases Le k2 x2 g1 with ⟨f,f'⟩|⟨q',f1,f2⟩<;>omega
 have hpk:p<k2:=YY s (b0+1) (by omega);have:=hm.pre k x h1 k2 x2 Xm (by omega) g1;rcases Le k2 x2 g1 with ⟨f,f'⟩|⟨q',f1,f2⟩
 ·omega
 have:=Ke s (b0+1) (show p<=q' by omega);omega
theorem Zi: ∀(is:List qw)(b0:Nat),(∀(r:Nat)(x:oF),(bp b0 is)[r]? =some x->l[b0+r]? =some x)-> ∀(j:Nat)(y:qw),(bZ a b c s b0 is)[j]? =some y->
  ∃(k:Nat)(i:qw)(b1:Nat),is[k]? =some i/\b0<=b1/\s b1≠1/\y=Zh a b c s b1 i/\(∀(r:Nat)(x:oF),(sX b1 i)[r]? =some x->l[b1+r]? =some x):=by
 intro is;induction is with
 |nil=>intro b0 _ j y h;simp[bZ]at h
 |cons i is ih=>
  intro b0 hl j y h;have hL:=aP b0 i;have h1: ∀(r:Nat)(x:oF),(sX b0 i)[r]? =some x->l[b0+r]? =some x:=by
   intro r x hx;have hr:=(qG hx).1;exact hl r x (by rw[bp,List.getElem?_append_left hr];exact hx)
  have h2: ∀(r:Nat)(x:oF),(bp (b0+1+i.stops.l.length) is)[r]? =some x->l[b0+1+i.stops.l.length+r]? =some x:=by
   intro r x hx;have:=hl (1+i.stops.l.length+r) x (by rw[bp,List.getElem?_append_right (by omega),hL,show 1+i.stops.l.length+r-(1+i.stops.l.length)=r by omega];exact hx);rwa[show b0+(1+i.stops.l.length+r)=b0+1+i.stops.l.length+r by omega]at this
  have again: ∀(j:Nat)(y:qw),(bZ a b c s (b0+1+i.stops.l.length) is)[j]? =some y-> ∃(k:Nat)(i' :qw)(b1:Nat),(i::is)[k]? =some i' /\b0<b1/\s b1≠1/\y=Zh a b c s b1 i' /\(∀(r:Nat)(x:oF),(sX b1 i')[r]? =some x->l[b1+r]? =some x):=by
   intro j y h;obtain⟨k,i',b1,g1,g2,g3⟩:=ih (b0+1+i.stops.l.length) h2 j y h;exact⟨k+1,i',b1,by simpa using g1,by omega,g3⟩
  rw[bZ]at h;split at h
  ·obtain⟨k,i',b1,g1,g2,g3⟩:=again j y h;exact⟨k,i',b1,g1,by omega,g3⟩
  rename_i e;cases j with
  |zero=>
   simp only[List.getElem?_cons_zero,kX]at h;exact⟨0,i,b0,rfl,xJ _,e,h.symm,h1⟩
  |succ j=>
   simp only[List.getElem?_cons_succ]at h;obtain⟨k,i',b1,g1,g2,g3⟩:=again j y h;exact⟨k,i',b1,g1,by omega,g3⟩
theorem Mv: ∀(is:List qw)(b0:Nat),(∀(r:Nat)(x:oF),(bp b0 is)[r]? =some x->l[b0+r]? =some x)-> ∀(j j' :Nat)(y y' :qw),j<j' ->(bZ a b c s b0 is)[j]? =some y->(bZ a b c s b0 is)[j']? =some y' ->
  ∃(i i' :qw)(b1 b2:Nat),b0<=b1/\b1<b2/\s b1≠1/\s b2≠1/\y=Zh a b c s b1 i/\y' =Zh a b c s b2 i' /\l[b1]? =some (i.span.qO,i.span.to,-1)/\l[b2]? =some (i'.span.qO,i'.span.to,-1):=by
 intro is;induction is with
 |nil=>intro b0 _ j j' y y' _ h;simp[bZ]at h
 |cons i is ih=>
  intro b0 hl j j' y y' hj h h';have hL:=aP b0 i;have h1:l[b0]? =some (i.span.qO,i.span.to,-1):=by simpa using hl 0 _ (by rw[bp,List.getElem?_append_left (by omega)];rfl)
  have h2: ∀(r:Nat)(x:oF),(bp (b0+1+i.stops.l.length) is)[r]? =some x->l[b0+1+i.stops.l.length+r]? =some x:=by
   intro r x hx;have:=hl (1+i.stops.l.length+r) x (by rw[bp,List.getElem?_append_right (by omega),hL,show 1+i.stops.l.length+r-(1+i.stops.l.length)=r by omega];exact hx);rwa[show b0+(1+i.stops.l.length+r)=b0+1+i.stops.l.length+r by omega]at this
  rw[bZ]at h h';split at h
  ·rename_i e;rw[if_pos e]at h';obtain⟨i1,i2,b1,b2,g1,g⟩:=ih (b0+1+i.stops.l.length) h2 j j' y y' hj h h';exact⟨i1,i2,b1,b2,by omega,g⟩
  rename_i e;rw[if_neg e]at h';obtain⟨j',rfl⟩: ∃q,j' =q+1:=⟨j' -1,by omega⟩;simp only[List.getElem?_cons_succ]at h';cases j with
  |zero=>
   simp only[List.getElem?_cons_zero,kX]at h;obtain⟨k,i',b2,g1,g2,g3,g4,g5⟩:=Zi is (b0+1+i.stops.l.length) h2 j' y' h';exact⟨i,i',b0,b2,xJ _,by omega,e,g3,h.symm,g4,h1,by simpa using g5 0 _ rfl⟩
  |succ j=>
   simp only[List.getElem?_cons_succ]at h;obtain⟨i1,i2,b1,b2,g1,g⟩:=ih (b0+1+i.stops.l.length) h2 j j' y y' (by omega) h h';exact⟨i1,i2,b1,b2,by omega,g⟩
include hR hH hS ha eN hb hc in
theorem Cm{is:List qw}(hl:l=bp 0 is)(hm:cx is n):cx (bZ a b c s 0 is) (n+(c-(b-a))):=by
 have hg: ∀(r:Nat)(x:oF),(bp 0 is)[r]? =some x->l[0+r]? =some x:=fun r x h=>by rw[hl,Nat.zero_add];exact h
 constructor
 ·intro j y hy;obtain⟨k,i,b1,g1,_,g3,rfl,g5⟩:=Zi is 0 hg j y hy;exact Ig hR hH hS ha eN hb hc g5 (hm.may k i g1) g3
 intro j j' y y' hj hy hy';obtain⟨i,i',b1,b2,_,g2,g3,g4,rfl,rfl,g7,g8⟩:=Mv is 0 hg j j' y y' hj hy hy';have e1:=cN g7;have e2:=cN g8;have hb2:=(qG g8).1;show(Mx a b c (s b1) i.span).to<=(Mx a b c (s b2) i'.span).qO;rw[Mz _ _ _ e1.2.1,My _ _ _ e2.1];exact VN hR hH hS eN hc hb2 g4 g2 g3 (by rw[e1.2.2,e2.2.2])
end
end Xr
def qB{α:Type}(o:Option α)(Q:α->Prop):Prop:= ∃r,o=some r/\Q r
theorem qB.ret{α:Type}{a:α}{Q:α->Prop}(h:Q a):qB (some a) Q:=⟨a,rfl,h⟩
theorem qB.bind{α β:Type}{o:Option α}{f:α->Option β}{P:α->Prop}{Q:β->Prop}(h:qB o P)(k: ∀x,P x->qB (f x) Q):qB (o>>=f) Q:=by
 obtain⟨x,rfl,hx⟩:=h;exact k x hx
theorem qB.go{α β:Type}{o:Option α}{f:α->Option β}{a:α}{Q:β->Prop}(h:o=some a)(k:qB (f a) Q):qB (o>>=f) Q:=by
 subst h;exact k
theorem qB.ite{α:Type}{c:Prop}[Decidable c]{a b:Option α}{Q:α->Prop}(h1:c->qB a Q)(h2: ¬c->qB b Q):qB (if c then a else b) Q:=by
 split
 ·exact h1 (by assumption)
 exact h2 (by assumption)
theorem qB.zm{α:Type}{c:Prop}[Decidable c]{a:Option α}{Q:α->Prop}(hc:c)(h:qB a Q):qB (if c then a else none) Q:=by
 rw[if_pos hc];exact h
theorem qB.mono{α:Type}{o:Option α}{P Q:α->Prop}(h:qB o P)(k: ∀x,P x->Q x):qB o Q:=by
 obtain⟨x,h1,h2⟩:=h;exact⟨x,h1,k x h2⟩
theorem qB.get{α:Type}{l:List α}{i:Int}(h1:0<=i:=by omega)(h2:i<(l.length:Int):=by omega):qB (qi l i) (fun x=>l[i.toNat]? =some x/\x∈l):=by
 have h3:i.toNat<l.length:=by omega
 refine⟨l[i.toNat], ?_,by simp[h3],List.getElem_mem h3⟩;unfold qi;rw[if_pos h1];simp[h3]
theorem qB.kb{α:Type}{l:List α}{lo hi:Int}(h1:0<=lo:=by omega)(h2:lo<=hi:=by omega)(h3:hi<=(l.length:Int):=by omega):qB (Gm.kb l lo hi) (fun r=>r=(l.take hi.toNat).drop lo.toNat/\(r.length:Int)=hi-lo):=by
 refine⟨(l.take hi.toNat).drop lo.toNat, ?_,rfl, ?_⟩
 ·unfold Gm.kb;rw[if_pos ⟨⟨h1,by omega⟩,by omega,by omega⟩]
 simp only[List.length_drop,List.length_take];omega
theorem qB.bX{α:Type}{l:List α}{lo:Int}(h1:0<=lo:=by omega)(h2:lo<=(l.length:Int):=by omega):qB (Gm.bX l lo) (fun r=>r=l.drop lo.toNat/\(r.length:Int)=l.length-lo):=by
 refine⟨l.drop lo.toNat, ?_,rfl, ?_⟩
 ·unfold Gm.bX;rw[if_pos ⟨h1,by omega⟩]
 simp only[List.length_drop];omega
theorem qB.kx{α:Type}{l:List α}{hi:Int}(h1:0<=hi:=by omega)(h2:hi<=(l.length:Int):=by omega):qB (Gm.kx l hi) (fun r=>r=l.take hi.toNat/\(r.length:Int)=hi):=by
 refine⟨l.take hi.toNat, ?_,rfl, ?_⟩
 ·unfold Gm.kx;rw[if_pos ⟨h1,by omega⟩]
 simp only[List.length_take];omega
theorem qC{n k:Nat}(h:n<=2^30:=by omega)(hk:k<=2^16:=by omega):qg n k=true:=by
 have h1:n*k<=2^30*2^16:=Nat.mul_le_mul h hk;unfold qg;simp only[zB,decide_eq_true_eq];refine⟨⟨by simpa using h1,by omega⟩,by omega⟩
theorem xp{n:Int}(h1:0<=n)(h2:n<=255):IntKind.u8.wrap n=n:=IntWalk.u8_in n ⟨h1,h2⟩
theorem ge0{a b:Int}:(a>=b)=(b<=a):=rfl
theorem gt0{a b:Int}:(a>b)=(b<a):=rfl
def tfx:=PLift.up (And.intro @decide_eq_true_eq (And.intro @zB (And.intro @Bool.or_eq_true (And.intro @Bool.not_eq_true' (And.intro @Bool.not_eq_true (And.intro @Bool.and_eq_false_iff (And.intro @Bool.or_eq_false_iff (And.intro @decide_eq_false_iff_not
 (And.intro @beq_iff_eq.{0} (And.intro @bne_iff_ne.{0} (And.intro @beq_eq_false_iff_ne.{0} (And.intro @bne_eq_false_iff_eq.{0} (And.intro @not_and (And.intro @not_or (And.intro @ge0 (And.intro @gt0 (And.intro @Bool.not_eq_false' (And.intro @Bool.not_eq_false (And.intro @Int.not_lt (And.intro @Int.not_le
 (And.intro @ne_eq.{1} @Decidable.not_not)))))))))))))))))))))
def BN:Nat:=8192
theorem qB.tI{α:Type}{c:Prop}[Decidable c]{a b:Option α}{Q:α->Prop}{p n:Prop}(f:p->qB a Q)(g:n->qB b Q)
  (hp:c->p:=by(intro hT;(try simp(oX:=omega) only[tfx.down,qI,xp]at hT);exact hT)) (hn: ¬c->n:=by(intro hT;(try simp(oX:=omega) only[tfx.down,qI,xp]at hT);exact hT)):qB (if c then a else b) Q:=
 qB.ite (fun h=>f (hp h)) (fun h=>g (hn h))
theorem tW{P:Prop}(h:P:=by
 (try intros)
 (try simp only[BN]at *)
 repeat' (first
  |refine qB.zm (qC (by first|omega|grind) (by omega)) ?_
  |refine qB.zm (by (try simp only[Bool.and_eq_true,decide_eq_true_eq,List.length_append,List.length_cons,List.length_nil]);first|omega|grind) ?_
  |(refine qB.tI ?_ ?_<;>intro _)
  |(rw [qI];rotate_left;(first|omega|grind);(first|omega|grind))
  |(rw [xp];rotate_left;(first|omega|grind);(first|omega|grind))
  |refine qB.bind (qB.get (by first|omega|grind) (by first|omega|grind)) fun _ _=>?_
  |refine qB.bind (qB.kb (by first|omega|grind) (by first|omega|grind) (by first|omega|grind)) fun _ _=>?_
  |refine qB.bind (qB.kx (by first|omega|grind) (by first|omega|grind)) fun _ _=>?_
  |refine qB.bind (qB.bX (by first|omega|grind) (by first|omega|grind)) fun _ _=>?_
  |refine qB.bind (by (apply_assumption;(try any_goals rfl);all_goals (first|assumption|omega|grind))) fun _ _=>?_
  |refine .ret ?_
  |(refine qB.mono (by (apply_assumption;(try any_goals rfl);all_goals (first|assumption|omega|grind))) ?_;intros)
  |(rintro _ ⟨⟩))
 all_goals (first|omega|(simp only[List.length_append,List.length_cons,List.length_nil]at *; first|omega|grind)|grind|((repeat' (refine And.intro ?_ ?_))<;>first|rfl|omega|(simp only[List.length_append,List.length_cons,List.length_nil]at *; omega)|grind)|(split<;>refine .ret ?_<;>first|omega|grind))):P:=h
theorem bL(c:UInt8):qB (kj c) (fun v=>v=true->48<=c.toNat/\c.toNat<=57):=by
 unfold kj
 (refine qB.tI ?_ ?_<;>intro hT)
 ·exact .ret (by simp;omega)
 exact .ret (by simp)
theorem mO(c:UInt8):qB (wx c) (fun _=>True):=by
 unfold wx
 (refine qB.tI ?_ ?_<;>intro hT)
 ·exact .ret trivial
 (refine qB.tI ?_ ?_<;>intro hT)
 ·exact .ret trivial
 exact .ret trivial
theorem Wg(s:qa)(hs:s.length<=BN)(qk:Int)(ha:0<=qk)(dS:qk<=s.length): ∀(m:Nat)(n e:Int),m=(s.length-e).toNat->qk<=e->e<=s.length->0<=n->
  (e=qk/\n<1\/e=qk+1/\n<10\/e=qk+2/\n<100\/e=qk+3/\n<1000\/e=qk+4/\n<10000)->
  qB (u7 (s,qk,n,e)) (fun r=>0<=r.1/\r.1<=9999/\e<=r.2/\r.2<=s.length):=by
 unfold BN at hs;intro m;induction m using Nat.strongRecOn with
 |_ m ih=>
 intro n e hm h1 h2 h4 h5;rw[u7.eq_1]
 (refine qB.tI ?_ ?_<;>intro hT)
 ·(repeat (first|(rw [qI];rotate_left;omega;omega)|(rw [xp];rotate_left;omega;omega)))
  refine qB.bind (qB.get (by omega) (by omega)) fun b hb=>?_;refine qB.bind (bL b) fun v hv=>?_
  (refine qB.tI ?_ ?_<;>intro hT)
  ·have Qn:=hT;have DS:=hv Qn
   (try simp(oX:=omega) only[qI,xp])
   exact(ih _ (by omega) _ _ rfl (by omega) (by omega) (by omega) (by omega)).mono fun r hr=>by omega
  exact .ret (by simp only;omega)
 exact .ret (by simp only;omega)
theorem cL(s:qa)(hs:s.length<=BN)(qk:Int)(ha:0<=qk)(dS:qk<=s.length):
  qB (gN s qk) (fun r=>0<=r.1/\r.1<=9999/\(r.2.2=true->qk<r.2.1/\r.2.1<=s.length)):=by
 unfold gN;refine qB.bind (Wg s hs qk ha dS _ 0 qk rfl (by omega) dS (by omega) (by omega)) fun v hv=>?_
 (refine qB.tI ?_ ?_<;>intro hT)
 ·exact .ret (by simp)
 (refine qB.tI ?_ ?_<;>intro hT)
 ·refine qB.bind (qB.get (by omega) (by omega)) fun b hb=>?_;refine qB.bind (bL b) fun w hw=>?_
  (refine qB.tI ?_ ?_<;>intro hT)
  ·exact .ret (by simp)
  exact .ret ⟨hv.1,hv.2.1,fun _=>by simp only;omega⟩
 exact .ret ⟨hv.1,hv.2.1,fun _=>by simp only;omega⟩
theorem GA(s:qa)(hs:s.length<=BN): ∀(m:Nat)(i:Int),m=(s.length-i).toNat->0<=i->qB (xG (s,i)) (fun _=>True):=by
 unfold BN at hs;intro m;induction m using Nat.strongRecOn with
 |_ m ih=>
 intro i hm h1;rw[xG.eq_1]
 (refine qB.tI ?_ ?_<;>intro hT)
 ·(repeat (first|(rw [qI];rotate_left;omega;omega)|(rw [xp];rotate_left;omega;omega)))
  refine qB.bind (qB.get (by omega) (by omega)) fun b hb=>?_;refine qB.bind (mO b) fun v hv=>?_;have h:=ih _ (by omega) (i+1) rfl (by omega)
  (refine qB.tI ?_ ?_<;>intro hT)
  ·(refine qB.tI ?_ ?_<;>intro hT)
   ·(refine qB.tI ?_ ?_<;>intro hT)
    ·exact .ret trivial
    refine qB.bind (bL b) fun w hw=>?_
    (refine qB.tI ?_ ?_<;>intro hT)
    ·exact .ret trivial
    exact h
   exact h
  exact h
 exact .ret trivial
theorem K4(s:qa)(hs:s.length<=BN):qB (j9 s) (fun _=>True):=by
 unfold j9
 (refine qB.tI ?_ ?_<;>intro hT)
 ·exact .ret trivial
 refine qB.bind (GA s hs _ 0 rfl (by omega)) fun v hv=>?_;rcases v with v|v<;>exact .ret trivial
theorem Ue(s:qa)(hs:s.length<=BN)(w:List T.Snip)(es:List Int)(qk:Int)(ha:0<=qk): ∀(m:Nat)(e:Int),m=(s.length-e).toNat->qk<=e->e<=s.length->
  qB (xK (qk,e,s,w,es)) (fun r=>e<=r/\r<=s.length):=by
 unfold BN at hs;intro m;induction m using Nat.strongRecOn with
 |_ m ih=>
 intro e hm h1 h2;rw[xK.eq_1]
 (refine qB.tI ?_ ?_<;>intro hT)
 ·(repeat (first|(rw [qI];rotate_left;omega;omega)|(rw [xp];rotate_left;omega;omega)))
  refine qB.bind (qB.get (by omega) (by omega)) fun b hb=>?_;refine qB.bind (mO b) fun v hv=>?_;have h:=(ih _ (by omega) (e+1) rfl (by omega) (by omega)).mono (Q:=fun r=>e<=r/\r<=s.length) fun r hr=>by omega
  (refine qB.tI ?_ ?_<;>intro hT)
  ·exact h
  (refine qB.tI ?_ ?_<;>intro hT)
  ·exact h
  (refine qB.tI ?_ ?_<;>intro hT)
  ·refine qB.bind (bL b) fun w hw=>?_
   (refine qB.tI ?_ ?_<;>intro hT)
   ·exact h
   exact .ret (by omega)
  exact .ret (by omega)
 exact .ret (by omega)
theorem D8(s:qa)(hs:s.length<=BN)(w:List T.Snip)(es:List Int)(qk:Int)(ha:0<=qk)(dS:qk<=s.length):
  qB (um qk s w es) (fun r=>qk<=r.2.1/\r.2.1<=s.length/\(r.1.length:Int)=r.2.1-qk/\(r.2.2=true->qk<r.2.1)):=by
 unfold um;refine qB.bind (Ue s hs w es qk ha _ qk rfl (by omega) dS) fun v hv=>?_;refine qB.bind (qB.kb ha hv.1 hv.2) fun x hx=>?_;have hn:=K4 x (by omega);by_cases he:x.length=0
 ·have:x=[]:=by simpa using he
  subst this;refine qB.bind (o:=j9 []) (P:=fun w=>w=false) ⟨false,by unfold j9;simp,rfl⟩ fun w hw=>?_;subst hw;exact .ret ⟨hv.1,hv.2,hx.2,by simp⟩
 refine qB.bind hn fun w hw=>?_;exact .ret ⟨hv.1,hv.2,hx.2,fun _=>by simp only;omega⟩
namespace Xr
theorem gi{α:Type}{l:List α}{k:Nat}{x:α}(h:l[k]? =some x):qi l (k:Int)=some x:=by
 have hk:=(qG h).1;rw[j8 hk];rw[kU hk]at h;exact h
theorem gl{α:Type}{l:List α}{k:Nat}(h:k<l.length): ∃x,l[k]? =some x:=⟨l[k],kU h⟩
theorem ws{k:Nat}(h:k<2^60):IntKind.i64.wrap ((k:Int)+1)=((k+1:Nat):Int):=cu (by omega)
def xo(a b:ql):Prop:=b.qO<=a.qO/\a.to<=b.to
instance(a b:ql):Decidable (xo a b):=by unfold xo;infer_instance
theorem rB(a b:ql):xl a b=some (decide (xo a b)):=by
 unfold xl xo;by_cases h:b.qO<=a.qO
 ·rw[if_pos (by simpa using h)];simp[h]
 rw[if_neg (by simpa using h)];simp[h]
theorem zp{α:Type}{l:List α}{k:Nat}{x:α}{r:List α}(h:l.drop k=x::r):l[k]? =some x/\l.drop (k+1)=r/\k<l.length:=by
 have hk:k<l.length:=by
  rcases Nat.lt_or_ge k l.length with h1|h1
  ·exact h1
  rw[List.drop_eq_nil_of_le h1]at h;cases h
 rw[List.drop_eq_getElem_cons hk]at h;simp only[List.cons.injEq]at h;exact⟨by rw[kU hk,h.1],h.2,hk⟩
theorem zc{α:Type}{l:List α}{k:Nat}(h:l.drop k=[]):l.length<=k:=by simpa using h
def isN(n:Int)(x:qu):Bool:= !x.qJ&&x.n==n
def lg(n:Int)(l:List qu):List ql:=(l.filter (isN n)).map (·.span)
def vU(n:Int)(is:List qw):List ql:=is.flatMap fun i=>lg n i.stops.l
def many(is:List qw):Nat:=(is.map fun i=>i.stops.l.length).sum
theorem VO(n:Int)(l:List qu):(lg n l).length<=l.length:=by
 unfold lg;rw[List.length_map];exact List.length_filter_le _ _
theorem OQ{n:Int}{is:List qw}{p:ql}(h:p∈vU n is): ∃i∈is,∃ x∈i.stops.l,x.span=p/\x.n=n/\x.qJ=false:=by
 unfold vU lg at h;simp only[List.mem_flatMap,List.mem_map,List.mem_filter,isN,zB,Bool.not_eq_true',beq_iff_eq]at h;obtain⟨i,hi,x,⟨hx,h1,h2⟩,h3⟩:=h;exact⟨i,hi,x,hx,h3,h2,h1⟩
theorem OT(n:Int)(is:Sl qw)(a:Nat)(i:qw)(hi:is.l[a]? =some i)(hl:i.stops.l.length<=2^20): ∀(r:List qu)(k:Nat)(out:List ql),i.stops.l.drop k=r->out.length+r.length<=2^29->
  kL (n,is,(a:Int),(k:Int),out)=some (out++lg n r):=by
 intro r;induction r with
 |nil=>
  intro k out h _;have:=zc h;rw[kL.eq_1,gi hi];simp only[xe,z7];rw[if_neg (by simp;omega)];simp[lg]
 |cons x r ih=>
  intro k out h ho;obtain⟨h1,h2,h3⟩:=zp h;simp only[List.length_cons]at ho;rw[kL.eq_1,gi hi];simp only[xe,z7];rw[if_pos (by simp;omega),gi h1,ws (by omega)];simp only[z7];have e1:=ih (k+1) out h2 (by omega);have e2:=ih (k+1) (out++[x.span]) h2 (by simp;omega);generalize ((k+1:Nat):Int)=q at e1 e2 |-;cases ht:x.qJ with
  |true=>simp[e1,lg,isN,ht]
  |false=>
   by_cases hn:x.n=n
   ·simp[e2,lg,isN,ht,hn,qC (show out.length+1<=2^30 by omega) (show 16<=2^16 by omega)]
   simp[e1,lg,isN,ht,hn]
theorem OS(n:Int)(is:Sl qw)(hb: ∀i∈is.l,i.stops.l.length<=2^20)(hL:is.l.length<=2^20): ∀(r:List qw)(a:Nat)(out:List ql),is.l.drop a=r->out.length+many r<=2^29->
  yJ (n,is,(a:Int),out)=some (out++vU n r):=by
 intro r;induction r with
 |nil=>
  intro a out h _;have:=zc h;rw[yJ.eq_1,if_neg (by simp;omega)];simp[vU]
 |cons i r ih=>
  intro a out h ho;obtain⟨h1,h2,h3⟩:=zp h;have hi:=qX h1;simp only[many,List.map_cons,List.sum_cons]at ho;have hs:=VO n i.stops.l;rw[yJ.eq_1,if_pos (by simp;omega),show(0:Int)=((0:Nat):Int)from rfl,OT n is a i h1 (hb i hi) i.stops.l 0 out rfl (by omega),ws (by omega)];simp only[xe,z7];rw[ih (a+1) _ h2 (by simp only[many,List.length_append];omega)];simp[vU]
theorem Qs{is:List qw}{B:Nat}(h: ∀i∈is,i.stops.l.length<=B):many is<=is.length*B:=by
 induction is with
 |nil=>simp[many]
 |cons i is ih=>
  have h1:=h i (by simp);have h2:=ih fun j hj=>h j (by simp[hj]);simp only[many,List.map_cons,List.sum_cons,List.length_cons]at*
  rw[Nat.succ_mul];omega
theorem QJ(n:Int)(is:Sl qw)(hb: ∀i∈is.l,i.stops.l.length<=2^12)(hL:is.l.length<=2^12):km n is=some ⟨(vU n is.l).isEmpty,vU n is.l⟩:=by
 have h1:=Qs hb;have h2:is.l.length*2^12<=2^12*2^12:=Nat.mul_le_mul hL (xJ _);unfold km;rw[show (0:Int)=((0:Nat):Int)from rfl,OS n is (fun i hi=>by have:=hb i hi;omega) (by omega) is.l 0 [] rfl (by simp;omega)];simp
theorem TC(s:ql)(l:Sl ql)(hL:l.l.length<2^60): ∀(r:List ql)(k:Nat),l.l.drop k=r->uK (l,(k:Int),s)=some (if r.any (fun p=>decide (xo s p))=true then .inl true else .inr ()):=by
 intro r;induction r with
 |nil=>
  intro k h;have:=zc h;rw[uK.eq_1,if_neg (by simp;omega)];simp
 |cons p r ih=>
  intro k h;obtain⟨h1,h2,h3⟩:=zp h;rw[uK.eq_1,if_pos (by simp;omega),gi h1,ws (by omega)];simp only[xe,z7,rB,ih (k+1) h2];by_cases e:xo s p<;>simp[e]
def lD(s:ql)(l:List ql):Prop:= ∃p∈l,xo s p
theorem lies_ok(s:ql)(l:Sl ql)(hL:l.l.length<2^60): ∃t:Bool,uJ s l=some t/\(t=true↔lD s l.l):=by
 unfold uJ;rw[show (0:Int)=((0:Nat):Int)from rfl,TC s l hL l.l 0 rfl];simp only[xe,z7,lD];cases h:l.l.any (fun p=>decide (xo s p))with
 |true=>exact⟨true,rfl,by simpa using h⟩
 |false=>exact⟨false,rfl,by simpa using h⟩
def KN(s:qc)(qk:ql)(a k:Int):Prop:= ∃(a' k' :Nat)(i:qw)(x:qu),a=a' /\k=k' /\s.insts.l[a']? =some i/\i.stops.l[k']? =some x/\x.n=s.cur/\x.qJ=false/\xo qk x.span
theorem Iv(s:qc)(qk:ql)(a:Nat)(i:qw)(hi:s.insts.l[a]? =some i)(hl:i.stops.l.length<2^60): ∀(r:List qu)(k:Nat),i.stops.l.drop k=r->
  qB (xY ((a:Int),(k:Int),s,qk)) (fun v=>v= .inr ()\/ ∃j,v= .inl j/\KN s qk a j):=by
 intro r;induction r with
 |nil=>
  intro k h;have:=zc h;rw[xY.eq_1,gi hi];simp only[xe,z7];rw[if_neg (by simp;omega)];exact .ret (.inl rfl)
 |cons x r ih=>
  intro k h;obtain⟨h1,h2,h3⟩:=zp h;rw[xY.eq_1,gi hi];simp only[xe,z7];rw[if_pos (by simp;omega),gi h1,ws (by omega)];simp only[z7,rB];have hr:=ih (k+1) h2;by_cases e:((x.n==s.cur)&&(!x.qJ))=true
  ·rw[if_pos e];simp only[zB,beq_iff_eq,Bool.not_eq_true']at e;by_cases w:xo qk x.span
   ·rw[if_pos (by simpa using w)];exact .ret (.inr ⟨_,rfl,a,k,i,x,rfl,rfl,hi,h1,e.1,e.2,w⟩)
   rw[if_neg (by simpa using w)];exact hr
  rw[if_neg e];exact hr
def jX(s:qc):Prop:=s.insts.l.length<=2^12/\ ∀i∈s.insts.l,i.stops.l.length<=2^12
theorem Iu(s:qc)(qk:ql)(hs:jX s): ∀(r:List qw)(a:Nat),s.insts.l.drop a=r->
  qB (jn ((a:Int),s,qk)) (fun v=>v= .inr ()\/ ∃j k,v= .inl (j,k)/\KN s qk j k):=by
 intro r;have nh:=hs.1;induction r with
 |nil=>
  intro a h;have:=zc h;rw[jn.eq_1,if_neg (by simp;omega)];exact .ret (.inl rfl)
 |cons i r ih=>
  intro a h;obtain⟨h1,h2,h3⟩:=zp h;have hi:=hs.2 i (qX h1);rw[jn.eq_1,if_pos (by simp;omega),ws (by omega)];refine .bind (Iv s qk a i h1 (by omega) i.stops.l 0 rfl) fun v hv=>?_;rcases hv with rfl|⟨j,rfl,hj⟩
  ·exact ih (a+1) h2
  exact .ret (.inr ⟨_,_,rfl,hj⟩)
theorem Zq(s:qc)(qk:ql)(hs:jX s):qB (ko s qk) (fun v=>v=(-1,-1)\/KN s qk v.1 v.2):=by
 unfold ko;refine .bind (Iu s qk hs s.insts.l 0 rfl) fun v hv=>?_;rcases hv with rfl|⟨j,k,rfl,hj⟩
 ·exact .ret (.inl rfl)
 exact .ret (.inr hj)
theorem KN.nat{s:qc}{qk:ql}{a k:Int}(h:KN s qk a k):0<=a/\0<=k:=by
 obtain⟨a',k',_,_,rfl,rfl,_⟩:=h;omega
theorem OW(s:qc)(es:Sl qo)(hs:jX s)(he:es.l.length<2^60): ∀(r:List qo)(k:Nat),es.l.drop k=r->
  qB (jo (es,(k:Int),s)) (fun v=>(∃ b,v= .inl b/\b=false)\/v= .inr ()/\ ∀e∈r,∃ a k,ko s e.span=some (a,k)/\KN s e.span a k):=by
 intro r;induction r with
 |nil=>
  intro k h;have:=zc h;rw[jo.eq_1,if_neg (by simp;omega)];exact .ret (.inr ⟨rfl,by simp⟩)
 |cons e r ih=>
  intro k h;obtain⟨h1,h2,h3⟩:=zp h;rw[jo.eq_1,if_pos (by simp;omega),gi h1,ws (by omega)];obtain⟨v,hv,hq⟩:=Zq s e.span hs;refine .go rfl ?_;refine .go hv ?_;rcases hq with rfl|hq
  ·rw[if_pos (by decide)];exact .ret (.inl ⟨_,rfl,rfl⟩)
  have:=hq.nat;rw[if_neg (by simp;omega)];refine(ih (k+1) h2).mono fun w hw=>?_;rcases hw with hw|⟨h4,h5⟩
  ·exact .inl hw
  refine .inr ⟨h4,fun e' W8=>?_⟩;rcases List.mem_cons.1 W8 with rfl|W8
  ·exact⟨_,_,hv,hq⟩
  exact h5 e' W8
theorem Dl(s:qc)(es:Sl qo)(hs:jX s)(he:es.l.length<2^60):qB (ur s es) (fun b=>b=true-> ∀e∈es.l,∃ a k,ko s e.span=some (a,k)/\KN s e.span a k):=by
 unfold ur;refine .bind (OW s es hs he es.l 0 rfl) fun v hv=>?_;rcases hv with ⟨b,rfl,rfl⟩|⟨rfl,hv⟩
 ·exact .ret (by simp)
 exact .ret fun _=>hv
end Xr
namespace Xr
abbrev TS:=qz
def strOf(x:TS):oF:=(x.span.qO,x.span.to,x.up)
structure gx (e:qo) (n:Int):Prop where
 a0:0<=e.span.qO
 ab:e.span.qO<=e.span.to
 bn:e.span.to<=n
 len:(e.text.length:Int)<=2^40
 nn:n<=2^40
theorem MG(e:qo)(n:Int)(he:gx e n)(qk:Int)(h0:0<=qk)(h1:qk<=n)(right:Bool):du qk right e=some (mv e.span.qO e.span.to e.text.length right qk):=by
 have:=he.a0;have:=he.ab;have:=he.bn;have:=he.len;have:=he.nn;unfold du mv;rw[qI (n:=qk+(e.text.length:Int)) (by omega) (by omega),qI (n:=e.span.to-e.span.qO) (by omega) (by omega),qI (n:=e.span.qO+(e.text.length:Int)) (by omega) (by omega),
  qI (n:=qk+(e.text.length:Int)-(e.span.to-e.span.qO)) (by omega) (by omega)]
 by_cases h2:qk<e.span.qO
 ·simp[h2]
 by_cases h3:qk>e.span.to
 ·simp[h2,h3];omega
 cases right<;>simp[h2,h3]
theorem Gx(e:qo)(n:Int)(he:gx e n)(p:ql)(h0:0<=p.qO)(h1:p.qO<=p.to)(h2:p.to<=n)(side:Int):py p side e=some (Mx e.span.qO e.span.to e.text.length side p):=by
 have:=he.a0;have:=he.ab;have:=he.bn;have:=he.len;have:=he.nn;unfold py Mx;by_cases h:side=0
 ·rw[qI (n:=p.to+(e.text.length:Int)) (by omega) (by omega),qI (n:=e.span.to-e.span.qO) (by omega) (by omega),qI (n:=p.to+(e.text.length:Int)-(e.span.to-e.span.qO)) (by omega) (by omega)];simp[h];omega
 rw[if_neg (by simpa using h),MG e n he p.qO (by omega) (by omega),MG e n he p.to (by omega) (by omega),if_neg h];have:(side==3)=decide (side=3):=by by_cases h:side=3<;>simp[h]
 rw[this];rfl
theorem row_L2(s:qc)(a:Nat)(i:qw)(hi:s.insts.l[a]? =some i)(b:Nat)(hb:b<=2^26)(hl:i.stops.l.length<=2^12)(hu: ∀x∈i.stops.l,-1<=x.up/\x.up<=2^20)(z:List TS):
  ∀(r:List qu)(k:Nat)(l:List TS),i.stops.l.drop k=r->l.length+r.length<=2^29->
  ∃m:List TS,gV ((a:Int),(b:Int),(k:Int),s,l,z)=some (l++m)/\m.map strOf=r.map (fun x=>(x.span.qO,x.span.to,(b:Int)+1+x.up)):=by
 intro r;induction r with
 |nil=>
  intro k l h _;have:=zc h;rw[gV.eq_1,gi hi];simp only[xe,z7];rw[if_neg (by simp;omega)];exact⟨[],by simp,rfl⟩
 |cons x r ih=>
  intro k l h hL;obtain⟨h1,h2,h3⟩:=zp h;have hx:=hu x (qX h1);simp only[List.length_cons]at hL;rw[gV.eq_1,gi hi];simp only[xe,z7];rw[if_pos (by simp;omega),gi h1,ws (by omega)];simp only[z7];rw[qI (n:=(b:Int)+1) (by omega) (by omega),qI (n:=(b:Int)+1+x.up) (by omega) (by omega)];rw[if_pos qC];obtain⟨m,e1,e2⟩:=ih (k+1) (l++[qz.mk x.span ((b:Int)+1+x.up)]) h2 (by simp;omega);exact⟨qz.mk x.span ((b:Int)+1+x.up)::m,by rw[e1];simp,by simp[e2,strOf]⟩
theorem row_L0(s:qc)(hs:jX s)(hu: ∀i∈s.insts.l,∀ x∈i.stops.l,-1<=x.up/\x.up<=2^20): ∀(r:List qw)(a:Nat)(l:List TS),s.insts.l.drop a=r->l.length+r.length+many r<=2^25->
  ∃m:List TS,gU ((a:Int),s,l)=some (l++m)/\m.map strOf=bp l.length r:=by
 intro r;have nh:=hs.1;induction r with
 |nil=>
  intro a l h _;have:=zc h;rw[gU.eq_1,if_neg (by simp;omega)];exact⟨[],by simp,rfl⟩
 |cons i r ih=>
  intro a l h hL;obtain⟨h1,h2,h3⟩:=zp h;have tR:=qX h1;have hi:=hs.2 i tR;simp only[List.length_cons,many,List.map_cons,List.sum_cons]at hL;rw[gU.eq_1,if_pos (by simp;omega),gi h1,ws (by omega)];simp only[xe,z7];rw[if_pos qC];obtain⟨m,e1,e2⟩:=row_L2 s a i h1 l.length (by omega) hi (hu i tR) [qz.mk i.span (-1)] i.stops.l 0 (l++[qz.mk i.span (-1)]) rfl (by simp;omega);rw[show ((0:Nat):Int)=0 from rfl]at e1;rw[e1];simp only[z7];have JJ:m.length=i.stops.l.length:=by simpa using congrArg List.length e2
  obtain⟨m2,f1,f2⟩:=ih (a+1) (l++[qz.mk i.span (-1)]++m) h2 (by simp only[many,List.length_append,List.length_singleton];omega);refine⟨qz.mk i.span (-1)::(m++m2),by rw[f1];simp, ?_⟩;simp only[List.map_cons,List.map_append,e2,f2,bp,sX,List.length_append,List.length_singleton,JJ,strOf,List.cons_append]
theorem row_ok(s:qc)(hs:jX s)(hu: ∀i∈s.insts.l,∀ x∈i.stops.l,-1<=x.up/\x.up<=2^20): ∃l:List TS,aG s=some ⟨l.isEmpty,l⟩/\l.map strOf=bp 0 s.insts.l:=by
 have h1:=Qs hs.2;have h2:s.insts.l.length*2^12<=2^12*2^12:=Nat.mul_le_mul hs.1 (xJ _);have h3:=hs.1;obtain⟨m,e1,e2⟩:=row_L0 s hs hu s.insts.l 0 [] rfl (by simp;omega);refine⟨m, ?_,by simpa using e2⟩;unfold aG;rw[show (0:Int)=((0:Nat):Int)from rfl,e1];simp
def zi(is:List qw)(a:Nat):Nat:=((is.take a).map fun i=>1+i.stops.l.length).sum
theorem GJ(s:qc)(hs:jX s)(inst:Nat)(sG:inst<=s.insts.l.length): ∀(d a qk:Nat),a+d=inst->qk+d*(2^12+1)<=2^40->
  yN ((inst:Int),(qk:Int),(a:Int),s)=some ((qk+(zi s.insts.l inst-zi s.insts.l a):Nat):Int):=by
 have nh:=hs.1;intro d;induction d with
 |zero=>
  intro a qk h _;obtain rfl:a=inst:=by omega
  rw[yN.eq_1,if_neg (by simp)];simp
 |succ d ih=>
  intro a qk h hb;have WX:a<s.insts.l.length:=by omega
  have h1:s.insts.l[a]? =some s.insts.l[a]:=kU WX;have h2:=hs.2 _ (List.getElem_mem WX);generalize s.insts.l[a]=i at h1 h2;rw[Nat.succ_mul]at hb;rw[yN.eq_1,if_pos (by simp;omega),gi h1,ws (k:=a) (by omega)];simp only[xe,z7];rw[qI (n:=(qk:Int)+1) (by omega) (by omega),qI (n:=(qk:Int)+1+(i.stops.l.length:Int)) (by omega) (by omega)];rw[show (qk:Int)+1+(i.stops.l.length:Int)=((qk+1+i.stops.l.length:Nat):Int) by omega,ih (a+1) (qk+1+i.stops.l.length) (by omega) (by omega)];have Yq:zi s.insts.l (a+1)=zi s.insts.l a+(1+i.stops.l.length):=by
   unfold zi;rw[List.take_add_one,h1];simp
  have hb2:zi s.insts.l (a+1)<=zi s.insts.l inst:=by
   unfold zi;have:(s.insts.l.take (a+1)).map (fun i=>1+i.stops.l.length)=((s.insts.l.take inst).map (fun i=>1+i.stops.l.length)).take (a+1):=by
    rw[<- List.map_take,List.take_take,Nat.min_eq_left (by omega)]
   rw[this];generalize (s.insts.l.take inst).map (fun i=>1+i.stops.l.length)=L;have:=List.take_append_drop (a+1) L;have h5:=congrArg List.sum this;rw[List.sum_append]at h5;omega
  congr 2;omega
theorem GK(s:qc)(hs:jX s)(qk:ql)(a k:Int)(h:(a= -1/\k= -1)\/KN s qk a k): ∃o:Int,nB s a k=some o/\((a= -1/\o= -1)\/ ∃(a' k' :Nat),a=a' /\k=k' /\o=((zi s.insts.l a' +1+k' :Nat):Int)):=by
 unfold nB;rcases h with ⟨rfl,rfl⟩|⟨a',k',i,x,rfl,rfl,h1,h2,_⟩
 ·rw[if_pos (by simp)];exact⟨-1,rfl,.inl ⟨rfl,rfl⟩⟩
 have WX:=(qG h1).1;have mF:=(qG h2).1;have nh:=hs.1;have DR:=hs.2 i (qX h1);rw[if_neg (by simp;omega),gi h1];simp only[xe,z7];rw[if_neg (by simp;omega),ws (by omega),show(0:Int)=((0:Nat):Int)from rfl,GJ s hs a' (by omega) a' 0 (k' +1) (by omega) (by
  have:a' *(2^12+1)<=2^12*(2^12+1):=Nat.mul_le_mul (by omega) (xJ _)
  omega)]
 refine⟨_,rfl,.inr ⟨a',k',rfl,rfl, ?_⟩⟩;have:zi s.insts.l 0=0:=by simp[zi]
 rw[this];congr 1;omega
end Xr
namespace Xr
inductive ic (U:Nat->Int) (c:Nat):Nat->Prop
 |self:ic U c c
 |up (x p:Nat):ic U c x->U x=p->ic U c p
theorem WC{U:Nat->Int}{c r:Nat}(h:ic U c r):r=c\/ ∃p:Nat,U c=p/\ic U p r:=by
 induction h with
 |self=>exact .inl rfl
 |up x p hx hp ih=>
  rcases ih with rfl|⟨p0,h1,h2⟩
  ·exact .inr ⟨p,hp,.self⟩
  exact .inr ⟨p0,h1,.up x p h2 hp⟩
theorem WD{U:Nat->Int}{c p r:Nat}(hp:U c=p)(h:ic U p r):ic U c r:=by
 induction h with
 |self=>exact .up c p .self hp
 |up x q _ hq ih=>exact .up x q ih hq
section
variable {m:Nat} {F W U:Nat->Int} {n:Int}
theorem Jc(hR:Row m F W U n){c q:Nat}(hc:c<m)(h:ic U c q):q<=c:=by
 induction h with
 |self=>exact xJ _
 |up x p _ hp ih=>have:=hR.up x (by omega);omega
theorem Hu(hR:Row m F W U n){c q:Nat}(hc:c<m)(h:ic U c q): ∀y,q<y->y<=c->(q:Int)<=U y:=by
 induction h with
 |self=>intro y h1 h2;omega
 |up x p hx hp ih=>
  intro y h1 h2;have hxc:=Jc hR hc hx;have C4:=hR.up x (by omega);rcases Nat.lt_trichotomy y x with h3|h3|h3
  ·have:=hR.pre x (by omega) y h3 (by omega);omega
  ·subst h3;omega
  have:=ih y h3 h2;omega
theorem anc_has(hR:Row m F W U n){a b:Int}{c q:Nat}(hc:c<m)(hcc:F c<=a/\b<=W c)(h:ic U c q):F q<=a/\b<=W q:=by
 induction h with
 |self=>exact hcc
 |up x p hx hp ih=>
  have hxc:=Jc hR hc hx;have:=hR.nest x (by omega) p hp;omega
def Wide(F W:Nat->Int)(a b:Int)(r:Nat):Prop:=F r<a/\b<W r\/a<b/\F r<=a/\b<=W r
structure HI (m:Nat) (F W U:Nat->Int) (a b:Int) (o r:Nat) (h i:List Bool):Prop where
 hl:h.length=m
 il:i.length=m
 hs: ∀y,h[y]? =some true->ic U o y\/(o<y/\y<r/\(o:Int)<=U y/\(∀ p:Nat,U y=p->h[p]? =some true)/\Wide F W a b y)
 anc: ∀y,ic U o y->h[y]? =some true
 is: ∀y,i[y]? =some true->o<y
theorem HI.hold(hR:Row m F W U n){a b:Int}{o:Nat}(ho:o<m)(DQ:F o<=a/\b<=W o)(eN:a<=b){h i:List Bool}{r:Nat}(H:HI m F W U a b o r h i):N8 m F W U (fun y=>h[y]? =some true) a b:=by
 refine⟨?_, ?_, ?_⟩
 ·intro y hy h1 p hp;rcases H.hs y h1 with h2|⟨_,_,_,h2,_⟩
  ·exact H.anc p (.up y p h2 hp)
  exact h2 p hp
 ·intro y hy h1;rcases H.hs y h1 with h2|⟨_,_,_,_,h2⟩
  ·exact anc_has hR ho DQ h2
  unfold Wide at h2;omega
 intro y hy q Ly hu h1 h2;rcases H.hs y h2 with h3|⟨h3,_,h4,_,h5⟩
 ·have hyo:=Jc hR ho h3;rcases H.hs q h1 with g|⟨g,_⟩
  ·have:=Hu hR ho g y Ly hyo;have:=hR.up q (by omega);omega
  omega
 have hq:=hR.up q (by omega);rcases H.hs q h1 with g|⟨_,_,_,_,g⟩
 ·have:=Jc hR ho g;omega
 have:=hR.N4 y hy q Ly hu;unfold Wide at h5 g;omega
end
theorem xP{α:Type}(l:List α)(k:Nat)(v:α)(j:Nat):(l.set k v)[j]? =if k=j/\j<l.length then some v else l[j]? :=by
 rw[List.getElem?_set];by_cases h:k=j
 ·subst h;by_cases h2:k<l.length
  ·simp[h2]
  simp[h2]
 simp[h]
section
variable (L:List TS) (e:qo) (deep:Bool) (ow:Int)
theorem hold_L0{n:Int}(hR:Row (L.map strOf).length (FT (L.map strOf)) (FZ (L.map strOf)) (T2 (L.map strOf)) n)(z:Bool)(i_:List Bool): ∀(c:Nat)(h:List Bool),c<L.length->h.length=L.length->
  ∃h' :List Bool,ye (⟨z,L⟩,ow,deep,(c:Int),e,h,i_)=some h' /\h'.length=L.length/\ ∀y,h'[y]? =some true↔h[y]? =some true\/ic (T2 (L.map strOf)) c y:=by
 intro c;induction c using Nat.strongRecOn with
 |_ c ih=>
 intro h hc hl;have hx:L[c]? =some L[c]:=kU hc;generalize L[c]=x at hx;obtain⟨w,hw⟩:=gl (l:=h) (k:=c) (by omega);have hu:=hR.up c (by simpa using hc);have C4:T2 (L.map strOf) c=x.up:=by
  have:(L.map strOf)[c]? =some (strOf x):=by simp[hx]
  rw[(cN this).2.2];rfl
 have nO: ∀y,(h.set c true)[y]? =some true↔h[y]? =some true\/y=c:=by
  intro y;rw[xP];by_cases e1:c=y
  ·subst e1;simp[hl,hc]
  simp[e1];omega
 rw[ye.eq_1,if_pos (by simp),gi hw,gi hx];simp only[xe,z7,Int.toNat_natCast];by_cases hp:0<=x.up
 ·obtain⟨p,hp⟩: ∃p:Nat,x.up=p:=⟨x.up.toNat,by omega⟩;obtain⟨h',g1,g2,g3⟩:=ih p (by omega) (h.set c true) (by omega) (by simp[hl]);refine⟨h',by rw[hp,g1],g2,fun y=>?_⟩;rw[g3,nO];constructor
  ·rintro((k|rfl)|k)
   ·exact .inl k
   ·exact .inr .self
   exact .inr (WD (by rw[C4,hp]) k)
  rintro(k|k)
  ·exact .inl (.inl k)
  rcases WC k with rfl|⟨q,hq,k⟩
  ·exact .inl (.inr rfl)
  obtain rfl:q=p:=by omega
  exact .inr k
 rw[ye.eq_1,if_neg (by simpa using hp)];refine⟨_,rfl,by simp[hl],fun y=>?_⟩;rw[nO];constructor
 ·rintro(k|rfl)
  ·exact .inl k
  exact .inr .self
 rintro(k|k)
 ·exact .inl k
 rcases WC k with rfl|⟨q,hq,_⟩
 ·exact .inr rfl
 omega
def inW(o:Int)(x:TS)(i_:List Bool):Bool:=decide (0<=x.up)&&(decide (x.up=o) || (i_.getD x.up.toNat false))
def Lm(e:qo)(x:TS):Bool:=(decide (x.span.qO<e.span.qO)&&decide (x.span.to>e.span.to)) || (decide (e.span.qO<e.span.to)&&decide (xo e.span x.span))
def G7(o:Int)(e:qo)(x:TS)(h i_:List Bool):Bool:=inW o x i_&&(h.getD x.up.toNat false&&Lm e x)
theorem C0(z:Bool)(ho:0<=ow)(r:Nat)(x:TS)(hx:L[r]? =some x)(hr:r<2^60)(hu:x.up<(r:Nat))(h i_:List Bool)(hl:h.length=L.length)(hi:i_.length=L.length):
  qE (⟨z,L⟩,ow,true,(r:Int),e,h,i_)=qE (⟨z,L⟩,ow,true,((r+1:Nat):Int),e,h.set r (G7 ow e x h i_),i_.set r (inW ow x i_)):=by
 have Tp:=(qG hx).1;obtain⟨w1,JO⟩:=gl (l:=h) (k:=r) (by omega);obtain⟨w2,Tt⟩:=gl (l:=i_) (k:=r) (by omega);have gs: ∀v,qi (i_.set r v) (r:Int)=some v:=fun v=>gi (by rw[xP];simp[hi,Tp]);rw[qE.eq_1,if_pos (by simp[ho];omega),gi hx,ws hr,gi JO,gi Tt];simp only[xe,z7,gs,rB,Int.toNat_natCast];generalize ((r+1:Nat):Int)=q;by_cases c0:0<=x.up
 ·obtain⟨p,hp⟩: ∃p:Nat,x.up=p:=⟨x.up.toNat,by omega⟩;obtain⟨hb,hhb⟩:=gl (l:=h) (k:=p) (by omega);obtain⟨ib,hib⟩:=gl (l:=i_) (k:=p) (by omega);have d1:h.getD x.up.toNat false=hb:=by rw[hp];simp[hhb]
  have d2:i_.getD x.up.toNat false=ib:=by rw[hp];simp[hib]
  have e1:qi h x.up=some hb:=by rw[hp];exact gi hhb
  have e2:qi i_ x.up=some ib:=by rw[hp];exact gi hib
  simp only[G7,inW,Lm,d1,d2,e1,e2,z7];by_cases c1:x.up=ow<;>by_cases c2:x.span.qO<e.span.qO<;>by_cases c3:e.span.qO<e.span.to<;>by_cases c4:x.span.to>e.span.to<;>by_cases c5:xo e.span x.span<;>cases hb<;>cases ib<;>simp[c0,c1,c2,c3,c4,c5,ho]
 simp only[G7,inW,c0,decide_false,Bool.false_and];by_cases c2:x.span.qO<e.span.qO<;>by_cases c3:e.span.qO<e.span.to<;>simp[c0,c2,c3]
end
end Xr
namespace Xr
abbrev FL(L:List TS):=FT (L.map strOf)
abbrev TL(L:List TS):=FZ (L.map strOf)
abbrev UL(L:List TS):=T2 (L.map strOf)
abbrev RowL(L:List TS)(n:Int):=Row (L.map strOf).length (FL L) (TL L) (UL L) n
section
variable (L:List TS) (e:qo) {n:Int}
variable (hR:RowL L n) (hLl:L.length<2^30)
theorem at_L{L:List TS}{r:Nat}{x:TS}(h:L[r]? =some x):FL L r=x.span.qO/\TL L r=x.span.to/\UL L r=x.up:=by
 have:(L.map strOf)[r]? =some (strOf x):=by simp[h]
 exact cN this
theorem HI.next(hR:RowL L n)(he:gx e n){o r:Nat}(hor:o<r){x:TS}(hx:L[r]? =some x){h i_:List Bool}(H:HI L.length (FL L) (TL L) (UL L) e.span.qO e.span.to o r h i_):
  HI L.length (FL L) (TL L) (UL L) e.span.qO e.span.to o (r+1) (h.set r (G7 o e x h i_)) (i_.set r (inW o x i_)):=by
 have Tp:=(qG hx).1;obtain⟨a1,a2,a3⟩:=at_L hx;have hu:=hR.up r (by simpa using Tp);have hnot: ¬ic (UL L) o r:=fun k=>by
  have:=Jc hR (by simpa using(show o<L.length by omega)) k;omega
 have sG:inW o x i_=true->(o:Int)<=x.up:=by
  intro k;simp only[inW,zB,Bool.or_eq_true,decide_eq_true_eq]at k;rcases k.2 with k1|k1
  ·omega
  have:i_[x.up.toNat]? =some true:=by
   cases h1:i_[x.up.toNat]? with
   |none=>simp[h1]at k1
   |some v=>simp[h1]at k1;rw[k1]
  have:=H.is _ this;omega
 refine⟨by simp[H.hl],by simp[H.il], ?_, ?_, ?_⟩
 ·intro y hy;rw[xP]at hy;split at hy
  ·rename_i c;obtain⟨rfl,_⟩:=c;right;simp only[kX]at hy;simp only[G7,zB]at hy;obtain⟨k1,k2,k3⟩:=hy;have k4:=sG k1;refine⟨hor,by omega,by omega, ?_, ?_⟩
   ·intro p hp;have Eh:x.up=p:=by omega
    have hpr:p<r:=by omega
    rw[xP,if_neg (by omega)];rw[Eh]at k2;cases h1:h[p]? with
    |none=>simp[h1]at k2
    |some v=>simp[h1]at k2;rw[k2]
   simp only[Lm,Bool.or_eq_true,zB,decide_eq_true_eq]at k3;unfold xo at k3;unfold Wide;rw[a1,a2];omega
  rcases H.hs y hy with k|⟨k1,k2,k3,k4,k5⟩
  ·exact .inl k
  refine .inr ⟨k1,by omega,k3,fun p hp=>?_,k5⟩;have:=k4 p hp;rw[xP];have sI:=(qG this).1;have Xo:=hR.up y (by simp;have:=(qG hy).1;have:=H.hl;omega);rw[if_neg (by omega)];exact this
 ·intro y hy;rw[xP,if_neg (fun c=>hnot (by rw[c.1];exact hy))];exact H.anc y hy
 intro y hy;rw[xP]at hy;split at hy
 ·rename_i c;omega
 exact H.is y hy
include hR hLl in
theorem hold_L2(he:gx e n)(z:Bool)(o:Nat): ∀(d r:Nat)(h i_:List Bool),r+d=L.length->o<r->HI L.length (FL L) (TL L) (UL L) e.span.qO e.span.to o r h i_->
  ∃h' i',qE (⟨z,L⟩,(o:Int),true,(r:Int),e,h,i_)=some (h',i')/\HI L.length (FL L) (TL L) (UL L) e.span.qO e.span.to o L.length h' i' :=by
 intro d;induction d with
 |zero=>
  intro r h i_ hr _ H;obtain rfl:r=L.length:=by omega
  rw[qE.eq_1,if_neg (by simp)];exact⟨h,i_,rfl,H⟩
 |succ d ih=>
  intro r h i_ hr hor H;obtain⟨x,hx⟩:=gl (l:=L) (k:=r) (by omega);have hu:=hR.up r (by simp;omega);obtain⟨_,_,ha⟩:=at_L hx;rw[C0 L e (o:Int) z (by omega) r x hx (by omega) (by omega) h i_ H.hl H.il];exact ih (r+1) _ _ (by omega) (by omega) (HI.next L e hR he hor hx H)
include hR hLl in
theorem hold_ok(he:gx e n)(z deep:Bool)(ow:Int)(ho:ow= -1\/ ∃o:Nat,ow=o/\o<L.length/\FL L o<=e.span.qO/\e.span.to<=TL L o):
  ∃h:List Bool,di ⟨z,L⟩ ow e deep=some ⟨false,h⟩/\h.length=L.length/\N8 (L.map strOf).length (FL L) (TL L) (UL L) (fun y=>h[y]? =some true) e.span.qO e.span.to/\(∀ o:Nat,ow=o->h[o]? =some true):=by
 have eN:=he.ab;have h0: ∀(k:Nat),(List.replicate L.length false)[k]? ≠some true:=by
  intro k;rw[List.getElem?_replicate];split<;>simp
 unfold di;rw[if_pos (by simp),if_pos (qC (by simp;omega) (by omega)),if_pos (by simp),if_pos (qC (by simp;omega) (by omega))];simp only[Int.toNat_natCast];rcases ho with rfl|⟨o,rfl,Ef,DM⟩
 ·rw[ye.eq_1,if_neg (by simp)];simp only[xe,z7];rw[qE.eq_1,if_neg (by simp)];refine⟨_,rfl,by simp,⟨fun r hr hh=>absurd hh (h0 r),fun r hr hh=>absurd hh (h0 r),fun r hr q hq hu hh=>absurd hh (h0 q)⟩,fun o ho=>by omega⟩
 obtain⟨h1,g1,g2,g3⟩:=hold_L0 L e deep (o:Int) hR z (List.replicate L.length false) o (List.replicate L.length false) Ef (by simp);rw[g1];simp only[xe,z7];have H:HI L.length (FL L) (TL L) (UL L) e.span.qO e.span.to o (o+1) h1 (List.replicate L.length false):=by
  refine⟨g2,by simp,fun y hy=>?_,fun y hy=>(g3 y).2 (.inr hy),fun y hy=>absurd hy (h0 y)⟩;rcases(g3 y).1 hy with k|k
  ·exact absurd k (h0 y)
  exact .inl k
 have hol2:o<(L.map strOf).length:=by simpa using Ef
 cases deep with
 |false=>
  rw[qE.eq_1,if_neg (by simp)];have:=HI.hold hR hol2 DM eN (by simpa using H);exact⟨h1,rfl,g2,this,fun o' ho' =>by
   have e1:o=o' :=by omega
   rw[<- e1]
   exact H.anc o .self⟩
 |true=>
  obtain⟨h',i',k1,k2⟩:=hold_L2 L e hR hLl he z o (L.length-(o+1)) (o+1) h1 _ (by omega) (by omega) H;rw[ws (by omega),k1];have:=HI.hold hR hol2 DM eN (by simpa using k2);exact⟨h',rfl,k2.hl,this,fun o' ho' =>by
   have e1:o=o' :=by omega
   rw[<- e1]
   exact k2.anc o .self⟩
theorem last_L0(z:Bool)(h:List Bool)(hl:h.length=L.length)(hLl:L.length<2^30): ∀(d r:Nat)(last:Int),r+d=L.length->((last= -1/\ ∀y,y<r->h[y]? ≠some true)\/ ∃q:Nat,last=q/\h[q]? =some true/\ ∀y,y<r->h[y]? =some true->y<=q)->
  ∃EJ:Int,wN (⟨z,L⟩,⟨false,h⟩,last,(r:Int),e)=some EJ/\((EJ= -1/\ ∀y:Nat,h[y]? ≠some true)\/ ∃q:Nat,EJ=q/\h[q]? =some true/\ ∀y:Nat,h[y]? =some true->y<=q):=by
 intro d;induction d with
 |zero=>
  intro r last hr Tl;obtain rfl:r=L.length:=by omega
  rw[wN.eq_1,if_neg (by simp)];have lt: ∀y:Nat,h[y]? =some true->y<L.length:=fun y hy=>by have:=(qG hy).1;omega
  refine⟨last,rfl, ?_⟩;rcases Tl with ⟨k1,k2⟩|⟨q,k1,k2,k3⟩
  ·exact .inl ⟨k1,fun y hy=>k2 y (lt y hy) hy⟩
  exact .inr ⟨q,k1,k2,fun y hy=>k3 y (lt y hy) hy⟩
 |succ d ih=>
  intro r last hr Tl;obtain⟨w,hw⟩:=gl (l:=h) (k:=r) (by omega);rw[wN.eq_1,if_pos (by simp;omega),gi hw,ws (by omega)];simp only[xe,z7];cases w with
  |true=>
   rw[if_pos rfl];exact ih (r+1) (r:Int) (by omega) (.inr ⟨r,rfl,hw,fun y hy _=>by omega⟩)
  |false=>
   rw[if_neg (by simp)];refine ih (r+1) last (by omega) ?_;have ne: ∀y:Nat,h[y]? =some true->y≠r:=fun y hy e=>by subst e;rw[hw]at hy;cases hy
   rcases Tl with ⟨k1,k2⟩|⟨q,k1,k2,k3⟩
   ·exact .inl ⟨k1,fun y hy h1=>k2 y (by have:=ne y h1;omega) h1⟩
   exact .inr ⟨q,k1,k2,fun y hy h1=>k3 y (by have:=ne y h1;omega) h1⟩
def dE(e:qo)(last:Int)(r:Nat)(x:TS)(h:List Bool)(out:List Int):Int:=
 if h.getD r false=true then 0
 else if 0<=x.up/\out.getD x.up.toNat 0=1 then 1
 else if x.span.qO<e.span.to/\e.span.qO<x.span.to then 1
 else if 0<=x.up/\h.getD x.up.toNat false=false then out.getD x.up.toNat 0
 else if x.span.to<e.span.qO\/x.span.to=e.span.qO/\(x.span.qO<x.span.to\/(r:Int)<last\/last<0)then 2 else 3
theorem Db(z:Bool)(h:List Bool)(last:Int)(r:Nat)(x:TS)(hx:L[r]? =some x)(hr:r<2^60)(hu:x.up<(r:Nat))(out:List Int)(hl:h.length=L.length)(ho:out.length=L.length):
  zK (⟨z,L⟩,⟨false,h⟩,last,(r:Int),e,out)=zK (⟨z,L⟩,⟨false,h⟩,last,((r+1:Nat):Int),e,out.set r (dE e last r x h out)):=by
 have Tp:=(qG hx).1;obtain⟨hw,hhw⟩:=gl (l:=h) (k:=r) (by omega);obtain⟨ow,how⟩:=gl (l:=out) (k:=r) (by omega);have d0:h.getD r false=hw:=by simp[hhw]
 rw[zK.eq_1,if_pos (by simp;omega),gi hx,ws hr,gi hhw,gi how];simp only[xe,z7,Int.toNat_natCast,dE,d0];generalize ((r+1:Nat):Int)=q;cases hw with
 |true=>simp
 |false=>
  by_cases c0:0<=x.up
  ·obtain⟨p,hp⟩: ∃p:Nat,x.up=p:=⟨x.up.toNat,by omega⟩;obtain⟨hb,hhb⟩:=gl (l:=h) (k:=p) (by omega);obtain⟨ob,hob⟩:=gl (l:=out) (k:=p) (by omega);have d1:h.getD x.up.toNat false=hb:=by rw[hp];simp[hhb]
   have d2:out.getD x.up.toNat 0=ob:=by rw[hp];simp[hob]
   have e1:qi h x.up=some hb:=by rw[hp];exact gi hhb
   have e2:qi out x.up=some ob:=by rw[hp];exact gi hob
   simp only[d1,d2,e1,e2,z7];by_cases c1:ob=1<;>by_cases c2:x.span.qO<e.span.to<;>by_cases c3:e.span.qO<x.span.to<;>by_cases c4:x.span.to<e.span.qO<;>by_cases c5:x.span.to=e.span.qO<;>by_cases c6:x.span.qO<x.span.to<;>by_cases c7:(r:Int)<last<;>by_cases c8:last<0<;>cases hb<;>simp[c0,c1,c2,c3,c4,c5,c6,c7,c8]<;>split<;>rfl
  have: ¬(0<=x.up/\out.getD x.up.toNat 0=1):=fun k=>c0 k.1;by_cases c2:x.span.qO<e.span.to<;>by_cases c3:e.span.qO<x.span.to<;>by_cases c4:x.span.to<e.span.qO<;>by_cases c5:x.span.to=e.span.qO<;>by_cases c6:x.span.qO<x.span.to<;>by_cases c7:(r:Int)<last<;>by_cases c8:last<0<;>simp[c0,c2,c3,c4,c5,c6,c7,c8]<;>split<;>rfl
end
end Xr
namespace Xr
section
variable (L:List TS) (e:qo) {n:Int}
variable (hR:RowL L n) (hLl:L.length<2^30)
theorem HZ(l:List Int)(k:Nat)(v:Int)(j:Nat):(l.set k v).getD j 0=if k=j/\j<l.length then v else l.getD j 0:=by
 rw[List.getD_eq_getElem?_getD,xP];split<;>simp[*]
include hR in
theorem OI(z:Bool)(h:List Bool)(last:Int)(hl:h.length=L.length)(hLl:L.length<2^30): ∀(d r:Nat)(out:List Int),r+d=L.length->out.length=L.length->
  (∀ y x,y<r->L[y]? =some x->out.getD y 0=dE e last y x h out)->
  ∃out' :List Int,zK (⟨z,L⟩,⟨false,h⟩,last,(r:Int),e,out)=some out' /\out'.length=L.length/\ ∀y x,L[y]? =some x->out'.getD y 0=dE e last y x h out' :=by
 intro d;induction d with
 |zero=>
  intro r out hr ho H;obtain rfl:r=L.length:=by omega
  rw[zK.eq_1,if_neg (by simp)];exact⟨out,rfl,ho,fun y x hx=>H y x (qG hx).1 hx⟩
 |succ d ih=>
  intro r out hr ho H;obtain⟨x,hx⟩:=gl (l:=L) (k:=r) (by omega);have Le: ∀(y:Nat)(x:TS),L[y]? =some x->x.up<y:=by
   intro y x hx;have hy:=(qG hx).1;have h1:=hR.up y (by simpa using hy);obtain⟨_,_,h2⟩:=at_L hx;omega
  have hu:=Le r x hx;rw[Db L e z h last r x hx (by omega) hu out hl ho];have ka: ∀(y:Nat)(x:TS),y<=r->L[y]? =some x-> ∀v,dE e last y x h (out.set r v)=dE e last y x h out:=by
   intro y x hy hx v;have h1:=Le y x hx;by_cases c:0<=x.up
   ·have g:(out.set r v).getD x.up.toNat 0=out.getD x.up.toNat 0:=by rw[HZ,if_neg (by omega)]
    unfold dE;rw[g]
   unfold dE;simp[c]
  refine ih (r+1) _ (by omega) (by simp[ho]) fun y x' hy oi=>?_;rw[HZ,ka y x' (by omega) oi];by_cases c:r=y
  ·subst c;rw[if_pos ⟨rfl,by omega⟩];rw[hx]at oi;cases oi;rfl
  rw[if_neg (by omega)];exact H y x' (by omega) oi
include hR in
theorem OJ(z:Bool)(h:List Bool)(hl:h.length=L.length)(hLl:L.length<2^30): ∃(sd:List Int)(last:Int),sm ⟨z,L⟩ ⟨false,h⟩ e=some ⟨false,sd⟩/\sd.length=L.length/\
  Side (L.map strOf).length (FL L) (TL L) (UL L) (fun y=>h[y]? =some true) e.span.qO e.span.to last (fun r=>sd.getD r 0):=by
 obtain⟨last,h1,h2⟩:=last_L0 L e z h hl hLl L.length 0 (-1) (by omega) (.inl ⟨rfl,fun y hy=>by omega⟩);unfold sm;rw[show ((0:Nat):Int)=0 from rfl]at h1;rw[h1];simp only[xe,z7];rw[if_pos (by simp),if_pos (qC (by simp;omega) (by omega))];obtain⟨sd,g1,g2,g3⟩:=OI L e hR z h last hl hLl L.length 0 (List.replicate L.length 0) (by omega) (by simp) fun y x hy=>by omega
 simp only[Int.toNat_natCast];rw[show ((0:Nat):Int)=0 from rfl]at g1;rw[g1];refine⟨sd,last,rfl,g2, ?_⟩;have hd: ∀y:Nat,y<L.length->(h.getD y false=true↔h[y]? =some true):=by
  intro y hy;obtain⟨v,hv⟩:=gl (l:=h) (k:=y) (by omega);simp[hv]
 have qk: ∀r,r<(L.map strOf).length-> ∃x,L[r]? =some x/\FL L r=x.span.qO/\TL L r=x.span.to/\UL L r=x.up/\sd.getD r 0=dE e last r x h sd:=by
  intro r hr;obtain⟨x,hx⟩:=gl (l:=L) (k:=r) (by simpa using hr);obtain⟨a1,a2,a3⟩:=at_L hx;exact⟨x,hx,a1,a2,a3,g3 r x hx⟩
 have JJ:(L.map strOf).length=L.length:=by simp
 have upl: ∀(r:Nat)(p:Nat),r<(L.map strOf).length->UL L r=p->p<L.length:=by
  intro r p hr hp;have:=hR.up r hr;omega
 constructor
 ·intro r hr hh;obtain⟨x,hx,a1,a2,a3,a4⟩:=qk r hr;rw[a4];unfold dE;rw[if_pos ((hd r (by omega)).2 hh)]
 ·intro r hr hh p hp hs;obtain⟨x,hx,a1,a2,a3,a4⟩:=qk r hr;rw[a4];unfold dE;rw[if_neg (fun k=>hh ((hd r (by omega)).1 k)),if_pos ⟨by omega,by rw[show x.up.toNat=p by omega];exact hs⟩]
 ·intro r hr hh hs hf ht;obtain⟨x,hx,a1,a2,a3,a4⟩:=qk r hr;rw[a4];unfold dE;rw[if_neg (fun k=>hh ((hd r (by omega)).1 k)),if_neg (fun k=>hs x.up.toNat (by omega) k.2),if_pos ⟨by omega,by omega⟩]
 ·intro r hr hh hs hk p hp hnp;obtain⟨x,hx,a1,a2,a3,a4⟩:=qk r hr;have sI:=upl r p hr hp;have Eh:x.up.toNat=p:=by omega
  have Ev:h.getD p false=false:=by
   cases hb:h.getD p false with
   |false=>rfl
   |true=>exact absurd ((hd p sI).1 hb) hnp
  rw[a4];unfold dE;rw[if_neg (fun k=>hh ((hd r (by omega)).1 k)),if_neg (fun k=>hs x.up.toNat (by omega) k.2),if_neg (fun k=>hk ⟨by omega,by omega⟩),Eh,if_pos ⟨by omega,Ev⟩]
 ·intro r hr hh hs hk hz;obtain⟨x,hx,a1,a2,a3,a4⟩:=qk r hr;rw[a4];unfold dE;rw[if_neg (fun k=>hh ((hd r (by omega)).1 k)),if_neg (fun k=>(hs x.up.toNat (by omega)).1 k.2),if_neg (fun k=>hk ⟨by omega,by omega⟩),if_neg,if_pos (by omega)];rintro⟨k1,k2⟩;have h3:=(hs x.up.toNat (by omega)).2;have sI:=upl r x.up.toNat hr (by omega);rw[(hd _ sI).2 h3]at k2;cases k2
 ·intro r hr hh hs hk hz;obtain⟨x,hx,a1,a2,a3,a4⟩:=qk r hr;rw[a4];unfold dE;rw[if_neg (fun k=>hh ((hd r (by omega)).1 k)),if_neg (fun k=>(hs x.up.toNat (by omega)).1 k.2),if_neg (fun k=>hk ⟨by omega,by omega⟩),if_neg,if_neg (by omega)];rintro⟨k1,k2⟩;have h3:=(hs x.up.toNat (by omega)).2;have sI:=upl r x.up.toNat hr (by omega);rw[(hd _ sI).2 h3]at k2;cases k2
 ·intro r hr hh;rcases h2 with ⟨k1,k2⟩|⟨q,k1,k2,k3⟩
  ·exact absurd hh (k2 r)
  have:=k3 r hh;omega
 ·intro Tl;rcases h2 with ⟨k1,k2⟩|⟨q,k1,k2,k3⟩
  ·omega
  exact⟨q,k1,by have:=(qG k2).1;omega,k2⟩
 rcases h2 with ⟨k1,k2⟩|⟨q,k1,k2,k3⟩<;>omega
end
end Xr
namespace Xr
structure fq (is:List qw) (fl:Sl (Sl Int)):Prop where
 len:fl.l.length=is.length
 nn:is≠[]->fl.nil=false
 each: ∀(a:Nat)(i:qw)(f:Sl Int),is[a]? =some i->fl.l[a]? =some f->f.l.length=i.stops.l.length/\(i.stops.l≠[]->f.nil=false)/\ ∀v∈f.l,0<=v/\v<=3
section
variable (e:qo) (n:Int) (he:gx e n) (mark:Bool) (sd:List Int) (s:qc) (Ww:qc) (cur:Int) (flags:Sl (Sl Int)) (r6:List qw) (i1 i2:Int)
abbrev lZ(sd:List Int):Nat->Int:=fun r=>sd.getD r 0
abbrev NS(e:qo)(sd:List Int):=tD e.span.qO e.span.to e.text.length (lZ sd)
theorem tmod2(v:Int)(h:0<=v/\v<=3)(c:v.tmod 2=0):v<=2:=by
 rcases(show v=0\/v=1\/v=2\/v=3 by omega)with rfl|rfl|rfl|rfl<;>simp_all (config:={ decide:=true })
include he in
theorem OG(a b0:Nat)(al:Bool)(i:qw)(hi:s.insts.l[a]? =some i)(hb:b0+1+i.stops.l.length<=sd.length)(hsd:sd.length<=2^30)(hL:i.stops.l.length<=2^12)
  (hrng: ∀x∈i.stops.l,0<=x.span.qO/\x.span.qO<=x.span.to/\x.span.to<=n)
  (Eg: ∀(k:Nat)(x:qu),i.stops.l[k]? =some x-> -1<=x.up/\ ∀p:Nat,x.up=p->p<k/\(lZ sd (b0+1+k)≠1->lZ sd (b0+1+p)≠1))
  (f0:Sl Int) (hf0:f0.l.length=i.stops.l.length) (hfn:i.stops.l≠[]->f0.nil=false) (hfb: ∀v∈f0.l,0<=v/\v<=3):
  ∀(r:List qu)(k:Nat)(fl:Sl (Sl Int))(z6 f:List Int)(out:List qu),i.stops.l.drop k=r->k<=i.stops.l.length->fl.l[a]? =some f0->fl.nil=false->z6.length=i.stops.l.length->
  (∀ j,j<k->lZ sd (b0+1+j)≠1->z6[j]? =some ((om (lZ sd) (b0+1) j:Nat):Int))->out.length=om (lZ sd) (b0+1) k->out.length<=k->f.length<=k->(∀ v∈f,0<=v/\v<=3)->
  ∃(pl' f' :List Int),xZ (mark,⟨false,sd⟩,((b0+1+k:Nat):Int),(a:Int),al,(k:Int),fl,s,e,Ww,cur,flags,r6,i1,i2,z6,f,out)=
   some (((b0+1+i.stops.l.length:Nat):Int),fl,pl',f',out++NS e sd (b0+1) k r)/\f'.length=f.length+(NS e sd (b0+1) k r).length/\ ∀v∈f',0<=v/\v<=3:=by
 intro r;induction r with
 |nil=>
  intro k fl z6 f out h mF _ _ _ _ _ sH _ hfv;have h1:=zc h;rw[xZ.eq_1,gi hi];simp only[xe,z7];rw[if_neg (by simp;omega)];obtain rfl:k=i.stops.l.length:=by omega
  exact⟨z6,f,by simp[NS,tD],by simp[NS,tD],hfv⟩
 |cons x r ih=>
  intro k fl z6 f out h mF Z7 E1 sI hplc Za sH hfk hfv;obtain⟨h1,h2,h3⟩:=zp h;have hx:=hrng x (qX h1);have hp:=Eg k x h1;obtain⟨sv,hsv⟩:=gl (l:=sd) (k:=b0+1+k) (by omega);have Em:lZ sd (b0+1+k)=sv:=by simp[lZ,hsv]
  obtain⟨fv,hfv1⟩:=gl (l:=f0.l) (k:=k) (by omega);have hfv0:=hfb fv (qX hfv1);obtain⟨pv,hpv⟩:=gl (l:=z6) (k:=k) (by omega);have jv:i.stops.l≠[]:=fun c=>by rw[c]at h3;simp at h3
  have hwr:IntKind.i64.wrap (((b0+1+k:Nat):Int)+1)=((b0+1+(k+1):Nat):Int):=ws (by omega);rw[xZ.eq_1,gi hi];simp only[xe,z7];rw[if_pos (by simp;omega),gi h1,gi hsv,hwr,ws (k:=k) (by omega)];simp only[z7];by_cases c1:sv=1
  ·rw[if_pos (by simpa using c1)];have e1:NS e sd (b0+1) k (x::r)=NS e sd (b0+1) (k+1) r:=by
    show tD _ _ _ _ _ _ (x::r)=_;rw[tD,if_pos (by rw[Em];exact c1)]
   rw[e1];refine ih (k+1) fl z6 f out h2 (by omega) Z7 E1 sI (fun j hj hs=>?_) ?_ (by omega) (by omega) hfv
   ·by_cases c:j=k
    ·subst c;exact absurd (Em.trans c1) hs
    exact hplc j (by omega) hs
   rw[om,if_pos (by rw[Em];exact c1)];simpa using Za
  rw[if_neg (by simpa using c1),Gx e n he x.span hx.1 hx.2.1 hx.2.2 sv];simp only[z7];have e1:NS e sd (b0+1) k (x::r)=Cp e.span.qO e.span.to e.text.length (lZ sd) (b0+1) k x::NS e sd (b0+1) (k+1) r:=by
   show tD _ _ _ _ _ _ (x::r)=_;rw[tD,if_neg (by rw[Em];exact c1)]
  have hnst: ∀up:Int,(if 0<=x.up then((om (lZ sd) (b0+1) x.up.toNat:Nat):Int)else x.up)=up->qu.mk (Mx e.span.qO e.span.to e.text.length sv x.span) x.n up x.first x.qJ x.qP x.opts=Cp e.span.qO e.span.to e.text.length (lZ sd) (b0+1) k x:=by
   intro up hu;unfold Cp;rw[hu,Em]
  have hplk:om (lZ sd) (b0+1) (k+1)=om (lZ sd) (b0+1) k+1:=by rw[om,if_neg (by rw[Em];exact c1)]
  have nO: ∀j,j<k+1->lZ sd (b0+1+j)≠1->(z6.set k (out.length:Int))[j]? =some ((om (lZ sd) (b0+1) j:Nat):Int):=by
   intro j hj hs;rw[xP];by_cases c:k=j
   ·subst c;rw[if_pos ⟨rfl,by omega⟩,Za]
   rw[if_neg (by omega)];exact hplc j (by omega) hs
  have ZH: ∀(up fv' :Int),(if 0<=x.up then((om (lZ sd) (b0+1) x.up.toNat:Nat):Int)else x.up)=up->0<=fv' /\fv' <=3->
    ∃(pl' f' :List Int),xZ (mark,⟨false,sd⟩,((b0+1+(k+1):Nat):Int),(a:Int),al,((k+1:Nat):Int),fl,s,e,Ww,cur,flags,r6,i1,i2,z6.set k (out.length:Int),f++[fv'],out++[qu.mk (Mx e.span.qO e.span.to e.text.length sv x.span) x.n up x.first x.qJ x.qP x.opts])=
     some (((b0+1+i.stops.l.length:Nat):Int),fl,pl',f',out++NS e sd (b0+1) k (x::r))/\f'.length=f.length+(NS e sd (b0+1) k (x::r)).length/\ ∀v∈f',0<=v/\v<=3:=by
   intro up fv' hu hfv';rw[hnst up hu,e1];obtain⟨pl',f',g1,g2,g3⟩:=ih (k+1) fl (z6.set k (out.length:Int)) (f++[fv']) (out++[Cp e.span.qO e.span.to e.text.length (lZ sd) (b0+1) k x]) h2 (by omega) Z7 E1 (by simp[sI]) nO (by rw[hplk];simp[Za]) (by simp;omega) (by simp;omega) (by
    intro v hv
    rcases List.mem_append.1 hv with hv|hv
    ·exact hfv v hv
    simp only[List.mem_singleton]at hv
    subst hv
    exact hfv')
   refine⟨pl',f',by rw[g1];simp,by simp only[List.length_append,List.length_cons,List.length_nil]at g2 |-; omega,g3⟩
  have hflE:(⟨false,fl.l⟩:Sl (Sl Int))=fl:=by rw[<- E1]
  have hz:f0.nil=false:=hfn jv;have w3:(mark&&((sv==0)&&(fv.tmod 2==0)))=true->0<=IntKind.i64.wrap (fv+1)/\IntKind.i64.wrap (fv+1)<=3:=by
   intro c;simp only[zB,beq_iff_eq]at c;have:=tmod2 fv hfv0 c.2.2;rw[qI (by omega) (by omega)];omega
  by_cases c2:0<=x.up
  ·obtain⟨p,hpp⟩: ∃p:Nat,x.up=p:=⟨x.up.toNat,by omega⟩;obtain⟨q1,q2⟩:=hp.2 p hpp;have hpp2:=hplc p q1 (q2 (by rw[Em];exact c1));have Xo:(if 0<=x.up then((om (lZ sd) (b0+1) x.up.toNat:Nat):Int)else x.up)=((om (lZ sd) (b0+1) p:Nat):Int):=by rw[if_pos c2,show x.up.toNat=p by omega]
   rw[if_pos (by simpa using c2),show x.up=((p:Nat):Int)from hpp,gi hpp2,gi hpv];simp only[z7];rw[if_pos qC,E1,if_neg (by simp),gi Z7];simp only[z7];rw[hz,if_neg (by simp),gi hfv1];simp only[z7,Int.toNat_natCast];rw[if_pos qC,if_pos qC,hflE];split
   ·rename_i c3;exact ZH _ _ Xo (w3 c3)
   exact ZH _ _ Xo hfv0
  have Xo:(if 0<=x.up then((om (lZ sd) (b0+1) x.up.toNat:Nat):Int)else x.up)=x.up:=by rw[if_neg c2]
  rw[if_neg (by simpa using c2),gi hpv];simp only[z7];rw[if_pos qC,E1,if_neg (by simp),gi Z7];simp only[z7];rw[hz,if_neg (by simp),gi hfv1];simp only[z7,Int.toNat_natCast];rw[if_pos qC,if_pos qC,hflE];split
  ·rename_i c3;exact ZH _ _ Xo (w3 c3)
  exact ZH _ _ Xo hfv0
end
end Xr
namespace Xr
abbrev NI(e:qo)(sd:List Int):=bZ e.span.qO e.span.to e.text.length (lZ sd)
def core(x:qu):Int×Bool×Bool×zf×Sl qa:=(x.n,x.first,x.qJ,x.qP,x.opts)
theorem Zx(i:qw)(is:List qw)(a:Nat):zi (i::is) (a+1)=1+i.stops.l.length+zi is a:=by simp[zi]
theorem Pm: ∀(is:List qw)(b a:Nat)(i:qw),is[a]? =some i-> ∀r,r<1+i.stops.l.length->(bp b is)[zi is a+r]? =(sX (b+zi is a) i)[r]? :=by
 intro is;induction is with
 |nil=>intro b a i h;simp at h
 |cons i0 is ih=>
  intro b a i h r hr;have hL:=aP b i0;cases a with
  |zero=>
   simp only[List.getElem?_cons_zero,kX]at h;subst h;have:zi (i0::is) 0=0:=by simp[zi]
   rw[this,bp,Nat.zero_add,List.getElem?_append_left (by omega),Nat.add_zero]
  |succ a=>
   simp only[List.getElem?_cons_succ]at h;rw[Zx,bp,List.getElem?_append_right (by omega),hL,show 1+i0.stops.l.length+zi is a+r-(1+i0.stops.l.length)=zi is a+r by omega,ih (b+1+i0.stops.l.length) a i h r hr];rw[show b+1+i0.stops.l.length+zi is a=b+(1+i0.stops.l.length+zi is a) by omega]
section
variable (e:qo) (n:Int) (he:gx e n) (mark:Bool) (sd:List Int) (s:qc) (Ww:qc) (cur:Int)
include he in
theorem OE(hs:jX s)(hm:cx s.insts.l n)(hsd:sd.length<=2^30)
  (Eg: ∀(b0:Nat)(i:qw),i∈s.insts.l->(∀ r x,(sX b0 i)[r]? =some x->(bp 0 s.insts.l)[b0+r]? =some x)-> ∀(k:Nat)(x:qu),i.stops.l[k]? =some x-> -1<=x.up/\ ∀p:Nat,x.up=p->p<k/\(lZ sd (b0+1+k)≠1->lZ sd (b0+1+p)≠1))
  (fl:Sl (Sl Int)) (Z7:fq s.insts.l fl):
  ∀(r:List qw)(a b0:Nat)(flags:Sl (Sl Int))(out:List qw),s.insts.l.drop a=r->(∀ q x,(bp b0 r)[q]? =some x->(bp 0 s.insts.l)[b0+q]? =some x)->b0+(bp b0 r).length=sd.length->fq out flags->out.length<=a->
  ∃Yi,wM (mark,⟨false,sd⟩,(b0:Int),(a:Int),fl,s,e,Ww,cur,flags,out)=some (fl,Yi,out++NI e sd b0 r)/\fq (out++NI e sd b0 r) Yi:=by
 intro r;have nh:=hs.1;induction r with
 |nil=>
  intro a b0 flags out h _ _ hF _;have:=zc h;rw[wM.eq_1,if_neg (by simp;omega)];exact⟨flags,by simp[bZ],by simpa[bZ]using hF⟩
 |cons i r ih=>
  intro a b0 flags out h cE hlen hF ho;obtain⟨h1,h2,h3⟩:=zp h;have tR:=qX h1;have hi:=hs.2 i tR;have hmi:=hm.may a i h1;have hrg:=hmi.QP;have hL:=aP b0 i;have jv:s.insts.l≠[]:=fun c=>by rw[c]at h3;simp at h3
  have hr1: ∀q x,(sX b0 i)[q]? =some x->(bp 0 s.insts.l)[b0+q]? =some x:=by
   intro q x hx;have hq:=(qG hx).1;exact cE q x (by rw[bp,List.getElem?_append_left (by omega)];exact hx)
  have hr2: ∀q x,(bp (b0+1+i.stops.l.length) r)[q]? =some x->(bp 0 s.insts.l)[b0+1+i.stops.l.length+q]? =some x:=by
   intro q x hx;have:=cE (1+i.stops.l.length+q) x (by rw[bp,List.getElem?_append_right (by omega),hL,show 1+i.stops.l.length+q-(1+i.stops.l.length)=q by omega];exact hx);rwa[show b0+(1+i.stops.l.length+q)=b0+1+i.stops.l.length+q by omega]at this
  have Ea:b0+1+i.stops.l.length+(bp (b0+1+i.stops.l.length) r).length=sd.length:=by
   rw[bp,List.length_append,hL]at hlen;omega
  obtain⟨sv,hsv⟩:=gl (l:=sd) (k:=b0) (by omega);have Em:lZ sd b0=sv:=by simp[lZ,hsv]
  obtain⟨f0,hf0⟩:=gl (l:=fl.l) (k:=a) (by rw[Z7.len];omega);obtain⟨k1,k2,k3⟩:=Z7.each a i f0 h1 hf0;rw[wM.eq_1,if_pos (by simp;omega),gi h1];simp only[xe,z7];rw[gi hsv];simp only[z7];rw[Gx e n he i.span hrg.1 hrg.2.1 hrg.2.2 sv];simp only[z7];rw[if_pos (by simp),if_pos (qC (by simp;omega) (by omega)),ws (k:=b0) (by omega),ws (k:=a) (by omega)];have sG: ∀x∈i.stops.l,0<=x.span.qO/\x.span.qO<=x.span.to/\x.span.to<=n:=by
   intro x hx;obtain⟨k,hk⟩:=jz hx;have:=hmi.inside k x hk;have:=hmi.le k x hk;omega
  obtain⟨pl',f',g1,g2,g3⟩:=OG e n he mark sd s Ww cur flags out (Mx e.span.qO e.span.to e.text.length sv i.span).qO (Mx e.span.qO e.span.to e.text.length sv i.span).to a b0 (sv != 1) i h1 (by omega) hsd hi sG (Eg b0 i tR hr1) f0 k1 k2 k3
   i.stops.l 0 fl (List.replicate i.stops.l.length 0) [] [] rfl (by omega) hf0 (Z7.nn jv) (by simp) (fun j hj=>by omega) (by simp[om]) (by simp) (by simp) (by simp)
  simp only[Int.toNat_natCast];rw[show ((b0+1+0:Nat):Int)=((b0+1:Nat):Int)from rfl,show((0:Nat):Int)=0 from rfl]at g1;rw[g1];simp only[z7];by_cases c1:sv=1
  ·rw[if_neg (by simpa using c1)];have e1:NI e sd b0 (i::r)=NI e sd (b0+1+i.stops.l.length) r:=by
    show bZ _ _ _ _ _ (i::r)=_;rw[bZ,if_pos (by rw[Em];exact c1)]
   rw[e1];exact ih (a+1) (b0+1+i.stops.l.length) flags out h2 hr2 Ea hF (by omega)
  rw[if_pos (by simpa using c1),if_pos qC,if_pos (qC (by have:=hF.len;omega) (by omega))];have e1:NI e sd b0 (i::r)=Zh e.span.qO e.span.to e.text.length (lZ sd) b0 i::NI e sd (b0+1+i.stops.l.length) r:=by
   show bZ _ _ _ _ _ (i::r)=_;rw[bZ,if_neg (by rw[Em];exact c1)]
  have e2:qw.mk (Mx e.span.qO e.span.to e.text.length sv i.span) (⟨([]++NS e sd (b0+1) 0 i.stops.l).isEmpty,[]++NS e sd (b0+1) 0 i.stops.l⟩:Sl qu)=Zh e.span.qO e.span.to e.text.length (lZ sd) b0 i:=by
   unfold Zh;rw[Em,List.nil_append]
  rw[e2,e1];obtain⟨Yi,q1,q2⟩:=ih (a+1) (b0+1+i.stops.l.length) ⟨false,flags.l++[⟨f'.isEmpty,f'⟩]⟩ (out++[Zh e.span.qO e.span.to e.text.length (lZ sd) b0 i]) h2 hr2 Ea (by
   refine⟨by simp[hF.len],fun _=>rfl, ?_⟩
   intro a' i' f'' vq SR
   by_cases c:a' <out.length
   ·rw[List.getElem?_append_left c]at vq
    rw[List.getElem?_append_left (by rw[hF.len];exact c)]at SR
    exact hF.each a' i' f'' vq SR
   rw[List.getElem?_append_right (by omega)]at vq
   rw[List.getElem?_append_right (by have:=hF.len;simp only at *; omega)]at SR
   have hz:a' -out.length=0:=by
    have:=(qG vq).1
    simp at this
    omega
   rw[hz]at vq
   rw[hF.len,hz]at SR
   simp only[List.getElem?_cons_zero,kX]at vq SR
   subst vq SR
   have M4:f'.length=(NS e sd (b0+1) 0 i.stops.l).length:=by simpa using g2
   refine⟨M4,fun c=>?_,g3⟩
   have:(NS e sd (b0+1) 0 i.stops.l)≠[]:=c
   cases Yu:f' with
   |nil=>
    rw[Yu]at M4
    exact absurd (List.length_eq_zero_iff.1 M4.symm) this
   |cons _ _=>rfl) (by simp;omega)
  refine⟨Yi,by rw[q1];simp,by simpa using q2⟩
theorem Cl(a b c:Int)(sF:Nat->Int): ∀(is:List qw)(b0:Nat),(∀ k i,is[k]? =some i->sF (b0+zi is k)≠1)->(bZ a b c sF b0 is).length=is.length:=by
 intro is;induction is with
 |nil=>intro b0 _;rfl
 |cons i is ih=>
  intro b0 h;have h0:=h 0 i rfl;rw[show zi (i::is) 0=0 by simp[zi],Nat.add_zero]at h0;rw[bZ,if_neg h0,List.length_cons,List.length_cons,ih (b0+1+i.stops.l.length) (fun k j hj=>by
   have:=h (k+1) j (by simpa using hj)
   rw[Zx]at this
   rwa[show b0+1+i.stops.l.length+zi is k=b0+(1+i.stops.l.length+zi is k) by omega])]
theorem Mu(a b c:Int)(sF:Nat->Int){l:List oF}(is:List qw)(b0:Nat)(hl: ∀(r:Nat)(x:oF),(bp b0 is)[r]? =some x->l[b0+r]? =some x): ∀y∈bZ a b c sF b0 is,∃ i∈is,y.stops.l.length<=i.stops.l.length/\ ∀z∈y.stops.l,∃ x∈i.stops.l,core z=core x:=by
 intro y hy;obtain⟨j,hj⟩:=jz hy;obtain⟨k,i,b1,h1,_,_,rfl,_⟩:=Zi is b0 hl j y hj;refine⟨i,qX h1,Cn _ _ _,fun z hz=>?_⟩;obtain⟨x,hx,k,rfl⟩:=Co _ _ _ z hz;exact⟨x,hx,rfl⟩
theorem Ih(a b c:Int)(sF:Nat->Int): ∀(is:List qw)(b0:Nat),(bZ a b c sF b0 is).length<=is.length:=by
 intro is;induction is with
 |nil=>intro b0;simp[bZ]
 |cons i is ih=>
  intro b0;have:=ih (b0+1+i.stops.l.length);rw[bZ];split<;>simp<;>omega
structure VZ (e:qo) (n:Int) (s:qc) (a:Int) (s' :qc) (flags:Sl (Sl Int)):Prop where
 cur:s'.cur=s.cur
 may:cx s'.insts.l (n+(e.text.length-(e.span.to-e.span.qO)))
 fl:fq s'.insts.l flags
 len:s'.insts.l.length<=s.insts.l.length
 core: ∀y∈s'.insts.l,∃ i∈s.insts.l,y.stops.l.length<=i.stops.l.length/\ ∀z∈y.stops.l,∃ x∈i.stops.l,core z=core x
 all:a≠ -1->s'.insts.l.length=s.insts.l.length
include he in
theorem OH(hs:jX s)(hm:cx s.insts.l n)(deep:Bool)(qk:ql)(AX:xo e.span qk)(a k:Int)(ho:(a= -1/\k= -1)\/KN s qk a k\/ ∃(a' k' :Nat)(i:qw)(x:qu),a=a' /\k=k' /\s.insts.l[a']? =some i/\i.stops.l[k']? =some x/\xo e.span x.span)(fl:Sl (Sl Int))(Z7:fq s.insts.l fl):
  ∃s' flags,uu s a k e deep mark fl=some (s',fl,flags)/\VZ e n s a s' flags:=by
 have eN:=he.ab;have hms: ∀i∈s.insts.l,∀ x∈i.stops.l,-1<=x.up/\x.up<=2^20:=by
  intro i hi x hx;obtain⟨a,ha⟩:=jz hi;obtain⟨k,hk⟩:=jz hx;have h1:=(hm.may a i ha).up k x hk;have h2:=(qG hk).1;have h3:=hs.2 i hi;omega
 obtain⟨L,hL1,Lv⟩:=row_ok s hs hms;have hB:=rowS_ok n s.insts.l 0 0 hm (fun a i hi=>(hm.may a i hi).QP.1);have hR:RowL L n:=by
  have:=hB.row;rw[<- Lv]at this;exact this
 have h4:=Qs hs.2;have h5:s.insts.l.length*2^12<=2^12*2^12:=Nat.mul_le_mul hs.1 (xJ _);have nh:=hs.1;have rl: ∀(is:List qw)(b:Nat),(bp b is).length=is.length+many is:=by
  intro is;induction is with
  |nil=>intro b;simp[bp,many]
  |cons i is ih=>
   intro b;have:=aP b i;have:=ih (b+1+i.stops.l.length);simp only[bp,many,List.length_append,List.map_cons,List.sum_cons,List.length_cons]at*
   omega
 have hLn:L.length=s.insts.l.length+many s.insts.l:=by
  rw[<- rl s.insts.l 0,<- Lv];simp
 have G8: ∃o:Int,nB s a k=some o/\((a= -1/\o= -1)\/ ∃(a' k' :Nat)(i:qw)(x:qu),a=a' /\o=((zi s.insts.l a' +1+k' :Nat):Int)/\s.insts.l[a']? =some i/\i.stops.l[k']? =some x/\xo e.span x.span):=by
  rcases ho with ⟨rfl,rfl⟩|ho|⟨a',k',i,x,rfl,rfl,h1,h2,h3⟩
  ·obtain⟨o,g1,g2⟩:=GK s hs qk (-1) (-1) (.inl ⟨rfl,rfl⟩);refine⟨o,g1, ?_⟩;rcases g2 with g2|⟨a',k',g2,_⟩
   ·exact .inl g2
   omega
  ·obtain⟨o,g1,g2⟩:=GK s hs qk a k (.inr ho);refine⟨o,g1, ?_⟩;obtain⟨a',k',i,x,rfl,rfl,h1,h2,_,_,h3⟩:=ho;rcases g2 with ⟨g2,_⟩|⟨a'',k'',g2,g3,g4⟩
   ·omega
   obtain rfl:a' =a'' :=by omega
   obtain rfl:k' =k'' :=by omega
   refine .inr ⟨a',k',i,x,rfl,g4,h1,h2, ?_⟩;unfold xo at*
   omega
  have h7:KN ⟨x.n,s.insts⟩ x.span a' k' \/x.qJ=true:=by
   cases ht:x.qJ with
   |true=>exact .inr rfl
   |false=>exact .inl ⟨a',k',i,x,rfl,rfl,h1,h2,rfl,ht,by unfold xo;omega⟩
  have WX:=(qG h1).1;have mF:=(qG h2).1;have DR:=hs.2 i (qX h1);refine⟨((zi s.insts.l a' +1+k' :Nat):Int), ?_,.inr ⟨a',k',i,x,rfl,rfl,h1,h2,h3⟩⟩;unfold nB;rw[if_neg (by simp;omega),gi h1];simp only[xe,z7];rw[if_neg (by simp;omega),ws (by omega),show(0:Int)=((0:Nat):Int)from rfl,GJ s hs a' (by omega) a' 0 (k' +1) (by omega) (by
   have:a' *(2^12+1)<=2^12*(2^12+1):=Nat.mul_le_mul (by omega) (xJ _)
   omega)]
  have:zi s.insts.l 0=0:=by simp[zi]
  rw[this,show k' +1+(zi s.insts.l a' -0)=zi s.insts.l a' +1+k' by omega];rfl
 obtain⟨o,ho1,ho2⟩:=G8;have at_o: ∀(a' k' :Nat)(i:qw)(x:qu),s.insts.l[a']? =some i->i.stops.l[k']? =some x->zi s.insts.l a' +1+k' <L.length/\FL L (zi s.insts.l a' +1+k')=x.span.qO/\TL L (zi s.insts.l a' +1+k')=x.span.to:=by
  intro a' k' i x h1 h2;have mF:=(qG h2).1;have h3:=Pm s.insts.l 0 a' i h1 (k' +1) (by omega);rw[show (sX (0+zi s.insts.l a') i)[k' +1]? =some (x.span.qO,x.span.to,((0+zi s.insts.l a' :Nat):Int)+1+x.up) by simp[sX,h2],<- Lv]at h3;rw[show zi s.insts.l a' +1+k' =zi s.insts.l a' +(k' +1) by omega];have h4:=cN h3;exact⟨by have:=(qG h3).1;simpa using this,h4.1,h4.2.1⟩
 obtain⟨h,hh1,hh2,hh3,hh4⟩:=hold_ok L e hR (by omega) he L.isEmpty deep o (by
  rcases ho2 with ⟨_,rfl⟩|⟨a',k',i,x,_,rfl,h1,h2,h3⟩
  ·exact .inl rfl
  obtain⟨q1,q2,q3⟩:=at_o a' k' i x h1 h2
  refine .inr ⟨_,rfl,q1, ?_⟩
  unfold xo at h3
  omega)
 obtain⟨sd,last,hd1,DL,hd3⟩:=OJ L e hR L.isEmpty h hh2 (by omega);have Eg: ∀(b0:Nat)(i:qw),i∈s.insts.l->(∀ r x,(sX b0 i)[r]? =some x->(bp 0 s.insts.l)[b0+r]? =some x)-> ∀(k:Nat)(x:qu),i.stops.l[k]? =some x-> -1<=x.up/\ ∀p:Nat,x.up=p->p<k/\(lZ sd (b0+1+k)≠1->lZ sd (b0+1+p)≠1):=by
  intro b0 i hi cE k x hx;obtain⟨a',ha'⟩:=jz hi;have hu:=(hm.may a' i ha').up k x hx;refine⟨hu.1,fun p hp=>⟨by omega,fun jv=>?_⟩⟩;have h3:=cE (k+1) (x.span.qO,x.span.to,b0+1+x.up) (by simp[sX,hx]);rw[<- Lv,show b0+(k+1)=b0+1+k by omega]at h3;have h4:=cN h3;have h5:=(qG h3).1;exact cA hR hh3 hd3 h5 jv (p:=b0+1+p) (by show T2 _ _=_;rw[h4.2.2];simp only;omega)
 have hz:fq [] ⟨true,[]⟩:=⟨rfl,fun c=>absurd rfl c,fun a i f hi=>by simp at hi⟩;obtain⟨flags,hs5,hs6⟩:=OE e n he mark sd s (qc.mk 0 ⟨true,[]⟩) s.cur hs hm (by omega) Eg fl Z7 s.insts.l 0 0 ⟨true,[]⟩ [] rfl (fun q x hx=>by rw[Nat.zero_add];exact hx) (by rw[rl];omega) hz (by simp);refine⟨⟨s.cur,⟨(NI e sd 0 s.insts.l).isEmpty,NI e sd 0 s.insts.l⟩⟩,flags, ?_, ?_⟩
 ·unfold uu;simp only[hL1,ho1,hh1,hd1,xe,z7];rw[show ((0:Nat):Int)=0 from rfl]at hs5;rw[hs5];simp
 refine⟨rfl, ?_,by simpa using hs6,Ih _ _ _ _ _ _, ?_, ?_⟩
 ·have:=Cm (c:=(e.text.length:Int)) hR hh3 hd3 he.a0 eN he.bn (Int.natCast_nonneg _) Lv hm;exact this
 ·exact Mu _ _ _ _ s.insts.l 0 (l:=bp 0 s.insts.l) (fun r x hx=>by rw[Nat.zero_add];exact hx)
 intro hna;refine Cl _ _ _ _ s.insts.l 0 fun j y hy=>?_;rw[Nat.zero_add];intro E3;rcases ho2 with ⟨h7,_⟩|⟨a',k',i,x,h6,h7,h8,h9,h10⟩
 ·exact hna h7
 have C6:=(hm.may a' i h8).inside k' x h9;have hxl:=(hm.may a' i h8).le k' x h9;have row0: ∀(j:Nat)(y:qw),s.insts.l[j]? =some y->zi s.insts.l j<(L.map strOf).length/\FL L (zi s.insts.l j)=y.span.qO/\TL L (zi s.insts.l j)=y.span.to/\UL L (zi s.insts.l j)= -1:=by
  intro j y hy;have h3:=Pm s.insts.l 0 j y hy 0 (by omega);rw[show (sX (0+zi s.insts.l j) y)[0]? =some (y.span.qO,y.span.to,-1) by simp[sX],<- Lv,Nat.add_zero]at h3;have h4:=cN h3;exact⟨(qG h3).1,h4.1,h4.2.1,h4.2.2⟩
 obtain⟨r1,r2,r3,r4⟩:=row0 j y hy;have hnoH: ¬h[zi s.insts.l j]? =some true:=fun c=>by
  have:=hd3.holds _ r1 c;have h11:sd.getD (zi s.insts.l j) 0=1:=E3;omega
 have hyr:=(hm.may j y hy).QP;rcases nG hR hd3 r1 with ⟨c,_⟩|⟨c,c2⟩|⟨c,c2⟩|⟨c,c2⟩
 ·exact hnoH c
 ·
  by_cases cut:y.span.qO<e.span.to/\e.span.qO<y.span.to
  ·unfold xo at h10;rcases Nat.lt_trichotomy j a' with q|q|q
   ·have:=hm.D7 j a' y i q hy h8;omega
   ·subst q;rw[hy]at h8;cases h8;have DQ:=hh4 _ h7;obtain⟨q1,_,_⟩:=at_o j k' y x hy h9;have Xo:ic (UL L) (zi s.insts.l j+1+k') (zi s.insts.l j):=by
     have gen: ∀(k:Nat)(x:qu),y.stops.l[k]? =some x->ic (UL L) (zi s.insts.l j+1+k) (zi s.insts.l j):=by
      intro k;induction k using Nat.strongRecOn with
      |_ k ih=>
      intro x hx;have hu:=(hm.may j y hy).up k x hx;have mF:=(qG hx).1;have h3:=Pm s.insts.l 0 j y hy (k+1) (by omega);rw[show (sX (0+zi s.insts.l j) y)[k+1]? =some (x.span.qO,x.span.to,((0+zi s.insts.l j:Nat):Int)+1+x.up) by simp[sX,hx],<- Lv,show zi s.insts.l j+(k+1)=zi s.insts.l j+1+k by omega]at h3;have h4:=(cN h3).2.2;by_cases c:x.up= -1
      ·exact .up _ _ .self (by show T2 _ _=_;rw[h4];simp only;omega)
      obtain⟨p,hp⟩: ∃p:Nat,x.up=p:=⟨x.up.toNat,by omega⟩;have sI:y.stops.l[p]? =some y.stops.l[p]:=kU (by omega);exact WD (p:=zi s.insts.l j+1+p) (by show T2 _ _=_;rw[h4];simp only;omega) (ih p (by omega) _ sI)
     exact gen k' x h9
    have: ∀q,ic (UL L) (zi s.insts.l j+1+k') q->q<(L.map strOf).length/\h[q]? =some true:=by
     intro q hq;induction hq with
     |self=>exact⟨by simpa using q1,DQ⟩
     |up x p _ hp ih=>
      have:=hR.up x ih.1;exact⟨by omega,hh3.up x ih.1 ih.2 p hp⟩
    exact hnoH (this _ Xo).2
   have:=hm.D7 a' j i y q h8 hy;omega
  by_cases z:TL L (zi s.insts.l j)<e.span.qO\/TL L (zi s.insts.l j)=e.span.qO/\(FL L (zi s.insts.l j)<TL L (zi s.insts.l j)\/((zi s.insts.l j:Nat):Int)<last\/last<0)
  ·have:=hd3.left _ r1 c (fun p hp=>by omega) (by rw[r2,r3];exact cut) z;omega
  have:=hd3.right _ r1 c (fun p hp=>by omega) (by rw[r2,r3];exact cut) z;omega
 ·have h11:sd.getD (zi s.insts.l j) 0=1:=E3;omega
 have h11:sd.getD (zi s.insts.l j) 0=1:=E3;omega
end
end Xr
namespace Xr
def rV(a b:ql):Prop:=a.qO<b.qO\/a.qO=b.qO/\a.to<b.to
instance(a b:ql):Decidable (rV a b):=by unfold rV;infer_instance
theorem YE(a b:ql):rn a b=some (decide (rV a b)):=by
 unfold rn rV;by_cases h:a.qO<b.qO
 ·simp[h]
 by_cases h2:a.qO=b.qO<;>simp[h,h2]
section
variable {α:Type} (key:α->ql)
def pos(x:α)(s:List α):Nat->Nat
 |0=>0
 |k+1=>match s[k]? with
  |some y=>if rV (key x) (key y)then pos x s k else k+1
  |none=>k+1
def tV(s:List α)(x:α):List α:=s.take (pos key x s s.length)++x::s.drop (pos key x s s.length)
def xV(s r:List α):List α:=r.foldl (tV key) s
theorem YZ(x:α)(s:List α): ∀k,pos key x s k<=k:=by
 intro k;induction k with
 |zero=>simp[pos]
 |succ k ih=>
  rw[pos];split
  ·split<;>omega
  omega
def BO(a b:α):Prop:= ¬rV (key b) (key a)
theorem Iz(x:α)(s:List α): ∀k,k<=s.length->(∀ j y,pos key x s k<=j->j<k->s[j]? =some y->rV (key x) (key y))/\(∀ y,0<pos key x s k->s[pos key x s k-1]? =some y-> ¬rV (key x) (key y)):=by
 intro k;induction k with
 |zero=>intro _;exact⟨fun j y h1 h2=>by omega,fun y h=>by simp[pos]at h⟩
 |succ k ih=>
  intro hk;obtain⟨y,hy⟩:=gl (l:=s) (k:=k) (by omega);rw[pos,hy];simp only;split
  ·rename_i c;obtain⟨h1,h2⟩:=ih (by omega);refine⟨fun j z hj BK hz=>?_,h2⟩;by_cases e:j=k
   ·subst e;rw[hy]at hz;cases hz;exact c
   exact h1 j z hj (by omega) hz
  rename_i c;refine⟨fun j z hj BK=>by omega,fun z _ hz=>?_⟩;rw[Nat.add_sub_cancel,hy]at hz;cases hz;exact c
theorem V1(s:List α)(x:α):(tV key s x).Perm (s++[x]):=by
 unfold tV;refine(List.perm_middle).trans ?_;rw[List.take_append_drop];exact(List.perm_append_singleton x s).symm
theorem mZ: ∀(r s:List α),(xV key s r).Perm (s++r):=by
 intro r;induction r with
 |nil=>intro s;simp[xV]
 |cons x r ih=>
  intro s;have:=ih (tV key s x);simp only[xV,List.foldl_cons]at this |-;refine this.trans ?_;have h1:=(V1 key s x).append_right r;simpa using h1
theorem V6{a b c:α}(h1:BO key a b)(h2:BO key b c):BO key a c:=by
 unfold BO rV at*
 omega
theorem Gb{s:List α}(x:α)(h:s.Pairwise (BO key)):(tV key s x).Pairwise (BO key):=by
 obtain⟨h1,h2⟩:=Iz key x s s.length (xJ _);have hp:=YZ key x s s.length;unfold tV;generalize pos key x s s.length=p at*
 have ht: ∀a∈s.take p,BO key a x:=by
  intro a ha;by_cases Lx:0<p
  ·obtain⟨y,hy⟩:=gl (l:=s) (k:=p-1) (by omega);have hyx:=h2 y Lx hy;obtain⟨j,hj⟩:=jz ha;have hjp:j<p:=by have:=(qG hj).1;simp at this;omega
   rw[List.getElem?_take_of_lt hjp]at hj;by_cases e:j=p-1
   ·subst e;rw[hy]at hj;cases hj;exact hyx
   have:=List.pairwise_iff_getElem.1 h j (p-1) (by omega) (by omega) (by omega);rw[kU (by omega)]at hj hy;cases hj;cases hy;exact V6 key this hyx
  have:p=0:=by omega
  subst this;simp at ha
 have hd: ∀b∈s.drop p,BO key x b:=by
  intro b hb;obtain⟨j,hj⟩:=jz hb;rw[List.getElem?_drop]at hj;have:=h1 (p+j) b (by omega) (qG hj).1 hj;unfold BO;unfold rV at*
  omega
 rw[List.pairwise_append];refine⟨h.sublist (List.take_sublist _ _),List.pairwise_cons.2 ⟨hd,h.sublist (List.drop_sublist _ _)⟩,fun a ha b hb=>?_⟩;rcases List.mem_cons.1 hb with rfl|hb
 ·exact ht a ha
 exact V6 key (ht a ha) (hd b hb)
theorem We: ∀(r s:List α),s.Pairwise (BO key)->(xV key s r).Pairwise (BO key):=by
 intro r;induction r with
 |nil=>intro s h;exact h
 |cons x r ih=>intro s h;exact ih _ (Gb key x h)
theorem ED(s:List α)(x:α)(h: ∀y∈s,¬ rV (key x) (key y)):tV key s x=s++[x]:=by
 have:pos key x s s.length=s.length:=by
  cases hs:s.length with
  |zero=>simp[pos]
  |succ k=>
   obtain⟨y,hy⟩:=gl (l:=s) (k:=k) (by omega);rw[pos,hy];simp only;rw[if_neg (h y (qX hy))]
 unfold tV;rw[this];simp
theorem V2: ∀(r s:List α),(s++r).Pairwise (BO key)->xV key s r=s++r:=by
 intro r;induction r with
 |nil=>intro s _;simp[xV]
 |cons x r ih=>
  intro s h;have h1: ∀y∈s,¬ rV (key x) (key y):=fun y hy=>(List.pairwise_append.1 h).2.2 y hy x (by simp);show xV key (tV key s x) r=_;rw[ED key s x h1,ih (s++[x]) (by simpa using h)];simp
end
def yU(s:qx):ql:=⟨if s.head<s.anchor then s.head else s.anchor,if s.head>s.anchor then s.head else s.anchor⟩
theorem X4(s:qx):yn s=some (yU s):=rfl
theorem fK(s:qx):(yU s).qO<=(yU s).to:=by
 unfold yU;simp only;split<;>split<;>omega
theorem I5(l s:Sl qx)(i:Nat)(x:qx)(hx:l.l[i]? =some x): ∀k,k<=s.l.length->k<2^60->uP (l,s,(i:Int),(k:Int))=some ((pos yU x s.l k:Nat):Int):=by
 intro k;induction k with
 |zero=>intro _ _;rw[uP.eq_1,if_neg (by simp)];rfl
 |succ k ih=>
  intro hk hb;obtain⟨y,hy⟩:=gl (l:=s.l) (k:=k) (by omega);rw[uP.eq_1,if_pos (by simp<;>omega),gi hx,show IntKind.i64.wrap (((k+1:Nat):Int)-1)=(k:Int)from by rw[qI (by omega) (by omega)];omega,gi hy,pos,hy];simp only[xe,z7,X4,YE];by_cases c:rV (yU x) (yU y)
  ·rw[if_pos (by simpa using c),if_pos c];exact ih (by omega) (by omega)
  rw[if_neg (by simpa using c),if_neg c]
theorem OP(l s:Sl qo)(i:Nat)(x:qo)(hx:l.l[i]? =some x): ∀k,k<=s.l.length->k<2^60->bc (l,s,(i:Int),(k:Int))=some ((pos (·.span) x s.l k:Nat):Int):=by
 intro k;induction k with
 |zero=>intro _ _;rw[bc.eq_1,if_neg (by simp)];rfl
 |succ k ih=>
  intro hk hb;obtain⟨y,hy⟩:=gl (l:=s.l) (k:=k) (by omega);rw[bc.eq_1,if_pos (by simp<;>omega),gi hx,show IntKind.i64.wrap (((k+1:Nat):Int)-1)=(k:Int)from by rw[qI (by omega) (by omega)];omega,gi hy,pos,hy];simp only[xe,z7,YE];by_cases c:rV x.span y.span
  ·rw[if_pos (by simpa using c),if_pos c];exact ih (by omega) (by omega)
  rw[if_neg (by simpa using c),if_neg c]
theorem ON(l s:Sl ql)(i:Nat)(x:ql)(hx:l.l[i]? =some x): ∀k,k<=s.l.length->k<2^60->gZ (l,s,(i:Int),(k:Int))=some ((pos id x s.l k:Nat):Int):=by
 intro k;induction k with
 |zero=>intro _ _;rw[gZ.eq_1,if_neg (by simp)];rfl
 |succ k ih=>
  intro hk hb;obtain⟨y,hy⟩:=gl (l:=s.l) (k:=k) (by omega);rw[gZ.eq_1,if_pos (by simp<;>omega),gi hx,show IntKind.i64.wrap (((k+1:Nat):Int)-1)=(k:Int)from by rw[qI (by omega) (by omega)];omega,gi hy,pos,hy];simp only[xe,z7,YE];by_cases c:rV (id x) (id y)
  ·rw[if_pos (by simpa using c),if_pos c];exact ih (by omega) (by omega)
  rw[if_neg (by simpa using c),if_neg c]
theorem Xg{α:Type}(s:List α)(p:Nat)(h:p<=s.length):kx s (p:Int)=some (s.take p):=by
 obtain⟨r,h1,h2,_⟩:=qB.kx (l:=s) (hi:=(p:Int)) (by omega) (by omega);rw[h1,h2,Int.toNat_natCast]
theorem AB{α:Type}(s:List α)(p:Nat)(h:p<=s.length):bX s (p:Int)=some (s.drop p):=by
 obtain⟨r,h1,h2,_⟩:=qB.bX (l:=s) (lo:=(p:Int)) (by omega) (by omega);rw[h1,h2,Int.toNat_natCast]
theorem JR{α:Type}(key:α->ql)(s:List α)(x:α):(tV key s x).length=s.length+1:=by
 simpa using(V1 key s x).length_eq
theorem I4(l:Sl qx): ∀(r:List qx)(i:Nat)(s:Sl qx),l.l.drop i=r->s.l.length+r.length<=2^20->l.l.length<=2^20->(s.nil=s.l.isEmpty)->
  uO (l,s,(i:Int))=some ⟨(xV yU s.l r).isEmpty,xV yU s.l r⟩:=by
 intro r;induction r with
 |nil=>
  intro i s h _ _ hn;have:=zc h;rw[uO.eq_1,if_neg (by simp;omega)];show some s=some ⟨s.l.isEmpty,s.l⟩;rw[<- hn]
 |cons x r ih=>
  intro i s h hb hl hn;obtain⟨h1,h2,h3⟩:=zp h;simp only[List.length_cons]at hb;have hp:=YZ yU x s.l s.l.length;rw[uO.eq_1,if_pos (by simp;omega),I5 l s i x h1 s.l.length (xJ _) (by omega)];simp only[xe,z7];rw[Xg _ _ hp];simp only[z7];rw[if_pos (qC (by simp;omega) (by omega)),gi h1];simp only[z7];rw[if_pos (qC (by simp;omega) (by omega)),AB _ _ hp];simp only[z7];rw[if_pos (qC (by simp;omega) (by omega)),ws (by omega)];have e:s.l.take (pos yU x s.l s.l.length)++[x]++s.l.drop (pos yU x s.l s.l.length)=tV yU s.l x:=by simp[tV]
  rw[e];have:=JR yU s.l x;exact ih (i+1) ⟨false,tV yU s.l x⟩ h2 (by simp only;omega) hl (by cases h7:tV yU s.l x with
   |nil=>rw[h7]at this;simp at this
   |cons _ _=>rfl)
theorem OO(l:Sl qo): ∀(r:List qo)(i:Nat)(s:Sl qo),l.l.drop i=r->s.l.length+r.length<=2^20->l.l.length<=2^20->(s.nil=s.l.isEmpty)->
  ba (l,s,(i:Int))=some ⟨(xV (·.span) s.l r).isEmpty,xV (·.span) s.l r⟩:=by
 intro r;induction r with
 |nil=>
  intro i s h _ _ hn;have:=zc h;rw[ba.eq_1,if_neg (by simp;omega)];show some s=some ⟨s.l.isEmpty,s.l⟩;rw[<- hn]
 |cons x r ih=>
  intro i s h hb hl hn;obtain⟨h1,h2,h3⟩:=zp h;simp only[List.length_cons]at hb;have hp:=YZ (·.span) x s.l s.l.length;rw[ba.eq_1,if_pos (by simp;omega),OP l s i x h1 s.l.length (xJ _) (by omega)];simp only[xe,z7];rw[Xg _ _ hp];simp only[z7];rw[if_pos (qC (by simp;omega) (by omega)),gi h1];simp only[z7];rw[if_pos (qC (by simp;omega) (by omega)),AB _ _ hp];simp only[z7];rw[if_pos (qC (by simp;omega) (by omega)),ws (by omega)];have e:s.l.take (pos (·.span) x s.l s.l.length)++[x]++s.l.drop (pos (·.span) x s.l s.l.length)=tV (·.span) s.l x:=by simp[tV]
  rw[e];have:=JR (·.span) s.l x;exact ih (i+1) ⟨false,tV (·.span) s.l x⟩ h2 (by simp only;omega) hl (by cases h7:tV (·.span) s.l x with
   |nil=>rw[h7]at this;simp at this
   |cons _ _=>rfl)
theorem OM(l:Sl ql): ∀(r:List ql)(i:Nat)(s:Sl ql),l.l.drop i=r->s.l.length+r.length<=2^20->l.l.length<=2^20->(s.nil=s.l.isEmpty)->
  gY (l,s,(i:Int))=some ⟨(xV id s.l r).isEmpty,xV id s.l r⟩:=by
 intro r;induction r with
 |nil=>
  intro i s h _ _ hn;have:=zc h;rw[gY.eq_1,if_neg (by simp;omega)];show some s=some ⟨s.l.isEmpty,s.l⟩;rw[<- hn]
 |cons x r ih=>
  intro i s h hb hl hn;obtain⟨h1,h2,h3⟩:=zp h;simp only[List.length_cons]at hb;have hp:=YZ id x s.l s.l.length;rw[gY.eq_1,if_pos (by simp;omega),ON l s i x h1 s.l.length (xJ _) (by omega)];simp only[xe,z7];rw[Xg _ _ hp];simp only[z7];rw[if_pos (qC (by simp;omega) (by omega)),gi h1];simp only[z7];rw[if_pos (qC (by simp;omega) (by omega)),AB _ _ hp];simp only[z7];rw[if_pos (qC (by simp;omega) (by omega)),ws (by omega)];have e:s.l.take (pos id x s.l s.l.length)++[x]++s.l.drop (pos id x s.l s.l.length)=tV id s.l x:=by simp[tV]
  rw[e];have:=JR id s.l x;exact ih (i+1) ⟨false,tV id s.l x⟩ h2 (by simp only;omega) hl (by cases h7:tV id s.l x with
   |nil=>rw[h7]at this;simp at this
   |cons _ _=>rfl)
theorem Bn(l:Sl qo)(hl:l.l.length<=2^20):cr l=some ⟨(xV (·.span) [] l.l).isEmpty,xV (·.span) [] l.l⟩:=by
 unfold cr;rw[show (0:Int)=((0:Nat):Int)from rfl,OO l l.l 0 ⟨true,[]⟩ rfl (by simpa using hl) hl rfl];rfl
theorem Bm(l:Sl ql)(hl:l.l.length<=2^20):cp l=some ⟨(xV id [] l.l).isEmpty,xV id [] l.l⟩:=by
 unfold cp;rw[show (0:Int)=((0:Nat):Int)from rfl,OM l l.l 0 ⟨true,[]⟩ rfl (by simpa using hl) hl rfl];rfl
end Xr
namespace Xr
def lh(a b:ql):Prop:=(if b.qO>a.qO then b.qO else a.qO)<=(if b.to<a.to then b.to else a.to)
instance(a b:ql):Decidable (lh a b):=by unfold lh;infer_instance
def join(y x:qx):qx:=if y.head<y.anchor then⟨if (yU x).to>(yU y).to then(yU x).to else(yU y).to,(yU y).qO⟩else⟨(yU y).qO,if(yU x).to>(yU y).to then(yU x).to else(yU y).to⟩
theorem join_sp(y x:qx):yU (join y x)=⟨(yU y).qO,if(yU x).to>(yU y).to then(yU x).to else(yU y).to⟩:=by
 have hy:=fK y;have hx:=fK x;generalize hY:yU y=Y at*
 generalize hX:yU x=X at*
 unfold join;rw[hY,hX];have hM:Y.qO<=(if X.to>Y.to then X.to else Y.to):=by split<;>omega
 generalize (if X.to>Y.to then X.to else Y.to)=M at*
 unfold yU;by_cases c:y.head<y.anchor
 ·rw[if_pos c];simp only[ql.mk.injEq];constructor
  ·split<;>omega
  split<;>omega
 rw[if_neg c];simp only[ql.mk.injEq];constructor
 ·split<;>omega
 split<;>omega
def i4(out:List qx)(x:qx):List qx:=
 match out.getLast? with
 |some y=>if lh (yU y) (yU x)then out.set (out.length-1) (join y x)else out++[x]
 |none=>out++[x]
def TJ(out r:List qx):List qx:=r.foldl i4 out
theorem Gy(out:List qx)(x:qx):(i4 out x).length<=out.length+1/\1<=(i4 out x).length:=by
 unfold i4;split
 ·rename_i y hy;have:out≠[]:=fun c=>by rw[c]at hy;simp at hy
  have:=List.length_pos_iff.2 this;split<;>simp<;>omega
 simp
theorem I6(s:Sl qx)(hs:s.l.length<=2^20): ∀(r:List qx)(i:Nat)(out:List qx),s.l.drop i=r->out.length<=i->wE (s,(i:Int),out)=some (TJ out r):=by
 intro r;induction r with
 |nil=>
  intro i out h _;have:=zc h;rw[wE.eq_1,if_neg (by simp;omega)];rfl
 |cons x r ih=>
  intro i out h ho;obtain⟨h1,h2,h3⟩:=zp h;rw[wE.eq_1,if_pos (by simp;omega)];have step:=ih (i+1) (i4 out x) h2 (by have:=Gy out x;omega);show _=some (TJ (i4 out x) r);rw[ws (by omega),<- step];by_cases c:0<out.length
  ·obtain⟨y,hy⟩:=gl (l:=out) (k:=out.length-1) (by omega);have hl:out.getLast? =some y:=by rw[List.getLast?_eq_getElem?];exact hy
   rw[if_pos (by simp;omega),show IntKind.i64.wrap ((out.length:Int)-1)=((out.length-1:Nat):Int)from by rw[qI (by omega) (by omega)];omega,gi hy,gi h1];simp only[xe,z7,X4,ro,Int.toNat_natCast];unfold i4;rw[hl];simp only;by_cases t:lh (yU y) (yU x)
   ·have t' :=t;unfold lh at t';rw[if_pos (by simpa using t'),if_pos t];unfold XQ join;by_cases d:y.head<y.anchor<;>simp[d]
   have t' :=t;unfold lh at t';rw[if_neg (by simpa using t'),if_neg t,if_pos qC]
  have e:out=[]:=List.eq_nil_of_length_eq_zero (by omega);subst e;rw[if_neg (by simp),gi h1];simp only[xe,z7];rw[if_pos (qC (by simp) (by omega))];rfl
def bV(l:List qx):List qx:=TJ [] (xV yU [] l)
theorem Gv(l:Sl qx)(hl:l.l.length<=2^19):rq l=some ⟨(bV l.l).isEmpty,bV l.l⟩:=by
 have h1:=(mZ yU l.l []).length_eq;unfold rq;rw[show (0:Int)=((0:Nat):Int)from rfl,I4 l l.l 0 ⟨true,[]⟩ rfl (by simp;omega) (by omega) rfl];simp only[xe,z7];rw[I6 _ (by simp only[List.nil_append]at h1 |-; omega) (xV yU [] l.l) 0 [] rfl (by simp)];rfl
def PU(l:List qx):Prop:=l.Pairwise fun a b=>(yU a).to<(yU b).qO
def JQ(n:Int)(l:List qx):Prop:= ∀x∈l,0<=(yU x).qO/\(yU x).to<=n
theorem mrg_apt(n:Int): ∀(r out:List qx),PU out->JQ n out->r.Pairwise (BO yU)->(∀ y∈out,∀ x∈r,(yU y).qO<=(yU x).qO)->JQ n r->PU (TJ out r)/\JQ n (TJ out r):=by
 intro r;induction r with
 |nil=>intro out h1 h2 _ _ _;exact⟨h1,h2⟩
 |cons x r ih=>
  intro out h1 h2 h3 h4 h5;obtain⟨h6,h7⟩:=List.pairwise_cons.1 h3;have hxn:=h5 x (by simp);have hr:JQ n r:=fun z hz=>h5 z (by simp[hz]);have hxr: ∀z∈r,(yU x).qO<=(yU z).qO:=fun z hz=>by
   have:=h6 z hz;unfold BO rV at this;omega
  have C7:=fK x;show PU (TJ (i4 out x) r)/\_;have key:PU (i4 out x)/\JQ n (i4 out x)/\ ∀y∈i4 out x,∀ z∈r,(yU y).qO<=(yU z).qO:=by
   unfold i4;cases hl:out.getLast? with
   |none=>
    have:out=[]:=List.getLast?_eq_none_iff.1 hl;subst this;refine⟨by simp[PU],fun z hz=>?_,fun y hy z hz=>?_⟩
    ·simp only[List.nil_append,List.mem_singleton]at hz;subst hz;exact hxn
    simp only[List.nil_append,List.mem_singleton]at hy;subst hy;exact hxr z hz
   |some y=>
    obtain⟨init,rfl⟩: ∃init,out=init++[y]:=by
     have jv:out≠[]:=fun c=>by rw[c]at hl;simp at hl
     rcases List.eq_nil_or_concat out with h|⟨i0,y0,h⟩
     ·exact absurd h jv
     refine⟨i0, ?_⟩;rw[h]at hl |-;simp at hl;subst hl;simp
    have hy1:(yU y).qO<=(yU x).qO:=h4 y (by simp) x (by simp);have hyn:=h2 y (by simp);have hyy:=fK y;obtain⟨a1,_,a3⟩:=List.pairwise_append.1 h1;simp only;by_cases t:lh (yU y) (yU x)
    ·rw[if_pos t];have e:(init++[y]).set ((init++[y]).length-1) (join y x)=init++[join y x]:=by simp
     rw[e];have hj:=join_sp y x;have hjf:(yU (join y x)).qO=(yU y).qO:=by rw[hj]
     have hjt:(yU (join y x)).to<=n:=by rw[hj];simp only;split<;>omega
     refine⟨List.pairwise_append.2 ⟨a1,by simp,fun a ha b hb=>?_⟩,fun z hz=>?_,fun z hz w hw=>?_⟩
     ·simp only[List.mem_singleton]at hb;subst hb;rw[hjf];exact a3 a ha y (by simp)
     ·rcases List.mem_append.1 hz with hz|hz
      ·exact h2 z (by simp[hz])
      simp only[List.mem_singleton]at hz;subst hz;omega
     rcases List.mem_append.1 hz with hz|hz
     ·exact h4 z (by simp[hz]) w (by simp[hw])
     simp only[List.mem_singleton]at hz;subst hz;have:=hxr w hw;omega
    rw[if_neg t];have hyx:(yU y).to<(yU x).qO:=by
     unfold lh at t;split at t<;>split at t<;>omega
    refine⟨List.pairwise_append.2 ⟨h1,by simp,fun a ha b hb=>?_⟩,fun z hz=>?_,fun z hz w hw=>?_⟩
    ·simp only[List.mem_singleton]at hb;subst hb;rcases List.mem_append.1 ha with ha|ha
     ·have:=a3 a ha y (by simp);omega
     simp only[List.mem_singleton]at ha;subst ha;exact hyx
    ·rcases List.mem_append.1 hz with hz|hz
     ·exact h2 z hz
     simp only[List.mem_singleton]at hz;subst hz;exact hxn
    rcases List.mem_append.1 hz with hz|hz
    ·exact h4 z hz w (by simp[hw])
    simp only[List.mem_singleton]at hz;subst hz;exact hxr w hw
  exact ih (i4 out x) key.1 key.2.1 h7 key.2.2 hr
theorem mrg_len: ∀(r out:List qx),(TJ out r).length<=out.length+r.length/\((out≠[]\/r≠[])->TJ out r≠[]):=by
 intro r;induction r with
 |nil=>intro out;exact⟨by simp[TJ],fun h=>by simpa[TJ]using h⟩
 |cons x r ih=>
  intro out;have h1:=Gy out x;obtain⟨h2,h3⟩:=ih (i4 out x);refine⟨?_,fun _=>h3 (.inl fun c=>by rw[c]at h1;simp at h1)⟩;show(TJ (i4 out x) r).length<=_;simp only[List.length_cons];omega
theorem lE(n:Int)(l:List qx)(h:JQ n l):PU (bV l)/\JQ n (bV l):=by
 have hp:=mZ yU l [];refine mrg_apt n _ [] (by simp[PU]) (fun x hx=>by simp at hx) (We yU l [] (by simp)) (fun y hy=>by simp at hy) fun x hx=>?_;exact h x (by simpa using hp.mem_iff.1 hx)
theorem K1(l:List qx):(bV l).length<=l.length/\(l≠[]->bV l≠[]):=by
 have hp:=(mZ yU l []).length_eq;simp only[List.nil_append]at hp;obtain⟨h1,h2⟩:=mrg_len (xV yU [] l) [];refine⟨by unfold bV;simp only[List.length_nil]at h1;omega,fun h=>h2 (.inr fun c=>?_)⟩;rw[c]at hp;exact h (List.eq_nil_of_length_eq_zero (by simpa using hp.symm))
theorem mrg_id: ∀(r out:List qx),PU (out++r)->TJ out r=out++r:=by
 intro r;induction r with
 |nil=>intro out _;simp[TJ]
 |cons x r ih=>
  intro out h;have e:i4 out x=out++[x]:=by
   unfold i4;cases hl:out.getLast? with
   |none=>rfl
   |some y=>
    have hy:y∈out:=List.mem_of_getLast? hl;have h1:=(List.pairwise_append.1 h).2.2 y hy x (by simp);have:=fK y;have:=fK x;simp only;rw[if_neg];unfold lh;split<;>split<;>omega
  show TJ (i4 out x) r=_;rw[e,ih (out++[x]) (by simpa using h)];simp
theorem Vd(l:List qx)(h:PU l):bV l=l:=by
 have h1:l.Pairwise (BO yU):=h.imp fun{a b} eN=>by
  have:=fK a;have:=fK b;unfold BO rV;omega
 unfold bV;rw[V2 yU l [] (by simpa using h1)];simp only[List.nil_append];rw[mrg_id l [] (by simpa using h)];simp
theorem norm_L0(n:Int)(l:Sl qx)(hl:l.l.length<2^60): ∀(r:List qx)(i:Nat),l.l.drop i=r-> ∃v,bg (n,l,(i:Int))=some v/\((v= .inl (⟨true,[]⟩,3)/\ ¬JQ n r)\/(v= .inr ()/\JQ n r)):=by
 intro r;induction r with
 |nil=>
  intro i h;have:=zc h;rw[bg.eq_1,if_neg (by simp;omega)];exact⟨_,rfl,.inr ⟨rfl,fun x hx=>by simp at hx⟩⟩
 |cons x r ih=>
  intro i h;obtain⟨h1,h2,h3⟩:=zp h;have hx:=fK x;rw[bg.eq_1,if_pos (by simp;omega),gi h1,ws (by omega)];simp only[xe,z7,X4];have hm:tj (yU x) n=some (decide (0<=(yU x).qO/\(yU x).to<=n)):=by
   unfold tj;by_cases c:0<=(yU x).qO
   ·simp[c,hx]
   simp[c]
  rw[hm];simp only[z7];by_cases c:0<=(yU x).qO/\(yU x).to<=n
  ·rw[if_neg (by simpa using c)];obtain⟨v,g1,g2⟩:=ih (i+1) h2;refine⟨v,g1, ?_⟩;rcases g2 with ⟨g2,g3⟩|⟨g2,g3⟩
   ·exact .inl ⟨g2,fun k=>g3 fun z hz=>k z (by simp[hz])⟩
   refine .inr ⟨g2,fun z hz=>?_⟩;rcases List.mem_cons.1 hz with rfl|hz
   ·exact c
   exact g3 z hz
  rw[if_pos (by simp only[Bool.not_eq_true',decide_eq_false_iff_not];exact c)];exact⟨_,rfl,.inl ⟨rfl,fun k=>c (k x (by simp))⟩⟩
theorem TN(n:Int)(l:Sl qx)(hl:l.l.length<2^60): ∃(q:Sl qx)(c:Int),hU n l=some (q,c)/\((c=0/\l.l≠[]/\l.l.length<=64/\JQ n l.l/\q=⟨(bV l.l).isEmpty,bV l.l⟩)\/(c≠0/\q=⟨true,[]⟩/\ ¬(l.l≠[]/\l.l.length<=64/\JQ n l.l))):=by
 unfold hU;by_cases c1:l.l=[]
 ·rw[if_pos (by simp[c1])];exact⟨_,_,rfl,.inr ⟨by decide,rfl,fun k=>k.1 c1⟩⟩
 have hp:=List.length_pos_iff.2 c1;rw[if_neg (by simp;omega)];by_cases c2:l.l.length<=64
 ·rw[if_neg (by simp;omega)];obtain⟨v,g1,g2⟩:=norm_L0 n l hl l.l 0 rfl;rw[show ((0:Nat):Int)=0 from rfl]at g1;rw[g1];rcases g2 with ⟨rfl,g2⟩|⟨rfl,g2⟩
  ·exact⟨_,_,rfl,.inr ⟨by decide,rfl,fun k=>g2 k.2.2⟩⟩
  simp only[xe,z7,Gv l (by omega)];exact⟨_,_,rfl,.inl ⟨rfl,c1,c2,g2,rfl⟩⟩
 rw[if_pos (by simp;omega)];exact⟨_,_,rfl,.inr ⟨by decide,rfl,fun k=>c2 k.2.1⟩⟩
end Xr
namespace Xr
structure T3 (P:qu->Prop) (b:qa) (q:Sl qx) (ss:List qc) (fl:Sl (Sl (Sl Int))):Prop where
 blen:b.length<=2^39
 ne:q.l≠[]
 Wi:q.l.length<=64
 T8:PU q.l
 XK:JQ b.length q.l
 sB:ss.length<=16
 small: ∀s∈ss,jX s
 may: ∀s∈ss,cx s.insts.l b.length
 Jz:fl.l.length=ss.length
 fnn:ss≠[]->fl.nil=false
 each: ∀(i:Nat) s f,ss[i]? =some s->fl.l[i]? =some f->fq s.insts.l f
 stop: ∀s∈ss,∀ i∈s.insts.l,∀ x∈i.stops.l,P x
def Cored(P:qu->Prop):Prop:= ∀x y,core x=core y->P y->P x
def OwnE(e:qo)(s:qc)(a k:Int):Prop:=(a= -1/\k= -1)\/ ∃(a' k' :Nat)(i:qw)(x:qu),a=a' /\k=k' /\s.insts.l[a']? =some i/\i.stops.l[k']? =some x/\xo e.span x.span
theorem X8(a:ql):xo a a:=⟨Int.le_refl _,Int.le_refl _⟩
theorem eM{a b c:ql}(h1:xo a b)(h2:xo b c):xo a c:=by unfold xo at *; omega
section
variable {e:qo} (mark:Bool) (w:qa) (w2:Sl qx) (ss:List qc) (fl:Sl (Sl (Sl Int)))
theorem lay_L0(top inst stop:Int)(hs:ss.length<=16): ∀(d i:Nat)(is ks:List Int),i+d=ss.length->is.length=ss.length->ks.length=ss.length->(∀ j,j<i->is[j]? =some (-1)/\ks[j]? =some (-1))->
  ∃BL Cd,kh (top,inst,stop,mark,(i:Int),w,w2,ss,fl,e,is,ks)=some (BL,Cd)/\BL.length=ss.length/\Cd.length=ss.length/\ ∀j,j<ss.length->BL[j]? =some (-1)/\Cd[j]? =some (-1):=by
 intro d;induction d with
 |zero=>
  intro i is ks h h1 h2 H;rw[kh.eq_1,if_neg (by simp;omega)];exact⟨is,ks,rfl,h1,h2,fun j hj=>H j (by omega)⟩
 |succ d ih=>
  intro i is ks h h1 h2 H;obtain⟨x,hx⟩:=gl (l:=is) (k:=i) (by omega);obtain⟨y,hy⟩:=gl (l:=ks) (k:=i) (by omega);rw[kh.eq_1,if_pos (by simp;omega),gi hx,gi hy,ws (by omega)];simp only[xe,z7,Int.toNat_natCast];refine ih (i+1) _ _ (by omega) (by simp[h1]) (by simp[h2]) fun j hj=>?_;rw[xP,xP];by_cases c:i=j
  ·subst c;rw[if_pos ⟨rfl,by omega⟩,if_pos ⟨rfl,by omega⟩];exact⟨rfl,rfl⟩
  rw[if_neg (by omega),if_neg (by omega)];exact H j (by omega)
def aY(e:qo)(ss:List qc)(is ks:List Int):Prop:=is.length=ss.length/\ks.length=ss.length/\ ∀(j:Nat) s,ss[j]? =some s-> ∃a k,is[j]? =some a/\ks[j]? =some k/\OwnE e s a k
theorem lay_L2(top:Int)(Qk: ∀s∈ss,jX s)(M6: ∀s∈ss,∃ n,cx s.insts.l n): ∀(k:Nat)(is ks:List Int)(qk:ql),k<=ss.length->k<2^60->xo e.span qk->aY e ss is ks->
  ∃BL Cd at',jr (top,mark,(k:Int)-1,w,w2,ss,fl,e,is,ks,qk)=some (BL,Cd,at')/\aY e ss BL Cd/\ ∀j,k<=j->BL[j]? =is[j]? :=by
 intro k;induction k with
 |zero=>
  intro is ks qk _ _ _ H;rw[jr.eq_1,if_neg (by simp)];exact⟨is,ks,qk,rfl,H,fun j _=>rfl⟩
 |succ k ih=>
  intro is ks qk hk hb hw H;obtain⟨s,hs⟩:=gl (l:=ss) (k:=k) (by omega);have tR:=qX hs;obtain⟨h1,h2,h3⟩:=H;obtain⟨x,hx⟩:=gl (l:=is) (k:=k) (by omega);obtain⟨y,hy⟩:=gl (l:=ks) (k:=k) (by omega);obtain⟨v,hv,hq⟩:=Zq s qk (Qk s tR);rw[show ((k+1:Nat):Int)-1=(k:Int) by omega,jr.eq_1,if_pos (by simp),gi hs];simp only[xe,z7];rw[hv];simp only[z7];rw[gi hx,gi hy,show IntKind.i64.wrap ((k:Int)-1)=(k:Int)-1 from qI (by omega) (by omega)];simp only[z7,Int.toNat_natCast];have upd: ∀a c:Int,OwnE e s a c->aY e ss (is.set k a) (ks.set k c):=by
   intro a c hac;refine⟨by simp[h1],by simp[h2],fun j s' eO=>?_⟩;rw[xP,xP];by_cases cc:k=j
   ·subst cc;rw[hs]at eO;cases eO;rw[if_pos ⟨rfl,by omega⟩,if_pos ⟨rfl,by omega⟩];exact⟨a,c,rfl,rfl,hac⟩
   rw[if_neg (by omega),if_neg (by omega)];exact h3 j s' eO
  have tB: ∀(L:List Int)(a:Int)(j:Nat),k+1<=j->(L.set k a)[j]? =L[j]? :=by
   intro L a j hj;rw[xP,if_neg (by omega)]
  rcases hq with rfl|⟨a',k',i,z,g1,g2,g3,g4,_,_,g5⟩
  ·rw[if_neg (by simp)];obtain⟨BL,Cd,at',q1,q2,q3⟩:=ih (is.set k (-1)) (ks.set k (-1)) qk (by omega) (by omega) hw (upd _ _ (.inl ⟨rfl,rfl⟩));exact⟨BL,Cd,at',q1,q2,fun j hj=>by rw[q3 j (by omega),tB _ _ j hj]⟩
  obtain⟨va,vk⟩:=v;simp only at g1 g2 |-;subst g1 g2;rw[if_pos (by simp),gi g3];simp only[z7];obtain⟨n,hn⟩:=M6 s tR;have sG:=(hn.may a' i g3).inside k' z g4;have hz:xo e.span z.span:=eM hw g5;obtain⟨BL,Cd,at',q1,q2,q3⟩:=ih (is.set k (a' :Int)) (ks.set k (k' :Int)) i.span (by omega) (by omega) (eM hz ⟨sG.1,sG.2⟩) (upd _ _ (.inr ⟨a',k',i,z,rfl,rfl,g3,g4,hz⟩));exact⟨BL,Cd,at',q1,q2,fun j hj=>by rw[q3 j (by omega),tB _ _ j hj]⟩
structure Laid (e:qo) (n:Int) (dL:List qc) (is:List Int) (i:Nat) (ss:List qc) (fl:Sl (Sl (Sl Int))):Prop where
 len:ss.length=dL.length
 Jz:fl.l.length=dL.length
 fnn:dL≠[]->fl.nil=false
 done: ∀(j:Nat) s,j<i->dL[j]? =some s-> ∃s' f a,ss[j]? =some s' /\fl.l[j]? =some f/\is[j]? =some a/\VZ e n s a s' f
 todo: ∀(j:Nat) s,i<=j->dL[j]? =some s->ss[j]? =some s/\ ∃f,fl.l[j]? =some f/\fq s.insts.l f
theorem Gk(n:Int)(he:gx e n)(dL:List qc)(Qk: ∀s∈dL,jX s)(M6: ∀s∈dL,cx s.insts.l n)(is ks:List Int)(ho:aY e dL is ks)(i:Nat)(hi:i<dL.length)(fl:Sl (Sl (Sl Int)))(ss:List qc)(H:Laid e n dL is i ss fl):
  ∃s a k f,ss[i]? =some s/\is[i]? =some a/\ks[i]? =some k/\fl.l[i]? =some f/\fl.nil=false/\ ∀deep mark,∃ s' g,uu s a k e deep mark f=some (s',f,g)/\Laid e n dL is (i+1) (ss.set i s') ⟨false,fl.l.set i ⟨g.nil,g.l⟩⟩:=by
 obtain⟨s,hs⟩:=gl (l:=dL) (k:=i) hi;have tR:=qX hs;obtain⟨t1,f,t2,t3⟩:=H.todo i s (xJ _) hs;obtain⟨a,k,o1,o2,o3⟩:=ho.2.2 i s hs;have jv:dL≠[]:=fun c=>by rw[c]at hi;simp at hi
 refine⟨s,a,k,f,t1,o1,o2,t2,H.fnn jv,fun deep mark=>?_⟩;obtain⟨s',g,g1,g2⟩:=OH e n he mark s (Qk s tR) (M6 s tR) deep e.span (X8 _) a k (by
  rcases o3 with o3|o3
  ·exact .inl o3
  exact .inr (.inr o3)) f t3
 refine⟨s',g,g1,⟨by simp[H.len],by simp[H.Jz],fun _=>rfl, ?_, ?_⟩⟩
 ·intro j s1 hj nh;by_cases c:i=j
  ·subst c;rw[hs]at nh;cases nh;refine⟨s',g,a, ?_, ?_,o1,g2⟩
   ·rw[xP,if_pos ⟨rfl,by rw[H.len];exact hi⟩]
   rw[xP,if_pos ⟨rfl,by rw[H.Jz];exact hi⟩]
  obtain⟨s2,f2,a2,k1,k2,k3,k4⟩:=H.done j s1 (by omega) nh;refine⟨s2,f2,a2, ?_, ?_,k3,k4⟩
  ·rw[xP,if_neg (by omega)];exact k1
  rw[xP,if_neg (by omega)];exact k2
 intro j s1 hj nh;obtain⟨k1,f2,k2,k3⟩:=H.todo j s1 (by omega) nh;refine⟨?_,f2, ?_,k3⟩
 ·rw[xP,if_neg (by omega)];exact k1
 rw[xP,if_neg (by omega)];exact k2
theorem lay_L4(n:Int)(he:gx e n)(dL:List qc)(hs16:dL.length<=16)(Qk: ∀s∈dL,jX s)(M6: ∀s∈dL,cx s.insts.l n)(is ks:List Int)(ho:aY e dL is ks)(top:Int)(qk:ql): ∀(d i:Nat)(fl:Sl (Sl (Sl Int)))(ss:List qc),i+d=dL.length->Laid e n dL is i ss fl->
  ∃OU Yh,js (top,mark,(i:Int),w,w2,ss,fl,e,is,ks,qk)=some (OU,Yh)/\Laid e n dL is dL.length OU Yh:=by
 intro d;induction d with
 |zero=>
  intro i fl ss h H;have:=H.len;obtain rfl:i=dL.length:=by omega
  rw[js.eq_1,if_neg (by simp;omega)];exact⟨ss,fl,rfl,H⟩
 |succ d ih=>
  intro i fl ss h H;have hl:=H.len;obtain⟨s,a,k,f,g1,g2,g3,g4,g5,g6⟩:=Gk n he dL Qk M6 is ks ho i (by omega) fl ss H;rw[js.eq_1,if_pos (by simp;omega),g5,if_neg (by simp),gi g4];simp only[xe,z7];rw[gi g1,gi g2,gi g3,ws (by omega)];simp only[z7,Int.toNat_natCast];cases mark with
  |true=>
   obtain⟨s',g,q1,q2⟩:=g6 true true;rw[if_pos rfl,q1];exact ih (i+1) _ _ (by omega) q2
  |false=>
   obtain⟨s',g,q1,q2⟩:=g6 ((i:Int) != top) false;rw[if_neg (by simp),q1];exact ih (i+1) _ _ (by omega) q2
theorem lay_L42(n:Int)(he:gx e n)(dL:List qc)(hs16:dL.length<=16)(Qk: ∀s∈dL,jX s)(M6: ∀s∈dL,cx s.insts.l n)(is ks:List Int)(ho:aY e dL is ks)(top:Int): ∀(d i:Nat)(fl:Sl (Sl (Sl Int)))(ss:List qc),i+d=dL.length->Laid e n dL is i ss fl->
  ∃OU Yh,xN (top,mark,(i:Int),w,w2,ss,fl,e,is,ks)=some (OU,Yh)/\Laid e n dL is dL.length OU Yh:=by
 intro d;induction d with
 |zero=>
  intro i fl ss h H;have:=H.len;obtain rfl:i=dL.length:=by omega
  rw[xN.eq_1,if_neg (by simp;omega)];exact⟨ss,fl,rfl,H⟩
 |succ d ih=>
  intro i fl ss h H;have hl:=H.len;obtain⟨s,a,k,f,g1,g2,g3,g4,g5,g6⟩:=Gk n he dL Qk M6 is ks ho i (by omega) fl ss H;rw[xN.eq_1,if_pos (by simp;omega),g5,if_neg (by simp),gi g4];simp only[xe,z7];rw[gi g1,gi g2,gi g3,ws (by omega)];simp only[z7,Int.toNat_natCast];cases mark with
  |true=>
   obtain⟨s',g,q1,q2⟩:=g6 true true;rw[if_pos rfl,q1];exact ih (i+1) _ _ (by omega) q2
  |false=>
   obtain⟨s',g,q1,q2⟩:=g6 ((i:Int) != top) false;rw[if_neg (by simp),q1];exact ih (i+1) _ _ (by omega) q2
end
def l5(e:qo)(s:qx):qx:=⟨mv e.span.qO e.span.to e.text.length true s.anchor,mv e.span.qO e.span.to e.text.length true s.head⟩
theorem move6(e:qo)(n:Int)(he:gx e n)(p:Int)(h0:0<=p)(h1:p<=n):cq p true ⟨false,[e]⟩=some (mv e.span.qO e.span.to e.text.length true p):=by
 unfold cq;rw[Bn _ (by simp),V2 _ [e] [] (by simp)];simp only[List.nil_append,xe,z7];rw[show IntKind.i64.wrap ((([e]:List qo).length:Int)-1)=((0:Nat):Int) by(rw [show (([e]:List qo).length:Int)=1 from rfl];decide),nR.eq_1,if_pos (by simp),gi (l:=[e]) (k:=0) rfl];simp only[xe,z7,MG e n he p h0 h1];rw[show IntKind.i64.wrap (((0:Nat):Int)-1)= -1 by decide,nR.eq_1,if_neg (by simp)];rfl
theorem I9(e:qo)(n:Int)(he:gx e n)(p:Int)(h0:0<=p)(h1:p<=n):0<=mv e.span.qO e.span.to e.text.length true p/\mv e.span.qO e.span.to e.text.length true p<=n+(e.text.length-(e.span.to-e.span.qO)):=by
 have:=he.a0;have:=he.ab;have:=he.bn;unfold mv;split
 ·omega
 split
 ·omega
 simp only[if_true];omega
theorem iY(s:qx):(yU s).qO<=s.anchor/\(yU s).qO<=s.head/\s.anchor<=(yU s).to/\s.head<=(yU s).to:=by
 unfold yU;simp only;refine⟨?_, ?_, ?_, ?_⟩<;>split<;>omega
theorem I8(e:qo)(n:Int)(he:gx e n)(q:Sl qx)(hq:q.l.length<=2^19)(hn:JQ n q.l): ∀(r:List qx)(i:Nat)(out:List qx),q.l.drop i=r->out.length=i->bf (q,⟨false,[e]⟩,(i:Int),out)=some (out++r.map (l5 e)):=by
 intro r;induction r with
 |nil=>
  intro i out h _;have:=zc h;rw[bf.eq_1,if_neg (by simp;omega)];simp
 |cons x r ih=>
  intro i out h ho;obtain⟨h1,h2,h3⟩:=zp h;have hx:=hn x (qX h1);have hs:=iY x;rw[bf.eq_1,if_pos (by simp;omega),gi h1,ws (by omega)];simp only[xe,z7];rw[move6 e n he x.anchor (by omega) (by omega),move6 e n he x.head (by omega) (by omega)];simp only[z7];rw[if_pos qC];have:=ih (i+1) (out++[l5 e x]) h2 (by simp;omega);rw[show qx.mk (mv e.span.qO e.span.to e.text.length true x.anchor) (mv e.span.qO e.span.to e.text.length true x.head)=l5 e x from rfl,this];simp
theorem Gw(e:qo)(n:Int)(he:gx e n)(q:Sl qx)(hq:q.l.length<=2^19)(hn:JQ n q.l):ct q [e]=some ⟨(bV (q.l.map (l5 e))).isEmpty,bV (q.l.map (l5 e))⟩/\JQ (n+(e.text.length-(e.span.to-e.span.qO))) (q.l.map (l5 e)):=by
 constructor
 ·unfold ct;rw[show (0:Int)=((0:Nat):Int)from rfl,I8 e n he q hq hn q.l 0 [] rfl rfl];simp only[xe,z7,List.nil_append];rw[Gv _ (by simpa using hq)];rfl
 intro y hy;obtain⟨x,hx,rfl⟩:=List.mem_map.1 hy;have h1:=hn x hx;have h2:=iY x;have h3:=I9 e n he x.anchor (by omega) (by omega);have h4:=I9 e n he x.head (by omega) (by omega);unfold yU l5;simp only;constructor
 ·split<;>omega
 split<;>omega
end Xr
namespace Xr
def newText(b:qa)(e:qo):qa:=b.take e.span.qO.toNat++e.text++b.drop e.span.to.toNat
theorem ZU(b:qa)(e:qo)(he:gx e b.length):((newText b e).length:Int)=b.length+(e.text.length-(e.span.to-e.span.qO)):=by
 have:=he.a0;have:=he.ab;have:=he.bn;unfold newText;simp only[List.length_append,List.length_take,List.length_drop];omega
structure FU (P:qu->Prop) (b:qa) (e:qo) (ss:List qc) (top inst:Int) (v:qa×Sl qx×List qc×Sl (Sl (Sl Int))):Prop where
 text:v.1=newText b e
 ok:T3 P v.1 v.2.1 v.2.2.1 v.2.2.2
 len:v.2.2.1.length=ss.length
 cur: ∀(j:Nat) s,ss[j]? =some s-> ∃s',v.2.2.1[j]? =some s' /\s'.cur=s.cur
 top: ∀(t:Nat) s,top=t->inst≠ -1->ss[t]? =some s-> ∃s',v.2.2.1[t]? =some s' /\s'.insts.l.length=s.insts.l.length
section
variable {P:qu->Prop} (hP:Cored P) {b:qa} {q:Sl qx} {ss:List qc} {fl:Sl (Sl (Sl Int))}
include hP in
theorem TB(W:T3 P b q ss fl){e:qo}(he:gx e b.length)(hB:b.length+e.text.length<=2^39)(is ks:List Int)(ho:aY e ss is ks)(top inst:Int)(htop: ∀(t:Nat),top=t->inst≠ -1-> ∀a,is[t]? =some a->a≠ -1)
  {OU:List qc} {Yh:Sl (Sl (Sl Int))} (H:Laid e b.length ss is ss.length OU Yh):
  FU P b e ss top inst (newText b e,⟨(bV (q.l.map (l5 e))).isEmpty,bV (q.l.map (l5 e))⟩,OU,Yh):=by
 have hl:=ZU b e he;have hn:=(Gw e b.length he q (by have:=W.Wi;omega) W.XK).2;rw[<- hl]at hn;have hap:=lE _ _ hn;have JJ:=K1 (q.l.map (l5 e));have eN:=he.ab;have hd: ∀(j:Nat) s',OU[j]? =some s' -> ∃s f a,ss[j]? =some s/\Yh.l[j]? =some f/\is[j]? =some a/\VZ e b.length s a s' f:=by
  intro j s' eO;have hj:=(qG eO).1;obtain⟨s,hs⟩:=gl (l:=ss) (k:=j) (by have:=H.len;omega);obtain⟨s2,f,a,k1,k2,k3,k4⟩:=H.done j s (by have:=H.len;omega) hs;rw[eO]at k1;cases k1;exact⟨s,f,a,hs,k2,k3,k4⟩
 refine⟨rfl, ?_,H.len, ?_, ?_⟩
 ·refine⟨by simp only;omega,JJ.2 (by simpa using W.ne),by have:=W.Wi;have:=JJ.1;simp only[List.length_map]at this;simp only;omega,hap.1,hap.2,by rw[H.len];exact W.sB, ?_, ?_,by rw[H.Jz,H.len], ?_, ?_, ?_⟩
  ·intro s' eO;obtain⟨j,hj⟩:=jz eO;obtain⟨s,f,a,k1,k2,k3,k4⟩:=hd j s' hj;have Qk:=W.small s (qX k1);refine⟨by have:=k4.len;have:=Qk.1;omega,fun i hi=>?_⟩;obtain⟨i0,hi0,h1,_⟩:=k4.core i hi;have:=Qk.2 i0 hi0;omega
  ·intro s' eO;obtain⟨j,hj⟩:=jz eO;obtain⟨s,f,a,k1,k2,k3,k4⟩:=hd j s' hj;rw[hl];exact k4.may
  ·intro jv;refine H.fnn fun c=>?_;have:=H.len;rw[c]at this;exact jv (List.eq_nil_of_length_eq_zero (by simpa using this))
  ·intro j s' f eO hf;obtain⟨s,f2,a,k1,k2,k3,k4⟩:=hd j s' eO;rw[hf]at k2;cases k2;exact k4.fl
  intro s' eO i hi x hx;obtain⟨j,hj⟩:=jz eO;obtain⟨s,f,a,k1,k2,k3,k4⟩:=hd j s' hj;obtain⟨i0,hi0,_,h2⟩:=k4.core i hi;obtain⟨x0,hx0,h3⟩:=h2 x hx;exact hP x x0 h3 (W.stop s (qX k1) i0 hi0 x0 hx0)
 ·intro j s hs;obtain⟨s',f,a,k1,k2,k3,k4⟩:=H.done j s (qG hs).1 hs;exact⟨s',k1,k4.cur⟩
 intro t s ht sG hs;obtain⟨s',f,a,k1,k2,k3,k4⟩:=H.done t s (qG hs).1 hs;exact⟨s',k1,k4.all (htop t ht sG a k3)⟩
include hP in
theorem Mg(W:T3 P b q ss fl){e:qo}(he:gx e b.length)(hB:b.length+e.text.length<=2^39)(top inst stop:Int)(mark:Bool)
  (ho:(inst= -1/\stop= -1)\/ ∃(t:Nat)(s:qc),top=t/\ss[t]? =some s/\inst≠ -1/\OwnE e s inst stop):
  ∃v,jy top inst stop e mark b q ss fl=some v/\FU P b e ss top inst v:=by
 have DJ:=W.sB;have eN:=he.ab;have DK:=he.a0;have hbn:=he.bn;obtain⟨is0,ks0,g1,g2,g3,g4⟩:=lay_L0 mark b q ss fl (e:=e) top inst stop DJ ss.length 0 (List.replicate ss.length 0) (List.replicate ss.length 0) (by omega) (by simp) (by simp) (fun j hj=>by omega);have ho0:aY e ss is0 ks0:=by
  refine⟨g2,g3,fun j s hs=>?_⟩;have hj:=g4 j (qG hs).1;exact⟨-1,-1,hj.1,hj.2,.inl ⟨rfl,rfl⟩⟩
 have L0: ∀is:List Int,Laid e b.length ss is 0 ss fl:=by
  intro is;refine⟨rfl,W.Jz,W.fnn,fun j s hj=>(by omega),fun j s _ hs=>?_⟩;obtain⟨f,hf⟩:=gl (l:=fl.l) (k:=j) (by rw[W.Jz];exact(qG hs).1);exact⟨hs,f,hf,W.each j s f hs hf⟩
 have hmv:=(Gw e b.length he q (by have:=W.Wi;omega) W.XK).1;have c1:kx b e.span.qO=some (b.take e.span.qO.toNat):=by
  obtain⟨r,k1,k2,_⟩:=qB.kx (l:=b) DK (by omega);rw[k1,k2]
 have c2:bX b e.span.to=some (b.drop e.span.to.toNat):=by
  obtain⟨r,k1,k2,_⟩:=qB.bX (l:=b) (lo:=e.span.to) (by omega) (by omega);rw[k1,k2]
 have hbl:=W.blen;have r1:(b.take e.span.qO.toNat).length+e.text.length<=2^62:=by simp;omega
 have r2:(b.take e.span.qO.toNat++e.text).length+(b.drop e.span.to.toNat).length<=2^62:=by simp;omega
 unfold jy;rw[if_pos (by simp),if_pos (qC (by simp;omega) (by omega)),if_pos (by simp),if_pos (qC (by simp;omega) (by omega))];simp only[Int.toNat_natCast];rw[show (0:Int)=((0:Nat):Int)from rfl,show List.replicate ss.length ((0:Nat):Int)=List.replicate ss.length 0 from rfl,g1];simp only[xe,z7];rcases ho with ⟨rfl,rfl⟩|⟨t,s,rfl,hs,sG,how⟩
 ·rw[if_neg (by simp)];obtain⟨OU,Yh,k1,k2⟩:=lay_L42 mark b q b.length he ss DJ W.small W.may is0 ks0 ho0 top ss.length 0 fl ss (by omega) (L0 is0);rw[k1];simp only[z7,c1,c2,hmv];rw[if_pos r1,if_pos r2];exact⟨_,rfl,TB hP W he hB is0 ks0 ho0 top (-1) (fun t _ h=>absurd rfl h) k2⟩
 rcases how with ⟨h,_⟩|⟨a',k',i,x,rfl,rfl,h1,h2,h3⟩
 ·exact absurd h sG
 have htl:=(qG hs).1;rw[if_pos (by simp),gi (g4 t htl).1,gi (g4 t htl).2,gi hs];simp only[z7];rw[gi h1];simp only[z7,Int.toNat_natCast];have tR:=qX hs;have hin' :=(W.may s tR).may a' i h1 |>.inside k' x h2;have ho1:aY e ss (is0.set t (a' :Int)) (ks0.set t (k' :Int)):=by
  refine⟨by simp[g2],by simp[g3],fun j s' eO=>?_⟩;rw[xP,xP];by_cases c:t=j
  ·subst c;rw[hs]at eO;cases eO;rw[if_pos ⟨rfl,by omega⟩,if_pos ⟨rfl,by omega⟩];exact⟨_,_,rfl,rfl,.inr ⟨a',k',i,x,rfl,rfl,h1,h2,h3⟩⟩
  rw[if_neg (by omega),if_neg (by omega)];exact ho0.2.2 j s' eO
 obtain⟨BL,Cd,at',m1,m2,m3⟩:=lay_L2 mark b q ss fl (t:Int) W.small (fun s hs=>⟨_,W.may s hs⟩) t (is0.set t (a' :Int)) (ks0.set t (k' :Int)) i.span (by omega) (by omega) (eM h3 ⟨hin'.1,hin'.2⟩) ho1;rw[show IntKind.i64.wrap ((t:Int)-1)=(t:Int)-1 from qI (by omega) (by omega),m1];simp only[z7];obtain⟨OU,Yh,k1,k2⟩:=lay_L4 mark b q b.length he ss DJ W.small W.may BL Cd m2 (t:Int)at' ss.length 0 fl ss (by omega) (L0 BL);rw[k1];simp only[z7,c1,c2,hmv];rw[if_pos r1,if_pos r2];refine⟨_,rfl,TB hP W he hB BL Cd m2 (t:Int) (a' :Int) (fun t' ht' _ a ha=>?_) k2⟩;obtain rfl:t=t' :=by omega
 rw[m3 t (xJ _),xP,if_pos ⟨rfl,by omega⟩]at ha;cases ha;omega
end
end Xr
namespace Xr
theorem QY(n:Int)(l:List Int)(hl:l.length<2^60):qB (nA n l) (fun _=>True):=by
 have loop: ∀(d k:Nat),k+d=l.length->qB (yK (n,(k:Int),l)) (fun _=>True):=by
  intro d;induction d with
  |zero=>intro k h;rw[yK.eq_1,if_neg (by simp;omega)];exact .ret trivial
  |succ d ih=>
   intro k h;obtain⟨x,hx⟩:=gl (l:=l) (k:=k) (by omega);rw[yK.eq_1,if_pos (by simp;omega),ws (by omega)];refine .go (gi hx) ?_;split
   ·exact .ret trivial
   exact ih (k+1) (by omega)
 unfold nA;refine .bind (loop l.length 0 (by omega)) fun v _=>?_;rcases v with v|v<;>exact .ret trivial
theorem in_tot(l:Sl qu)(b:Int): ∀(m:Nat)(a:Int),m=(a+1).toNat->qB (sj l a b) (fun _=>True):=by
 have loop: ∀(m:Nat)(a:Int),m=(a+1).toNat->qB (gq (l,a,b)) (fun _=>True):=by
  intro m;induction m using Nat.strongRecOn with
  |_ m ih=>
  intro a hm;rw[gq.eq_1];by_cases c:0<=a/\a<(l.l.length:Int)
  ·obtain⟨k,rfl⟩: ∃k:Nat,a=k:=⟨a.toNat,by omega⟩;obtain⟨x,hx⟩:=gl (l:=l.l) (k:=k) (by omega);rw[if_pos (by simp;omega)];refine .go (gi hx) ?_;refine .ite (fun c1=>?_) fun _=> .ret trivial;refine .ite (fun c2=>?_) fun _=> .ret trivial;refine .ite (fun _=> .ret trivial) fun _=>?_;simp only[decide_eq_true_eq]at c1 c2;exact ih (x.up+1).toNat (by omega) x.up rfl
  rw[if_neg (by simp only[zB,decide_eq_true_eq];omega)];exact .ret trivial
 intro m a hm;unfold sj;refine .bind (loop m a hm) fun v _=>?_;rcases v with v|v<;>exact .ret trivial
theorem AO(l:Sl qu)(n:Int)(zE:List Int)(hl:l.l.length<2^60)(ht:zE.length<2^60):qB (de l n zE) (fun _=>True):=by
 have ES: ∀(a:Int)(d k:Nat),k+d=l.l.length->qB (yd (l,n,a,(k:Int),zE)) (fun _=>True):=by
  intro a d;induction d with
  |zero=>intro k h;rw[yd.eq_1,if_neg (by simp;omega)];exact .ret trivial
  |succ d ih=>
   intro k h;obtain⟨x,hx⟩:=gl (l:=l.l) (k:=k) (by omega);rw[yd.eq_1,if_pos (by simp;omega),ws (by omega)];refine .go (gi hx) ?_;refine .ite (fun _=>?_) fun _=>ih (k+1) (by omega);refine .bind (in_tot l _ _ a rfl) fun v _=>?_;exact .ite (fun _=> .ret trivial) fun _=>ih (k+1) (by omega)
 have loop: ∀(d k:Nat),k+d=l.l.length->qB (wD (l,n,(k:Int),zE)) (fun _=>True):=by
  intro d;induction d with
  |zero=>intro k h;rw[wD.eq_1,if_neg (by simp;omega)];exact .ret trivial
  |succ d ih=>
   intro k h;obtain⟨x,hx⟩:=gl (l:=l.l) (k:=k) (by omega);rw[wD.eq_1,if_pos (by simp;omega),ws (by omega)];refine .go (gi hx) ?_;refine .ite (fun _=>ih (k+1) (by omega)) fun _=>?_;refine .bind (QY x.n zE ht) fun v _=>?_;refine .ite (fun _=>ih (k+1) (by omega)) fun _=>?_;refine .bind (ES (k:Int) l.l.length 0 (by omega)) fun w _=>?_;rcases w with w|w
   ·exact .ret trivial
   exact ih (k+1) (by omega)
 unfold de;refine .bind (loop l.l.length 0 (by omega)) fun v _=>?_;rcases v with v|v<;>exact .ret trivial
theorem TX(ns:Sl Int)(n:Int)(hl:ns.l.length<=2^28):qB (pq ns n) (fun r=>r.l.length<=ns.l.length+1/\(∀ x∈r.l,x=n\/x∈ns.l)/\n∈r.l/\ ∀x∈ns.l,x∈r.l):=by
 have loop: ∀(d k:Nat),k+d=ns.l.length->qB (gQ (ns,n,(k:Int))) (fun v=> ∃j:Nat,v=j/\j<=ns.l.length):=by
  intro d;induction d with
  |zero=>intro k h;rw[gQ.eq_1,if_neg (by simp;omega)];exact .ret ⟨k,rfl,by omega⟩
  |succ d ih=>
   intro k h;obtain⟨x,hx⟩:=gl (l:=ns.l) (k:=k) (by omega);rw[gQ.eq_1,if_pos (by simp;omega),ws (by omega)];refine .go (gi hx) ?_;exact .ite (fun _=>ih (k+1) (by omega)) fun _=> .ret ⟨k,rfl,by omega⟩
 unfold pq;refine .bind (loop ns.l.length 0 (by omega)) fun v hv=>?_;obtain⟨j,rfl,hj⟩:=hv;have mid:(ns.l.take j++[n]++ns.l.drop j).length<=ns.l.length+1/\(∀ x∈ns.l.take j++[n]++ns.l.drop j,x=n\/x∈ns.l)/\n∈ns.l.take j++[n]++ns.l.drop j/\ ∀x∈ns.l,x∈ns.l.take j++[n]++ns.l.drop j:=by
  refine⟨by simp;omega,fun x hx=>?_,by simp,fun x hx=>?_⟩
  ·simp only[List.mem_append,List.mem_singleton]at hx;rcases hx with (hx|hx)|hx
   ·exact .inr (List.mem_of_mem_take hx)
   ·exact .inl hx
   exact .inr (List.mem_of_mem_drop hx)
  rw[<- List.take_append_drop j ns.l]at hx;simp only[List.mem_append,List.mem_singleton]at hx |-;rcases hx with hx|hx
  ·exact .inl (.inl hx)
  exact .inr hx
 have r1:qg (ns.l.take j).length 8=true:=qC (by simp;omega) (by omega);have r2:qg ((ns.l.take j).length+1) 8=true:=qC (by simp;omega) (by omega);have r3:qg ((ns.l.take j++[n]).length+(ns.l.drop j).length) 8=true:=qC (by simp;omega) (by omega);refine .ite (fun c=>?_) fun _=>?_
 ·obtain⟨x,hx⟩:=gl (l:=ns.l) (k:=j) (by simp at c;omega);refine .go (gi hx) ?_;refine .ite (fun c2=>?_) fun _=>?_
  ·refine .ret ⟨by omega,fun y hy=> .inr hy, ?_,fun y hy=>hy⟩;have:=qX hx;simp only[beq_iff_eq]at c2;rw[<- c2];exact this
  refine .go (Xg _ _ hj) ?_;refine .zm r1 (qB.zm r2 ?_);refine .go (AB _ _ hj) ?_;exact .zm r3 (.ret mid)
 refine .go (Xg _ _ hj) ?_;refine .zm r1 (qB.zm r2 ?_);refine .go (AB _ _ hj) ?_;exact .zm r3 (.ret mid)
theorem Cq(i:qw)(hl:i.stops.l.length<=2^12):qB (sk i) (fun r=>r.l.length<=2^12):=by
 have loop0: ∀(d k:Nat)(a:Sl Int),k+d=i.stops.l.length->a.l.length<=k->qB (yH (a,(k:Int),i)) (fun r=>r.l.length<=i.stops.l.length):=by
  intro d;induction d with
  |zero=>intro k a h ha;rw[yH.eq_1,if_neg (by simp;omega)];exact .ret (by omega)
  |succ d ih=>
   intro k a h ha;obtain⟨x,hx⟩:=gl (l:=i.stops.l) (k:=k) (by omega);rw[yH.eq_1,if_pos (by simp;omega),ws (by omega)];refine .go (gi hx) ?_;refine .bind (TX a x.n (by omega)) fun v hv=>?_;exact ih (k+1) v (by omega) (by omega)
 have loop4: ∀(a:Sl Int)(zE:List Int),a.l.length<=2^12->zE.length<=2^12-> ∀(d k:Nat)(next:Int)(f:Bool),k+d=a.l.length->qB (kK (a,next,f,(k:Int),i,zE)) (fun _=>True):=by
  intro a zE ha ht d;induction d with
  |zero=>intro k next f h;rw[kK.eq_1,if_neg (by simp;omega)];exact .ret trivial
  |succ d ih=>
   intro k next f h
   obtain⟨x,hx⟩:=gl (l:=a.l) (k:=k) (by omega);rw[kK.eq_1,ws (by omega)];refine .ite (fun _=>?_) fun _=> .ret trivial;refine .go (gi hx) ?_;refine .bind (QY x zE (by omega)) fun v _=>?_;refine .ite (fun _=>?_) fun _=>ih (k+1) _ _ (by omega);refine .bind (AO i.stops x zE (by omega) (by omega)) fun w _=>?_;exact .ite (fun _=>ih (k+1) _ _ (by omega)) fun _=>ih (k+1) _ _ (by omega)
 have loop6: ∀(a:Sl Int)(zE:List Int),a.l.length<=2^12->zE.length<=2^12-> ∀(d k:Nat)(next:Int)(f:Bool),k+d=a.l.length->qB (wL (a,next,f,(k:Int),i,zE)) (fun _=>True):=by
  intro a zE ha ht d;induction d with
  |zero=>intro k next f h;rw[wL.eq_1,if_neg (by simp;omega)];exact .ret trivial
  |succ d ih=>
   intro k next f h
   obtain⟨x,hx⟩:=gl (l:=a.l) (k:=k) (by omega);rw[wL.eq_1,ws (by omega)];refine .ite (fun _=>?_) fun _=> .ret trivial;refine .go (gi hx) ?_;refine .bind (QY x zE (by omega)) fun v _=>?_;exact .ite (fun _=>ih (k+1) _ _ (by omega)) fun _=>ih (k+1) _ _ (by omega)
 have ES: ∀(a:Sl Int),a.l.length<=2^12-> ∀(d:Nat)(zE:List Int),zE.length+d=a.l.length->qB (yI (a,i,zE)) (fun r=>r.length<=2^12):=by
  intro a ha d;induction d with
  |zero=>intro zE h;rw[yI.eq_1,if_neg (by simp;omega)];exact .ret (by omega)
  |succ d ih=>
   intro zE h;rw[yI.eq_1,if_pos (by simp;omega)];refine .bind (loop4 a zE ha (by omega) a.l.length 0 _ _ (by omega)) fun v _=>?_;refine .bind (loop6 a zE ha (by omega) a.l.length 0 _ _ (by omega)) fun w _=>?_;refine .zm qC ?_;exact ih _ (by simp;omega)
 unfold sk;refine .bind (loop0 i.stops.l.length 0 ⟨true,[]⟩ (by omega) (by simp)) fun v hv=>?_;refine .bind (ES v (by omega) v.l.length [] (by simp)) fun w hw=>?_;exact .ret hw
def Nf(m:Nat)(r:Int):Prop:=r<0\/ ∃j:Nat,r=j/\j<m
def SrcQ(m:Nat)(v:(Int×Int×Int)⊕(Int×Int)):Prop:=match v with| .inl w=>Nf m w.1| .inr w=>Nf m w.1/\Nf m w.2
theorem Pv(i:qw)(n:Int)(held:Sl Bool)(hl:i.stops.l.length<2^60):qB (t7 i n held) (fun r=>r<0\/ ∃(k:Nat)(x:qu),r=k/\i.stops.l[k]? =some x):=by
 have ok: ∀(r:Int),Nf i.stops.l.length r->(r<0\/ ∃(k:Nat)(x:qu),r=k/\i.stops.l[k]? =some x):=by
  intro r h;rcases h with h|⟨k,h1,h2⟩
  ·exact .inl h
  obtain⟨x,hx⟩:=gl h2;exact .inr ⟨k,x,h1,hx⟩
 have loop: ∀(d k:Nat)(f a:Int),k+d=i.stops.l.length->Nf i.stops.l.length f->Nf i.stops.l.length a->
   qB (zA (n,held,f,a,(k:Int),i)) (SrcQ i.stops.l.length):=by
  intro d;induction d with
  |zero=>intro k f a h hf ha;rw[zA.eq_1,if_neg (by simp;omega)];exact .ret (show SrcQ _ (.inr (f,a))from⟨hf,ha⟩)
  |succ d ih=>
   intro k f a h hf ha;obtain⟨x,hx⟩:=gl (l:=i.stops.l) (k:=k) (by omega);have hk:Nf i.stops.l.length (k:Int):= .inr ⟨k,rfl,by omega⟩;rw[zA.eq_1,if_pos (by simp;omega),ws (by omega)];refine .go (gi hx) ?_;refine .ite (fun _=>ih (k+1) f a (by omega) hf ha) fun _=>?_;have rest: ∀(f' a' :Int),(f' =f\/f' =k)->(a' =a\/a' =k)->qB (zA (n,held,f',a',((k+1:Nat):Int),i)) (SrcQ i.stops.l.length):=fun f' a' h1 h2=>
    ih (k+1) f' a' (by omega) (h1.elim (fun e=>e ▸ hf) (fun e=>e ▸ hk)) (h2.elim (fun e=>e ▸ ha) (fun e=>e ▸ hk))
   refine .ite (fun c=>?_) fun _=>?_
   ·obtain⟨hb,hhb⟩:=gl (l:=held.l) (k:=k) (by simp at c;omega);refine .go (gi hhb) ?_;refine .ite (fun _=> .ret (show SrcQ _ (.inl _)from hk)) fun _=>?_;refine .ite (fun _=>?_) fun _=>?_
    ·exact .ite (fun _=>rest _ _ (.inr rfl) (.inr rfl)) fun _=>rest _ _ (.inr rfl) (.inl rfl)
    exact .ite (fun _=>rest _ _ (.inl rfl) (.inr rfl)) fun _=>rest _ _ (.inl rfl) (.inl rfl)
   refine .ite (fun _=>?_) fun _=>?_
   ·exact .ite (fun _=>rest _ _ (.inr rfl) (.inr rfl)) fun _=>rest _ _ (.inr rfl) (.inl rfl)
   exact .ite (fun _=>rest _ _ (.inl rfl) (.inr rfl)) fun _=>rest _ _ (.inl rfl) (.inl rfl)
 unfold t7;refine .bind (loop i.stops.l.length 0 (-1) (-1) (by omega) (.inl (by omega)) (.inl (by omega))) fun v hv=>?_;rcases v with v|v
 ·exact .ret (ok _ hv)
 exact .ite (fun _=> .ret (ok _ hv.1)) fun _=> .ret (ok _ hv.2)
end Xr
set_option maxHeartbeats 1000000
def qK:List Nat->Nat
 |[]=>0
 |a::r=>a+qK r
theorem gu: ∀a b:List Nat,qK (a++b)=qK a+qK b
 |[],b=>by simp[qK]
 |x::a,b=>by simp only[List.cons_append,qK,gu a b];omega
theorem Bx: ∀{l:List Nat}{x:Nat},x∈l->x<=qK l
 |y::l,x,h=>by
  simp only[qK];rcases List.mem_cons.1 h with rfl|h
  ·omega
  have:=Bx h;omega
theorem xg{α:Type}{f:α->Nat}(hf: ∀a,1<=f a): ∀l:List α,l.length<=qK (l.map f)
 |[]=>by simp[qK]
 |a::l=>by
  have:=xg hf l;have:=hf a;simp only[List.map_cons,qK,List.length_cons];omega
theorem jS{α:Type}(f:α->Nat)(l:List α)(a:α):qK ((l++[a]).map f)=qK (l.map f)+f a:=by
 rw[List.map_append,gu];simp[qK]
theorem xA{α:Type}{f:α->Nat}{l:List α}{a:α}(h:a∈l):f a<=qK (l.map f):=Bx (List.mem_map.2 ⟨a,h,rfl⟩)
theorem o0{α:Type}(f:α->Nat): ∀(l:List α)(i:Nat)(a x:α),l[i]? =some x->qK ((l.set i a).map f)+f x=qK (l.map f)+f a
 |y::l,0,a,x,h=>by
  simp only[List.getElem?_cons_zero,kX]at h;subst h;simp only[List.set_cons_zero,List.map_cons,qK];omega
 |y::l,i+1,a,x,h=>by
  simp only[List.getElem?_cons_succ]at h;have:=o0 f l i a x h;simp only[List.set_cons_succ,List.map_cons,qK];omega
def ej(f:zl):Nat:=1+f.i9.length+f.oI.length
theorem XD(x:zl):1<=ej x:=by unfold ej;omega
theorem K3(w:Int):qB (rh w) (fun r=>r.length<=20):=by
 unfold rh
 repeat' (first|(refine .tI ?_ ?_<;>intro hT)|exact .ret (by decide))
theorem GM(s:qa)(hs:s.length<=BN)(e:Int)(h0:0<=e)(h1:e+1<s.length)(t f:zl): ∀(m:Nat)(w:Int),m=(6-w).toNat->1<=w->
  qB (uE (s,e,w,t,f)) (fun r=> ∀y,r= .inl y->e<y.1/\y.1<=s.length/\ej y.2.2.1=ej f/\y.2.1=true):=by
 unfold BN at hs;intro m;induction m using Nat.strongRecOn with
 |_ m ih=>
 intro w hm h2;rw[uE.eq_1];have:= @K3;exact tW
theorem Jd(s:qa)(hs:s.length<=BN)(qk:Int)(h0:0<=qk)(h1:qk<s.length)(c:Bool):qB (mQ s qk c) (fun r=>r=true->qk+1<s.length):=by
 unfold BN at hs;unfold mQ;exact tW
theorem Yw(s:qa)(hs:s.length<=BN)(stop:UInt8): ∀(m:Nat)(qk:Int)(b:List UInt8),m=(s.length-qk).toNat->0<=qk->qk<=s.length->b.length<=BN->(b.length:Int)<=qk->
  qB (yA (s,qk,stop,b)) (fun r=>qk<=r.1/\r.1<=s.length/\(r.2.length:Int)+qk<=b.length+r.1):=by
 unfold BN at hs;intro m;induction m using Nat.strongRecOn with
 |_ m ih=>
 intro qk b hm h0 h1 hb hb2;rw[yA.eq_1];have:= @Jd;exact tW
theorem fU(s:qa)(hs:s.length<=BN)(qk:Int)(h0:0<=qk)(h1:qk<=s.length)(stop:UInt8):
  qB (uh s qk stop) (fun r=>r.2.2=true->qk<=r.2.1/\r.2.1<s.length/\(r.1.length:Int)+qk<=r.2.1):=by
 unfold uh;have:= @Yw;exact tW
set_option maxHeartbeats 2000000 in
theorem MI(s:qa)(hs:s.length<=BN)(qk:Int)(h0:0<=qk)(h1:qk<s.length):
  qB (cZ s qk) (fun r=>r.2.2=true->qk+1<r.2.1/\r.2.1<=s.length/\(ej r.1:Int)+qk+1<=r.2.1):=by
 have hB:s.length<=8192:=hs;unfold cZ
 (repeat (first|(rw [qI];rotate_left;omega;omega)|(rw [xp];rotate_left;omega;omega)))
 refine .bind (cL s hs (qk+1) (by omega) (by omega)) fun v hv=>?_;refine .tI ?_ ?_<;>intro hT
 ·have hc:=hT;have:=hv.2.2 hc;exact .ret fun _=>⟨by simp only;omega,by simp only;omega,by simp only[ej,List.length_nil];omega⟩
 refine .tI ?_ ?_<;>intro hT
 ·exact .ret (by simp)
 refine .bind .get fun b hb=>?_;refine .tI ?_ ?_<;>intro hT
 ·exact .ret (by simp)
 refine .bind (cL s hs (qk+2) (by omega) (by omega)) fun w hw=>?_;refine .tI ?_ ?_<;>intro hT
 ·exact .ret (by simp)
 have hc:=hT;have Tt:=hw.2.2 (by simpa using hc.1);refine .bind .get fun b2 hb2=>?_
 (repeat (first|(rw [qI];rotate_left;omega;omega)|(rw [xp];rotate_left;omega;omega)))
 refine .tI ?_ ?_<;>intro hT
 ·exact .ret fun _=>⟨by simp only;omega,by simp only;omega,by simp only[ej,List.length_nil];omega⟩
 refine .tI ?_ ?_<;>intro hT
 ·exact .ret (by simp)
 refine .bind .get fun b3 hb3=>?_;refine .tI ?_ ?_<;>intro hT
 ·refine .bind (GM s hs w.2.1 (by omega) (by omega) _ _ _ 1 rfl (by omega)) fun y hy=>?_;rcases y with y|y
  ·obtain⟨g1,g2,g3,g4⟩:=hy y rfl;refine .ret fun _=>?_;simp only[ej,List.length_nil]at g3 |-;omega
  exact .ret (by simp)
 (repeat (first|(rw [qI];rotate_left;omega;omega)|(rw [xp];rotate_left;omega;omega)))
 refine .tI ?_ ?_<;>intro hT
 ·refine .bind (fU s hs (w.2.1+2) (by omega) (by omega) 125) fun y hy=>?_;refine .tI ?_ ?_<;>intro hT
  ·exact .ret (by simp)
  have hc:=hT;have hy:=hy hc
  (repeat (first|(rw [qI];rotate_left;omega;omega)|(rw [xp];rotate_left;omega;omega)))
  refine .ret fun _=>?_;simp only[ej,List.length_nil];omega
 refine .tI ?_ ?_<;>intro hT
 ·refine .bind (fU s hs (w.2.1+2) (by omega) (by omega) 58) fun y hy=>?_;refine .tI ?_ ?_<;>intro hT
  ·have hc:=hT;have hy:=hy hc
   (repeat (first|(rw [qI];rotate_left;omega;omega)|(rw [xp];rotate_left;omega;omega)))
   refine .bind (fU s hs (y.2.1+1) (by omega) (by omega) 125) fun z hz=>?_;refine .tI ?_ ?_<;>intro hT
   ·exact .ret (by simp)
   have hc:=hT;have hz:=hz hc
   (repeat (first|(rw [qI];rotate_left;omega;omega)|(rw [xp];rotate_left;omega;omega)))
   refine .ret fun _=>?_;simp only[ej];omega
  exact .ret (by simp)
 refine .tI ?_ ?_<;>intro hT
 ·refine .bind (fU s hs (w.2.1+2) (by omega) (by omega) 125) fun y hy=>?_;refine .tI ?_ ?_<;>intro hT
  ·exact .ret (by simp)
  have hc:=hT;have hy:=hy hc
  (repeat (first|(rw [qI];rotate_left;omega;omega)|(rw [xp];rotate_left;omega;omega)))
  refine .ret fun _=>?_;simp only[ej,List.length_nil];omega
 refine .bind (fU s hs (w.2.1+1) (by omega) (by omega) 125) fun y hy=>?_;refine .tI ?_ ?_<;>intro hT
 ·exact .ret (by simp)
 have hc:=hT;have hy:=hy hc
 (repeat (first|(rw [qI];rotate_left;omega;omega)|(rw [xp];rotate_left;omega;omega)))
 refine .ret fun _=>?_;simp only[ej,List.length_nil];omega
theorem last_eq{α:Type}(l:List α)(a:α):(((l++[a]).length:Int)-1).toNat=l.length:=by simp
theorem OD{α:Type}(l:List α)(a b:α):(l++[a]).set l.length b=l++[b]:=by simp
theorem PG(c:UInt8)(fs:List zl)(hf:qK (fs.map ej)<=4*BN):
  qB (nw c fs) (fun r=>qK (r.map ej)<=qK (fs.map ej)+2):=by
 unfold BN at hf;have hl:=xg XD fs;have key: ∀z:zl,z.i9=[]->z.oI=[]->qB (qi (fs++[z]) (IntKind.i64.wrap (((fs++[z]).length:Int)-1))) (fun x=>x=z):=by
  intro z h1 h2;have:IntKind.i64.wrap (((fs++[z]).length:Int)-1)=(fs.length:Int):=by
   rw[qI (by simp only[List.length_append,List.length_cons,List.length_nil];omega) (by simp only[List.length_append,List.length_cons,List.length_nil];omega)];simp
  rw[this];refine(qB.get (by omega) (by simp only[List.length_append,List.length_cons,List.length_nil];omega)).mono fun x hx=>?_;have:=hx.1;simp at this;exact this.symm
 have snd: ∀(z y:zl),z.i9=[]->z.oI=[]->y.i9=[c]->y.oI=[]->qK (((fs++[z]).set (IntKind.i64.wrap (((fs++[z]).length:Int)-1)).toNat y).map ej)<=qK (fs.map ej)+2:=by
  intro z y h1 h2 h3 h4;rw[qI (by simp only[List.length_append,List.length_cons,List.length_nil];omega) (by simp only[List.length_append,List.length_cons,List.length_nil];omega),last_eq,OD,jS];simp[ej,h3,h4]
 unfold nw;refine .tI ?_ ?_<;>intro hT
 ·refine .zm qC ?_;refine .bind (key _ rfl rfl) fun x hx=>?_;subst hx;refine .zm (by simp) ?_;exact .ret (snd _ _ rfl rfl (by simp) rfl)
 have e1:IntKind.i64.wrap ((fs.length:Int)-1)=(fs.length:Int)-1:=qI (by omega) (by omega);rw[e1];refine .bind .get fun x hx=>?_;have Ev:=xA (f:=ej) hx.2;refine .tI ?_ ?_<;>intro hT
 ·refine .zm qC ?_;refine .bind (key _ rfl rfl) fun x hx=>?_;subst hx;refine .zm (by simp) ?_;exact .ret (snd _ _ rfl rfl (by simp) rfl)
 refine .zm (by simp only[ej]at Ev;simp;omega) ?_;refine .ret ?_;have:=o0 ej fs ((fs.length:Int)-1).toNat (zl.mk x.kind x.n x.WG (x.i9++[c]) x.oI) x hx.1;simp only[ej,List.length_append,List.length_cons,List.length_nil]at this |-;have e2:qK (List.map (fun f=>1+f.i9.length+f.oI.length) (fs.set ((fs.length:Int)-1).toNat (zl.mk x.kind x.n x.WG (x.i9++[c]) x.oI)))=qK (List.map ej (fs.set ((fs.length:Int)-1).toNat (zl.mk x.kind x.n x.WG (x.i9++[c]) x.oI))):=rfl;omega
theorem Wj(s:qa)(hs:s.length<=BN): ∀(m:Nat)(qk:Int)(fs:List zl),m=(s.length-qk).toNat->0<=qk->qk<=s.length->(qK (fs.map ej):Int)<=2*qk->
  qB (kA (s,qk,fs)) (fun r=>qk<=r.1/\r.1<=s.length/\(qK (r.2.map ej):Int)+2*qk<=qK (fs.map ej)+2*r.1):=by
 have hB:s.length<=8192:=hs;intro m;induction m using Nat.strongRecOn with
 |_ m ih=>
 intro qk fs hm h0 h1 hw;have hl:=xg XD fs;rw[kA.eq_1];have:= @PG;have:= @MI;have:= @jS;have:= @Jd;exact tW
theorem MR(s:qa)(hs:s.length<=BN)(qk:Int):
  qB (cY s qk) (fun r=>r.2.2=true->0<=qk/\qk<=r.2.1/\r.2.1<s.length/\(qK (r.1.l.map ej):Int)<=2*(r.2.1-qk)):=by
 unfold cY;refine .tI ?_ ?_<;>intro hT
 ·exact .ret (by simp)
 refine .bind (Wj s hs _ qk [] rfl (by omega) (by omega) (by simp[qK];omega)) fun v hv=>?_;refine .tI ?_ ?_<;>intro hT
 ·exact .ret (by simp)
 refine .ret fun _=>?_;simp only[List.map_nil,qK]at hv |-;omega
def uv(r:qT):Nat:=1+r.qO.length+r.to.length
theorem sx(r:qT):1<=uv r:=by unfold uv;omega
mutual
def tq:qF->Nat
 |⟨_,c,_,rows,_,_,_,qy⟩=>1+c.length+qK (rows.l.map uv)+rxWS qy
def rxWS:Sl qF->Nat
 |⟨_,l⟩=>Oy l
def Oy:List qF->Nat
 |[]=>0
 |x::r=>tq x+Oy r
end
theorem Bh: ∀l:List qF,Oy l=qK (l.map tq)
 |[]=>by simp[Oy,qK]
 |x::r=>by simp[Oy,qK,Bh r]
theorem vS(x:qF):tq x=1+x.char.length+qK (x.rows.l.map uv)+qK (x.qy.l.map tq):=by
 cases x with|mk a b c d e f g h=>cases h;simp[tq,rxWS,Bh]
theorem eG(x:qF):1<=tq x:=by rw[vS];omega
theorem rU(b:UInt8):qB (vh b) (fun _=>True):=by
 unfold vh
 repeat' (first|(refine .tI ?_ ?_<;>intro hT)|exact .ret trivial)
theorem Ul(s:qa)(hs:s.length<=BN): ∀(m:Nat)(f i:Int)(l:List qa),m=(s.length+1-i).toNat->0<=f->f<i->i<=s.length+1->(l.length:Int)<=f->(∀ c∈l,c.length<=s.length)->
  qB (zy (s,f,i,l)) (fun r=>r.length<=s.length+1/\ ∀c∈r,c.length<=s.length):=by
 have hB:s.length<=8192:=hs;intro m;induction m using Nat.strongRecOn with
 |_ m ih=>
 intro f i l hm h0 h1 h2 h3 h4;rw[zy.eq_1];have more:i<=s.length-> ∀r:qa,(r.length:Int)=i-f-> ∀c∈l++[r],c.length<=s.length:=by
  intro hi r hr c hc;rcases List.mem_append.1 hc with hc|hc
  ·exact h4 c hc
  have:c=r:=by simpa using hc
  subst this;omega
 refine .tI ?_ ?_<;>intro hT
 ·refine .tI ?_ ?_<;>intro hT
  ·exact tW
  refine .bind .get fun b hb=>?_;refine .bind (rU b) fun v hv=>?_;refine .tI ?_ ?_<;>intro hT
  ·exact tW
  (repeat (first|(rw [qI];rotate_left;omega;omega)|(rw [xp];rotate_left;omega;omega)))
  exact ih _ (by omega) f (i+1) _ rfl (by omega) (by omega) (by omega) (by omega) h4
 exact .ret ⟨by show l.length<=_;omega,h4⟩
theorem VP(s:qa)(hs:s.length<=BN):qB (vX s) (fun r=>r.l.length<=s.length+1/\ ∀c∈r.l,c.length<=s.length):=by
 unfold vX;have:= @zy.eq_1;have:= @Ul;exact tW
theorem lF(c:qa)(hc:c.length<=BN):qB (jf c) (fun _=>True):=by
 unfold jf;refine .tI ?_ ?_<;>intro hT
 ·refine .bind .get fun b hb=>?_;refine .bind (rU b) fun v hv=>?_;have:= @VP;exact tW
 exact .ret trivial
theorem HW: ∀(m:Nat)(i:Int)(b:List UInt8),m=(b.length-i).toNat->0<=i->b.length<=BN->qB (kz (i,b)) (fun r=>r.length=b.length):=by
 intro m;induction m using Nat.strongRecOn with
 |_ m ih=>
 intro i b hm h0 hb;have hB:b.length<=8192:=hb;rw[kz.eq_1];exact tW
theorem AN(s:qa)(hs:s.length<=BN):qB (uC s) (fun r=>r.length=s.length):=by
 unfold uC;have:= @HW;exact tW
theorem Ve(c:UInt8):qB (ph c) (fun r=>qK (r.1.l.map uv)<=12):=by
 unfold ph
 repeat' (first|(refine .tI ?_ ?_<;>intro hT)|exact .ret (by decide))
theorem Jt(c:qa):qB (wA c) (fun r=>r.1.length<=c.length+1/\(r.2=true->0<c.length)):=by
 unfold wA;refine .tI ?_ ?_<;>intro hT
 ·exact .ret (by simp)
 have h0:=hT;have h1:0<c.length:=List.length_pos_iff.2 h0
 repeat' (first|(refine .tI ?_ ?_<;>intro hT)|exact .ret ⟨by simp,fun _=>h1⟩)
 refine .bind .get fun b hb=>?_;refine .bind (mO b) fun v hv=>?_;refine .tI ?_ ?_<;>intro hT
 ·exact .ret (by simp)
 refine .bind (bL b) fun w hw=>?_;refine .tI ?_ ?_<;>intro hT
 ·exact .ret (by simp)
 exact .ret ⟨by simp,fun _=>h1⟩
structure Q0 (cs:Sl qa):Prop where
 many:cs.l.length<=257
 each: ∀c∈cs.l,c.length<=256
theorem sY{cs:Sl qa}(hc:Q0 cs)(b:qd)(h:b.cs=cs)(h0:0<=b.qk):
  qB (zU b) (fun r=>r.length<=256/\(r≠[]->b.qk<cs.l.length)):=by
 unfold zU;rw[h];refine .tI ?_ ?_<;>intro hT
 ·exact .ret (by simp)
 refine .bind (qB.get h0 (by omega)) fun x hx=>?_;exact .ret ⟨hc.each x hx.2,fun _=>by omega⟩
theorem KB{cs:Sl qa}(hc:Q0 cs)(c:qa)(b:qd)(h:b.cs=cs)(h0:0<=b.qk):
  qB (qH c b) (fun r=>r.2.cs=cs/\(r.1=true->r.2.qk=b.qk+1/\b.qk<cs.l.length)/\(r.1=false->r.2=b)):=by
 have hm:=hc.many;unfold qH;exact tW
def me(rows:List qT):Prop:= ∀r∈rows,r.qO.length<=300/\r.to.length<=300
theorem me.app{a b:List qT}(h1:me a)(h2:me b):me (a++b):=by
 intro r hr;rcases List.mem_append.1 hr with hr|hr
 ·exact h1 r hr
 exact h2 r hr
theorem me.one{f t:qa}(h1:f.length<=300)(h2:t.length<=300):me [qT.mk f t]:=by
 intro r hr;have:r=qT.mk f t:=by simpa using hr
 subst this;exact⟨h1,h2⟩
theorem me.light{rows:List qT}(h:qK (rows.map uv)<=300):me rows:=by
 intro r hr;have:=xA (f:=uv) hr;simp only[uv]at this;exact tW
section
variable {cs:Sl qa} (hc:Q0 cs)
include hc
theorem Gd(b:qd)(h:b.cs=cs)(h0:0<=b.qk)(h1:b.qk<=cs.l.length):
  qB (wX b) (fun r=>r.2.2.2.cs=cs/\0<=r.2.2.2.qk/\(r.2.2.1=true->b.qk<r.2.2.2.qk/\r.2.2.2.qk<=cs.l.length/\qK (r.1.l.map uv)<=12/\r.2.1.length<=257)):=by
 have hm:=hc.many;unfold wX;refine .bind (sY hc b h h0) fun v hv=>?_;refine .tI ?_ ?_<;>intro hT
 ·exact .ret ⟨h,h0,by simp⟩
 have h2:=hT;have h3:=hv.2 h2.1
 (repeat (first|(rw [qI];rotate_left;omega;omega)|(rw [xp];rotate_left;omega;omega)))
 refine .tI ?_ ?_<;>intro hT
 ·exact .ret ⟨h,by simp only;omega,fun _=>⟨by simp only;omega,by simp only;omega,by simp[qK],by simp only;omega⟩⟩
 refine .bind (sY hc (qd.mk b.cs (b.qk+1)) h (by simp only;omega)) fun w hw=>?_;simp only at hw
 (repeat (first|(rw [qI];rotate_left;omega;omega)|(rw [xp];rotate_left;omega;omega)))
 have esc:qB (wA w>>=fun vK=>
   some ((⟨true,([]:List qT)⟩:Sl qT),vK.1,vK.2,(qd.mk b.cs (b.qk+1+1))))
   (fun r=>r.2.2.2.cs=cs/\0<=r.2.2.2.qk/\(r.2.2.1=true->b.qk<r.2.2.2.qk/\r.2.2.2.qk<=cs.l.length/\qK (r.1.l.map uv)<=12/\r.2.1.length<=257)):=by
  refine .bind (Jt w) fun y hy=>?_;refine .ret ⟨h,by simp only;omega,fun Wd=>?_⟩;simp only at Wd |-;have hy3:=hy.2 Wd;have Tt:=hw.2 (List.ne_nil_of_length_pos hy3);exact⟨by omega,by omega,by simp[qK],by omega⟩
 have:= @Ve;exact tW
theorem Ye(t:qF)(x:qF)(a0:Int): ∀(m:Nat)(b:qd)(rows:List qT),m=(cs.l.length-b.qk).toNat->b.cs=cs->0<=a0->a0<=b.qk->b.qk<=cs.l.length->(qK (rows.map uv):Int)<=600*(b.qk-a0)->me rows->
  qB (zo (b,t,x,rows)) (fun r=>(∀ y,r= .inl y->y.1≠0/\y.2.1.cs=cs)/\
   ∀y,r= .inr y->y.1.cs=cs/\b.qk<y.1.qk/\y.1.qk<=cs.l.length/\(qK (y.2.map uv):Int)<=600*(y.1.qk-a0)/\me y.2):=by
 have hm:=hc.many;intro m;induction m using Nat.strongRecOn with
 |_ m ih=>
 intro b rows Ed h DK h0 h1 hw hro;have hl:=xg sx rows;rw[zo.eq_1];refine .bind (KB hc _ b h (by omega)) fun v hv=>?_;have next: ∀(b2:qd)(Bf:List qT),b2.cs=cs->b.qk<b2.qk->b2.qk<=cs.l.length->(qK (Bf.map uv):Int)<=600*(b2.qk-a0)->me Bf->
   qB (zo (b2,t,x,Bf)) (fun r=>(∀ y,r= .inl y->y.1≠0/\y.2.1.cs=cs)/\
    ∀y,r= .inr y->y.1.cs=cs/\b.qk<y.1.qk/\y.1.qk<=cs.l.length/\(qK (y.2.map uv):Int)<=600*(y.1.qk-a0)/\me y.2):=by
  intro b2 Bf g1 g2 g3 g4 g5;refine(ih _ (by omega) b2 Bf rfl g1 DK (by omega) g3 g4 g5).mono fun r hr=>⟨hr.1,fun y hy=>?_⟩;have:=hr.2 y hy;exact⟨this.1,by omega,this.2.2.1,this.2.2.2⟩
 refine .tI ?_ ?_<;>intro hT
 ·have Qn:=hT;have e:=hv.2.2 Qn;rw[e];refine .bind (Gd hc b h (by omega) h1) fun w JO=>?_;refine .tI ?_ ?_<;>intro hT
  ·refine .ret ⟨fun y hy=>?_,fun y hy=>by cases hy⟩;cases hy;exact⟨by simp,JO.1⟩
  have sH:=hT;obtain⟨g1,g2,g3⟩:=JO;obtain⟨g3,g4,g5,g6⟩:=g3 sH;have M4:=xg sx w.1.l;refine .tI ?_ ?_<;>intro hT
  ·refine .tI ?_ ?_<;>intro hT
   ·exact next _ _ g1 g3 g4 (by omega) hro
   refine .zm qC ?_;exact next _ _ g1 g3 g4 (by rw[List.map_append,gu];omega) (hro.app (me.light (by omega)))
  refine .bind (sY hc w.2.2.2 g1 g2) fun y hy=>?_;have one:qB (if qg (rows.length+1) 32=true then zo (w.2.2.2,t,x,(rows++[(qT.mk w.2.1 w.2.1)]))else none)
    (fun r=>(∀ y,r= .inl y->y.1≠0/\y.2.1.cs=cs)/\
     ∀y,r= .inr y->y.1.cs=cs/\b.qk<y.1.qk/\y.1.qk<=cs.l.length/\(qK (y.2.map uv):Int)<=600*(y.1.qk-a0)/\me y.2):=by
   refine .zm qC ?_;exact next _ _ g1 g3 g4 (by rw[jS];simp only[uv];omega) (hro.app (me.one (by omega) (by omega)))
  rw[g1];refine .tI ?_ ?_<;>intro hT
  ·(repeat (first|(rw [qI];rotate_left;omega;omega)|(rw [xp];rotate_left;omega;omega)))
   refine .bind .get fun c Yr=>?_;refine .tI ?_ ?_<;>intro hT
   ·refine .bind (Gd hc (qd.mk cs (w.2.2.2.qk+1)) rfl (by simp only;omega) (by simp only;omega)) fun z hz=>?_;simp only at hz;refine .tI ?_ ?_<;>intro hT
    ·refine .ret ⟨fun y hy=>?_,fun y hy=>by cases hy⟩;cases hy;exact⟨by simp,hz.1⟩
    have hok2:=hT;obtain⟨k1,k2,k3⟩:=hz;obtain⟨k3,k4,k5,k6⟩:=k3 hok2.1;refine .zm qC ?_;exact next _ _ k1 (by omega) k4 (by rw[jS];simp only[uv];omega) (hro.app (me.one (by omega) (by omega)))
   exact one
  exact one
 have Qn:=hT;obtain⟨g1,g2⟩:=hv.2.1 Qn;refine .ret ⟨fun y hy=>(by cases hy),fun y hy=>?_⟩;cases hy;exact⟨hv.1,by simp only;omega,by simp only;omega,by simp only;omega,hro⟩
end
theorem Uu(rows s:Sl qT)(i:Int)(x:qT)(hs:s.l.length<=1000000): ∀(m:Nat)(k:Int),m=k.toNat->0<=k->k<=s.l.length->qB (yx (rows,s,i,k,x)) (fun r=>0<=r/\r<=s.l.length):=by
 intro m;induction m using Nat.strongRecOn with
 |_ m ih=>
 intro k hm h0 h1;rw[yx.eq_1];exact tW
theorem Ut(rows:Sl qT)(hw:qK (rows.l.map uv)<=1000000)(he: ∀r∈rows.l,r.qO.length<=BN/\r.to.length<=BN): ∀(r:List qT)(k:Nat)(s:Sl qT),rows.l.drop k=r->qK (s.l.map uv)+qK (r.map uv)<=qK (rows.l.map uv)->
  qB (kC (rows,s,(k:Int))) (fun t=>qK (t.l.map uv)<=qK (rows.l.map uv)):=by
 have hl:=xg sx rows.l;intro r;induction r with
 |nil=>
  intro k s hk hs;rw[kC.eq_1];have:=wU hk;refine .tI ?_ ?_<;>intro hT
  ·omega
  exact .ret (by simp[qK]at hs;exact hs)
 |cons x r ih=>
  intro k s hk hs;obtain⟨h1,h2,h3⟩:=drop_cons hk;have hx:=he x (qX h1);have M4:=xg sx s.l;simp only[List.map_cons,qK]at hs;rw[kC.eq_1];have e1:IntKind.i64.wrap ((k:Int)+1)=((k+1:Nat):Int):=cu (by omega);rw[e1];refine .tI ?_ ?_<;>intro hT
  ·refine .bind (P:=fun y=>y=x) ⟨x,by rw[j8 h3];simpa[kU h3]using h1,rfl⟩ fun y hy=>?_;subst hy;refine .bind (lF _ hx.1) fun v hv=>?_;refine .tI ?_ ?_<;>intro hT
   ·exact ih (k+1) s h2 (by omega)
   refine .bind (lF _ hx.2) fun w Tt=>?_;refine .tI ?_ ?_<;>intro hT
   ·exact ih (k+1) s h2 (by omega)
   refine .bind (Uu rows s k y (by omega) _ _ rfl (by omega) (by omega)) fun z hz=>?_;refine .bind (qB.kx hz.1 hz.2) fun a ha=>?_;refine .zm qC ?_;refine .zm qC ?_;refine .bind (qB.bX hz.1 hz.2) fun b hb=>?_;refine .zm (qC (by simp;omega) (by omega)) ?_;refine ih (k+1) _ h2 ?_;have e2:qK (s.l.map uv)=qK (a.map uv)+qK (b.map uv):=by
    rw[<- gu,<- List.map_append,ha.1,hb.1,List.take_append_drop]
   simp only[List.map_append,gu,List.map_cons,List.map_nil,qK];omega
  omega
theorem Uv(s:Sl qT)(hw:qK (s.l.map uv)<=1000000): ∀(r:List qT)(k:Nat)(out:List qT),s.l.drop k=r->qK (out.map uv)+qK (r.map uv)<=qK (s.l.map uv)->
  qB (kD (s,(k:Int),out)) (fun t=>qK (t.map uv)<=qK (s.l.map uv)):=by
 have hl:=xg sx s.l;intro r;induction r with
 |nil=>
  intro k out hk hs;rw[kD.eq_1];have:=wU hk;refine .tI ?_ ?_<;>intro hT
  ·omega
  exact .ret (by simp[qK]at hs;exact hs)
 |cons x r ih=>
  intro k out hk hs;obtain⟨h1,h2,h3⟩:=drop_cons hk;have M4:=xg sx out;simp only[List.map_cons,qK]at hs;rw[kD.eq_1];have e1:IntKind.i64.wrap ((k:Int)+1)=((k+1:Nat):Int):=cu (by omega);rw[e1];have hg:qB (qi s.l (k:Int)) (fun y=>y=x):=⟨x,by rw[j8 h3];simpa[kU h3]using h1,rfl⟩;refine .tI ?_ ?_<;>intro hT
  ·refine .tI ?_ ?_<;>intro hT
   ·refine .bind hg fun y hy=>?_;subst hy;have e2:IntKind.i64.wrap ((out.length:Int)-1)=(out.length:Int)-1:=qI (by omega) (by omega);rw[e2];refine .bind .get fun z hz=>?_;refine .tI ?_ ?_<;>intro hT
    ·refine ih (k+1) _ h2 ?_;have:=o0 uv out ((out.length:Int)-1).toNat (qT.mk z.qO (if jP z.to y.to=true then y.to else z.to)) z hz.1;have e3:uv (qT.mk z.qO (if jP z.to y.to=true then y.to else z.to))<=uv z+uv y:=by
      simp only[uv];split<;>omega
     omega
    refine .zm qC ?_;exact ih (k+1) _ h2 (by rw[jS];omega)
   refine .bind hg fun y hy=>?_;subst hy;refine .zm qC ?_;exact ih (k+1) _ h2 (by rw[jS];omega)
  omega
theorem Zs(rows:Sl qT)(hw:qK (rows.l.map uv)<=1000000)(he: ∀r∈rows.l,r.qO.length<=BN/\r.to.length<=BN):qB (sa rows) (fun t=>qK (t.l.map uv)<=qK (rows.l.map uv)):=by
 unfold sa;have h:=Ut rows hw he rows.l 0 (⟨true,[]⟩:Sl qT) rfl (by simp[qK]);rw[show ((0:Nat):Int)=0 from rfl]at h;refine .bind h fun v hv=>?_;have h2:=Uv v (by omega) v.l 0 [] rfl (by simp[qK]);exact tW
section
variable {cs:Sl qa} (hc:Q0 cs)
include hc
theorem Sr(b:qd)(h:b.cs=cs)(h0:0<=b.qk)(h1:b.qk<=cs.l.length):
  qB (yz b) (fun r=>r.2.2.cs=cs/\(r.2.1=0->b.qk<r.2.2.qk/\r.2.2.qk<=cs.l.length/\(tq r.1:Int)<=600*(r.2.2.qk-b.qk)+1)):=by
 have hm:=hc.many;unfold yz;refine .bind (KB hc _ b h h0) fun v hv=>?_;have hb:b.qk<=v.2.qk/\v.2.qk<=cs.l.length:=by
  cases Qn:v.1
  ·rw[hv.2.2 Qn];omega
  have:=hv.2.1 Qn;omega
 refine .bind (Ye hc _ _ b.qk _ v.2 [] rfl hv.1 h0 hb.1 hb.2 (by simp[qK];omega) (by intro r hr;cases hr)) fun w hw=>?_;rcases w with y|y
 ·exact tW
 obtain⟨g1,g2,g3,g4,g5⟩:=hw.2 y rfl;refine .bind (Zs (⟨y.2.isEmpty,y.2⟩:Sl qT) (by simp only;omega) (fun r hr=>by have:=g5 r hr;unfold BN;omega)) fun z hz=>?_;refine .ret ⟨g1,fun _=>⟨by simp only;omega,g3, ?_⟩⟩;simp only[vS,List.length_nil,List.map_nil,qK]at hz |-;omega
theorem Nv(b:qd)(h:b.cs=cs)(h0:0<=b.qk)(h1:b.qk<=cs.l.length):
  qB (ug b) (fun r=>r.2.2.cs=cs/\(r.2.1=0->b.qk<r.2.2.qk/\r.2.2.qk<=cs.l.length/\tq r.1<=300)):=by
 have hm:=hc.many;unfold ug;refine .bind (sY hc b h h0) fun v hv=>?_;refine .bind (AN v (by unfold BN;omega)) fun w hw=>?_
 (repeat (first|(rw [qI];rotate_left;omega;omega)|(rw [xp];rotate_left;omega;omega)))
 have esc:qB (wA v>>=fun nU=>
   if(!nU.2)then
    some ((qF.mk (0:Int) ([]:qa) false (⟨true,([]:List qT)⟩:(Sl qT)) (0:Int) (0:Int) false (⟨true,([]:List qF)⟩:(Sl qF))),(10:Int),b)
   else
    some ((qF.mk (2:Int) nU.1 false (⟨true,([]:List qT)⟩:(Sl qT)) (0:Int) (0:Int) false (⟨true,([]:List qF)⟩:(Sl qF))),(0:Int),(qd.mk b.cs (b.qk+1))))
   (fun r=>r.2.2.cs=cs/\(r.2.1=0->b.qk<r.2.2.qk/\r.2.2.qk<=cs.l.length/\tq r.1<=300)):=by
  refine .bind (Jt v) fun y hy=>?_;refine .tI ?_ ?_<;>intro hT
  ·exact .ret ⟨h,by simp⟩
  have hy1:=hT;have Wd:=hy.2 hy1;have DS:=hv.2 (List.ne_nil_of_length_pos Wd);refine .ret ⟨h,fun _=>⟨by simp only;omega,by simp only;omega, ?_⟩⟩;simp only[vS,List.map_nil,qK];omega
 refine .tI ?_ ?_<;>intro hT
 ·refine .bind .get fun c Yr=>?_;refine .bind (Ve c) fun y hy=>?_;refine .tI ?_ ?_<;>intro hT
  ·have DS:=hv.2 (List.ne_nil_of_length_pos (by omega));refine .ret ⟨h,fun _=>⟨by simp only;omega,by simp only;omega, ?_⟩⟩;simp only[vS,List.length_nil,List.map_nil,qK];omega
  exact esc
 exact esc
theorem Xt: ∀(m:Nat)(n k:Int)(b:qd),m=(3-k).toNat->0<=k->b.cs=cs->0<=b.qk->b.qk<=cs.l.length->0<=n->(k=0/\n<1\/k=1/\n<10\/k=2/\n<100\/k=3/\n<1000)->
  qB (jD (n,k,b)) (fun r=>0<=r.1/\r.1<1000/\k<=r.2.1/\r.2.2.cs=cs/\b.qk<=r.2.2.qk/\r.2.2.qk<=cs.l.length):=by
 have hm:=hc.many;intro m;induction m using Nat.strongRecOn with
 |_ m ih=>
 intro n k b Ed hk h h0 h1 hn hkn;rw[jD.eq_1];refine .tI ?_ ?_<;>intro hT
 ·refine .bind (sY hc b h h0) fun v hv=>?_;refine .tI ?_ ?_<;>intro hT
  ·have DS:=hv.2 (List.ne_nil_of_length_pos (by omega));refine .bind .get fun c Yr=>?_;refine .bind (bL c) fun w hw=>?_;refine .tI ?_ ?_<;>intro hT
   ·have JO:=hT;have Tt:=hw JO
    (try simp(oX:=omega) only[qI,xp])
    exact(ih _ (by omega) _ (k+1) (qd.mk b.cs (b.qk+1)) rfl (by omega) h (by simp only;omega) (by simp only;omega) (by omega) (by omega)).mono fun r hr=>by
     simp only at hr;exact⟨hr.1,hr.2.1,by omega,hr.2.2.2.1,by omega,hr.2.2.2.2.2⟩
   exact .ret ⟨hn,by simp only;omega,by simp,h,by simp,h1⟩
  exact .ret ⟨hn,by simp only;omega,by simp,h,by simp,h1⟩
 exact .ret ⟨hn,by simp only;omega,by simp,h,by simp,h1⟩
theorem Qw(b:qd)(h:b.cs=cs)(h0:0<=b.qk)(h1:b.qk<=cs.l.length):
  qB (kO b) (fun r=>0<=r.1/\r.1<1000/\r.2.2.cs=cs/\b.qk<=r.2.2.qk/\r.2.2.qk<=cs.l.length):=by
 unfold kO;have:= @Xt;exact tW
end
theorem rep_W(x:qF)(a b:Int)(l:Bool):tq (qF.mk (7:Int) ([]:qa) false (⟨true,[]⟩:(Sl qT)) a b l (⟨false,[x]⟩:(Sl qF)))=1+tq x:=by
 rw[vS];simp[qK]
theorem Gg(kind:Int)(xs:Sl qF)(hw:qK (xs.l.map tq)<=1000000): ∀(r:List qF)(k:Nat)(l:List qF),xs.l.drop k=r->qK (l.map tq)+qK (r.map tq)<=qK (xs.l.map tq)->
  qB (wz (kind,xs,(k:Int),l)) (fun t=>qK (t.map tq)<=qK (xs.l.map tq)):=by
 have hl:=xg eG xs.l;intro r;induction r with
 |nil=>
  intro k l hk hs;rw[wz.eq_1];have:=wU hk;exact tW
 |cons x r ih=>
  intro k l hk hs;obtain⟨h1,h2,h3⟩:=drop_cons hk;have M4:=xg eG l;have hl3:=xg eG x.qy.l;have hx:=vS x;simp only[List.map_cons,qK]at hs;rw[wz.eq_1];have:= @gu;have:= @jS;exact tW
theorem Gi(kind:Int)(xs:Sl qF)(hw:qK (xs.l.map tq)<=1000000):qB (re kind xs) (fun t=>qK (t.l.map tq)<=qK (xs.l.map tq)):=by
 unfold re;have h:=Gg kind xs hw xs.l 0 [] rfl (by simp[qK]);exact tW
theorem seq_tot(xs:Sl qF)(hw:qK (xs.l.map tq)<=1000000):qB (aq xs) (fun t=>tq t<=1+qK (xs.l.map tq)):=by
 unfold aq;refine .bind (Gi 0 xs hw) fun v hv=>?_;refine .tI ?_ ?_<;>intro hT
 ·have:= @xA;exact tW
 refine .ret ?_;simp only[vS,List.length_nil,List.map_nil,qK];omega
theorem alt_tot(xs:Sl qF)(hw:qK (xs.l.map tq)<=1000000):qB (ak xs) (fun t=>tq t<=1+qK (xs.l.map tq)):=by
 unfold ak;refine .bind (Gi 1 xs hw) fun v hv=>?_;refine .tI ?_ ?_<;>intro hT
 ·refine .ret ?_;simp only[vS,List.length_nil,List.map_nil,qK];omega
 refine .tI ?_ ?_<;>intro hT
 ·have:= @xA;exact tW
 refine .ret ?_;simp only[vS,List.length_nil,List.map_nil,qK];omega
section
variable {cs:Sl qa} (hc:Q0 cs)
include hc
theorem jG(c:qa)(b:qd)(h:b.cs=cs)(h0:0<=b.qk)(h1:b.qk<=cs.l.length):
  qB (qH c b) (fun r=>r.2.cs=cs/\b.qk<=r.2.qk/\r.2.qk<=cs.l.length/\(r.1=true->r.2.qk=b.qk+1)/\(r.1=false->r.2.qk=b.qk)):=by
 refine(KB hc c b h h0).mono fun r hr=>?_;cases h2:r.1
 ·exact tW
 exact tW
def FY(cs:Sl qa)(x:qF)(a:Int)(r:qF×Int×qd):Prop:=
 r.2.2.cs=cs/\(r.2.1=0->a<=r.2.2.qk/\r.2.2.qk<=cs.l.length/\(tq r.1:Int)<=tq x+(r.2.2.qk-a))
theorem Dw(x:qF)(b:qd)(h:b.cs=cs)(h0:0<=b.qk)(h1:b.qk<=cs.l.length):
  qB (kc x b) (FY cs x b.qk):=by
 have last: ∀(w:qd)(p q:Int),w.cs=cs->b.qk<w.qk->w.qk<=cs.l.length->qB (qH ([63]:qa) w>>=fun v5=>
   some ((qF.mk (7:Int) ([]:qa) false (⟨true,[]⟩:(Sl qT)) p q v5.1 (⟨false,[x]⟩:(Sl qF))),(0:Int),v5.2)) (FY cs x b.qk):=by
  intro w p q g1 g2 g3;refine .bind (jG hc _ w g1 (by omega) g3) fun z hz=>?_;refine .ret ⟨hz.1,fun _=>⟨by simp only;omega,by simp only;omega, ?_⟩⟩;simp only[rep_W];omega
 unfold kc;refine .bind (jG hc _ b h h0 h1) fun v hv=>?_;refine .tI ?_ ?_<;>intro hT
 ·exact last _ _ _ hv.1 (by have g:=hT;have:=hv.2.2.2.1 g;omega) (by omega)
 have g1:=hT;have Qn:=hv.2.2.2.2 g1;refine .bind (jG hc _ v.2 hv.1 (by omega) (by omega)) fun w hw=>?_;refine .tI ?_ ?_<;>intro hT
 ·exact last _ _ _ hw.1 (by have g:=hT;have:=hw.2.2.2.1 g;omega) (by omega)
 have g2:=hT;have JO:=hw.2.2.2.2 g2;refine .bind (jG hc _ w.2 hw.1 (by omega) (by omega)) fun y hy=>?_;refine .tI ?_ ?_<;>intro hT
 ·exact last _ _ _ hy.1 (by have g:=hT;have:=hy.2.2.2.1 g;omega) (by omega)
 have g3:=hT;have hy1:=hy.2.2.2.2 g3;refine .bind (jG hc _ y.2 hy.1 (by omega) (by omega)) fun z hz=>?_;refine .tI ?_ ?_<;>intro hT
 ·have g4:=hT;have hz1:=hz.2.2.2.1 g4;refine .bind (Qw hc z.2 hz.1 (by omega) (by omega)) fun n hn=>?_;refine .tI ?_ ?_<;>intro hT
  ·exact .ret ⟨hn.2.2.1,by simp⟩
  refine .bind (jG hc _ n.2.2 hn.2.2.1 (by omega) (by omega)) fun k hk=>?_;refine .tI ?_ ?_<;>intro hT
  ·refine .bind (sY hc k.2 hk.1 (by omega)) fun s hs=>?_;refine .tI ?_ ?_<;>intro hT
   ·refine .bind (Qw hc k.2 hk.1 (by omega) (by omega)) fun q hq=>?_;refine .tI ?_ ?_<;>intro hT
    ·exact .ret ⟨hq.2.2.1,by simp⟩
    refine .bind (jG hc _ q.2.2 hq.2.2.1 (by omega) (by omega)) fun p hp=>?_;refine .tI ?_ ?_<;>intro hT
    ·exact .ret ⟨hp.1,by simp⟩
    exact last _ _ _ hp.1 (by omega) (by omega)
   refine .bind (jG hc _ k.2 hk.1 (by omega) (by omega)) fun p hp=>?_;refine .tI ?_ ?_<;>intro hT
   ·exact .ret ⟨hp.1,by simp⟩
   exact last _ _ _ hp.1 (by omega) (by omega)
  refine .bind (jG hc _ k.2 hk.1 (by omega) (by omega)) fun p hp=>?_;refine .tI ?_ ?_<;>intro hT
  ·exact .ret ⟨hp.1,by simp⟩
  exact last _ _ _ hp.1 (by omega) (by omega)
 have g4:=hT;have hz1:=hz.2.2.2.2 g4;exact .ret ⟨hz.1,fun _=>⟨by simp only;omega,by simp only;omega,by simp only;omega⟩⟩
end
def PatQ(cs:Sl qa)(a:Int)(r:qF×Int×qd):Prop:=
 r.2.2.cs=cs/\(r.2.1=0->a<=r.2.2.qk/\r.2.2.qk<=cs.l.length/\(tq r.1:Int)<=1000*(r.2.2.qk-a)+2)
def T1(cs:Sl qa)(a:Int)(r:qF×Int×qd):Prop:=
 r.2.2.cs=cs/\(r.2.1=0->a<r.2.2.qk/\r.2.2.qk<=cs.l.length/\(tq r.1:Int)<=1000*(r.2.2.qk-a))
theorem Je(k:Int):tq (qF.mk k ([]:qa) false (⟨true,([]:List qT)⟩:(Sl qT)) (0:Int) (0:Int) false (⟨true,([]:List qF)⟩:(Sl qF)))=1:=by
 rw[vS];simp[qK]
theorem kid_W(k:Int)(x:qF):tq (qF.mk k ([]:qa) false (⟨true,[]⟩:(Sl qT)) (0:Int) (0:Int) false (⟨false,[x]⟩:(Sl qF)))=1+tq x:=by
 rw[vS];simp[qK]
section
variable {cs:Sl qa} (hc:Q0 cs) (a0:Int) (DK:0<=a0)
 (H: ∀(deep:Int)(b:qd),0<=deep->deep<=16->b.cs=cs->a0<b.qk->b.qk<=cs.l.length->qB (zw (deep,b)) (PatQ cs b.qk))
include hc DK H
theorem Al(deep:Int)(d0:0<=deep)(d1:deep<=16)(b:qd)(h:b.cs=cs)(h0:a0<=b.qk)(h1:b.qk<=cs.l.length):qB (jR (deep,b)) (T1 cs b.qk):=by
 have hm:=hc.many;rw[jR.eq_1];refine .bind (jG hc _ b h (by omega) h1) fun v hv=>?_;refine .tI ?_ ?_<;>intro hT
 ·have g:=hT;have:=hv.2.2.2.1 g;exact .ret ⟨hv.1,fun _=>⟨by simp only;omega,by simp only;omega,by simp only[Je];omega⟩⟩
 have g:=hT;have Qn:=hv.2.2.2.2 g;refine .bind (jG hc _ v.2 hv.1 (by omega) (by omega)) fun w hw=>?_;have grp: ∀(k:Int)(u:qd),u.cs=cs->b.qk<u.qk->u.qk<=cs.l.length->deep<16->qB (zw ((IntKind.i64.wrap (deep+(1:Int))),u)>>=fun vK=>
       if(vK.2.1 != (0:Int))then
        some ((qF.mk (0:Int) ([]:qa) false (⟨true,([]:List qT)⟩:(Sl qT)) (0:Int) (0:Int) false (⟨true,([]:List qF)⟩:(Sl qF))),vK.2.1,vK.2.2)
       else
        qH ([41]:qa) vK.2.2>>=fun mn=>
        if(!mn.1)then
         some ((qF.mk (0:Int) ([]:qa) false (⟨true,([]:List qT)⟩:(Sl qT)) (0:Int) (0:Int) false (⟨true,([]:List qF)⟩:(Sl qF))),(10:Int),mn.2)
        else
         some ((qF.mk k ([]:qa) false (⟨true,[]⟩:(Sl qT)) (0:Int) (0:Int) false (⟨false,[vK.1]⟩:(Sl qF))),(0:Int),mn.2)) (T1 cs b.qk):=by
  intro k u g1 g2 g3 g4
  (repeat (first|(rw [qI];rotate_left;omega;omega)|(rw [xp];rotate_left;omega;omega)))
  refine .bind (H (deep+1) u (by omega) (by omega) g1 (by omega) g3) fun y hy=>?_;refine .tI ?_ ?_<;>intro hT
  ·have XG:=hT;exact .ret ⟨hy.1,fun h=>absurd h XG⟩
  have XG:=hT;have Wd:=hy.2 XG;refine .bind (jG hc _ y.2.2 hy.1 (by omega) (by omega)) fun z hz=>?_;refine .tI ?_ ?_<;>intro hT
  ·exact .ret ⟨hz.1,by simp⟩
  have Yr:=hT;have:=hz.2.2.2.1 Yr;exact .ret ⟨hz.1,fun _=>⟨by simp only;omega,by simp only;omega,by simp only[kid_W];omega⟩⟩
 refine .tI ?_ ?_<;>intro hT
 ·have g:=hT;have JO:=hw.2.2.2.1 g;refine .tI ?_ ?_<;>intro hT
  ·exact .ret ⟨hw.1,by simp⟩
  refine .bind (jG hc _ w.2 hw.1 (by omega) (by omega)) fun y hy=>?_;refine .tI ?_ ?_<;>intro hT
  ·refine .bind (jG hc _ y.2 hy.1 (by omega) (by omega)) fun z hz=>?_;refine .tI ?_ ?_<;>intro hT
   ·exact .ret ⟨hz.1,by simp⟩
   exact grp 6 z.2 hz.1 (by omega) (by omega) (by omega)
  exact grp 5 y.2 hy.1 (by omega) (by omega) (by omega)
 have g:=hT;have JO:=hw.2.2.2.2 g;refine .bind (jG hc _ w.2 hw.1 (by omega) (by omega)) fun y hy=>?_;refine .tI ?_ ?_<;>intro hT
 ·have g:=hT;have hy1:=hy.2.2.2.1 g;refine .bind (Sr hc y.2 hy.1 (by omega) (by omega)) fun z hz=>?_;refine .ret ⟨hz.1,fun h=>?_⟩;have:=hz.2 h;simp only;omega
 have g:=hT;have hy1:=hy.2.2.2.2 g;refine .bind (jG hc _ y.2 hy.1 (by omega) (by omega)) fun z hz=>?_;refine .tI ?_ ?_<;>intro hT
 ·have g:=hT;have hz1:=hz.2.2.2.1 g;refine .bind (Nv hc z.2 hz.1 (by omega) (by omega)) fun u hu=>?_;refine .ret ⟨hu.1,fun h=>?_⟩;have:=hu.2 h;simp only;omega
 have g:=hT;have hz1:=hz.2.2.2.2 g;refine .bind (sY hc z.2 hz.1 (by omega)) fun s hs=>?_;refine .tI ?_ ?_<;>intro hT
 ·exact .ret ⟨hz.1,by simp⟩
 by_cases hn:s=[]
 ·refine .bind (o:=jf s) (P:=fun r=>r=false) ⟨false,by rw[hn];unfold jf;simp,rfl⟩ fun p hp=>?_;subst hp;exact .ret ⟨hz.1,by simp⟩
 refine .bind (lF s (by unfold BN;omega)) fun p hp=>?_;refine .tI ?_ ?_<;>intro hT
 ·exact .ret ⟨hz.1,by simp⟩
 have:=hs.2 hn
 (repeat (first|(rw [qI];rotate_left;omega;omega)|(rw [xp];rotate_left;omega;omega)))
 refine .ret ⟨hz.1,fun _=>⟨by simp only;omega,by simp only;omega, ?_⟩⟩;simp only[vS,List.map_nil,qK];omega
theorem L5(deep:Int)(d0:0<=deep)(d1:deep<=16)(b:qd)(h:b.cs=cs)(h0:a0<=b.qk)(h1:b.qk<=cs.l.length):qB (wY (deep,b)) (T1 cs b.qk):=by
 have hm:=hc.many;rw[wY.eq_1];refine .bind (jG hc _ b h (by omega) h1) fun v hv=>?_;refine .tI ?_ ?_<;>intro hT
 ·have g:=hT;have:=hv.2.2.2.1 g;exact .ret ⟨hv.1,fun _=>⟨by simp only;omega,by simp only;omega,by simp only[Je];omega⟩⟩
 have g:=hT;have Qn:=hv.2.2.2.2 g;refine .bind (jG hc _ v.2 hv.1 (by omega) (by omega)) fun w hw=>?_;refine .tI ?_ ?_<;>intro hT
 ·have g:=hT;have:=hw.2.2.2.1 g;exact .ret ⟨hw.1,fun _=>⟨by simp only;omega,by simp only;omega,by simp only[Je];omega⟩⟩
 have g:=hT;have JO:=hw.2.2.2.2 g;have at1:qB (jR (deep,w.2)>>=fun v26=>
     if(v26.2.1 != (0:Int))then
      some ((qF.mk (0:Int) ([]:qa) false (⟨true,([]:List qT)⟩:(Sl qT)) (0:Int) (0:Int) false (⟨true,([]:List qF)⟩:(Sl qF))),v26.2.1,v26.2.2)
     else
      kc v26.1 v26.2.2>>=fun v29=>
      some (v29.1,v29.2.1,v29.2.2)) (T1 cs b.qk):=by
  refine .bind (Al hc a0 DK H deep d0 d1 w.2 hw.1 (by omega) (by omega)) fun y hy=>?_;refine .tI ?_ ?_<;>intro hT
  ·have XG:=hT;exact .ret ⟨hy.1,fun h=>absurd h XG⟩
  have XG:=hT;have Wd:=hy.2 XG;refine .bind (Dw hc y.1 y.2.2 hy.1 (by omega) (by omega)) fun z hz=>?_;refine .ret ⟨hz.1,fun h=>?_⟩;have:=hz.2 h;simp only;omega
 refine .bind (sY hc w.2 hw.1 (by omega)) fun s hs=>?_;rw[hw.1];refine .tI ?_ ?_<;>intro hT
 ·(repeat (first|(rw [qI];rotate_left;omega;omega)|(rw [xp];rotate_left;omega;omega)))
  refine .bind .get fun c Yr=>?_;refine .tI ?_ ?_<;>intro hT
  ·exact .ret ⟨rfl,fun _=>⟨by simp only;omega,by simp only;omega,by simp only[Je];omega⟩⟩
  refine .tI ?_ ?_<;>intro hT
  ·exact .ret ⟨rfl,fun _=>⟨by simp only;omega,by simp only;omega,by simp only[Je];omega⟩⟩
  exact at1
 exact at1
end
section
variable {cs:Sl qa} (hc:Q0 cs) (a0:Int) (DK:0<=a0)
 (H: ∀(deep:Int)(b:qd),0<=deep->deep<=16->b.cs=cs->a0<b.qk->b.qk<=cs.l.length->qB (zw (deep,b)) (PatQ cs b.qk))
include hc DK H
theorem MK(deep:Int)(d0:0<=deep)(d1:deep<=16)(t:qF)(alts:List qF)(a1:Int)(fS:0<=a1): ∀(m:Nat)(b:qd)(tK:List qF),m=(cs.l.length-b.qk).toNat->b.cs=cs->a0<=b.qk->a1<=b.qk->b.qk<=cs.l.length->
  (qK (tK.map tq):Int)<=1000*(b.qk-a1)->qB (xb (deep,b,t,alts,tK)) (fun r=>(∀ y,r= .inl y->y.1≠0/\y.2.1.cs=cs)/\
   ∀y,r= .inr y->y.1.cs=cs/\b.qk<=y.1.qk/\y.1.qk<=cs.l.length/\(qK (y.2.map tq):Int)<=1000*(y.1.qk-a1)):=by
 have hm:=hc.many;intro m;induction m using Nat.strongRecOn with
 |_ m ih=>
 intro b tK Ed h h0 h1 h2 hw;have hl:=xg eG tK;rw[xb.eq_1];have stop:qB (some (Sum.inr (b,tK):(Int×qd×qF×(List qF))⊕(qd×(List qF)))) (fun r=>(∀ y,r= .inl y->y.1≠0/\y.2.1.cs=cs)/\
   ∀y,r= .inr y->y.1.cs=cs/\b.qk<=y.1.qk/\y.1.qk<=cs.l.length/\(qK (y.2.map tq):Int)<=1000*(y.1.qk-a1)):=by
  refine .ret ⟨fun y hy=>(by cases hy),fun y hy=>?_⟩;cases hy;exact⟨h,by simp,h2,hw⟩
 rw[h];refine .tI ?_ ?_<;>intro hT
 ·refine .bind (sY hc b h (by omega)) fun s hs=>?_;refine .tI ?_ ?_<;>intro hT
  ·refine .tI ?_ ?_<;>intro hT
   ·refine .bind (L5 hc a0 DK H deep d0 d1 b h h0 h2) fun y hy=>?_;refine .tI ?_ ?_<;>intro hT
    ·have XG:=hT;refine .ret ⟨fun z hz=>?_,fun z hz=>by cases hz⟩;cases hz;exact⟨XG,hy.1⟩
    have XG:=hT;have Wd:=hy.2 XG;refine .zm qC ?_;refine(ih _ (by omega) y.2.2 _ rfl hy.1 (by omega) (by omega) (by omega) (by rw[jS];omega)).mono fun r hr=>⟨hr.1,fun z hz=>?_⟩;have:=hr.2 z hz;exact⟨this.1,by omega,this.2.2.1,this.2.2.2⟩
   exact stop
  exact stop
 exact stop
theorem MJ(deep:Int)(d0:0<=deep)(d1:deep<=16)(t:qF): ∀(m:Nat)(b:qd)(alts:List qF),m=(cs.l.length-b.qk).toNat->b.cs=cs->a0<=b.qk->b.qk<=cs.l.length->
  (qK (alts.map tq):Int)<=1000*(b.qk-a0)->qB (zZ (deep,b,t,alts)) (fun r=>(∀ y,r= .inl y->y.1≠0/\y.2.1.cs=cs)/\
   ∀y,r= .inr y->y.2.1.cs=cs/\a0<=y.2.1.qk/\y.2.1.qk<=cs.l.length/\(tq y.2.2:Int)<=1000*(y.2.1.qk-a0)+2):=by
 have hm:=hc.many;intro m;induction m using Nat.strongRecOn with
 |_ m ih=>
 intro b alts Ed h h0 h2 hw;have hl:=xg eG alts;rw[zZ.eq_1];refine .bind (MK hc a0 DK H deep d0 d1 t alts b.qk (by omega) _ b [] rfl h h0 (by omega) h2 (by simp[qK])) fun v hv=>?_;rcases v with y|y
 ·have:=hv.1 y rfl;refine .ret ⟨fun z hz=>?_,fun z hz=>by cases hz⟩;cases hz;exact this
 obtain⟨g1,g2,g3,g4⟩:=hv.2 y rfl;refine .bind (seq_tot (⟨y.2.isEmpty,y.2⟩:Sl qF) (by simp only;omega)) fun w Tt=>?_;simp only at Tt;refine .zm qC ?_;refine .bind (jG hc _ y.1 g1 (by omega) g3) fun z hz=>?_;refine .tI ?_ ?_<;>intro hT
 ·have XG:=hT;have hz1:=hz.2.2.2.2 XG;refine .bind (alt_tot (⟨false,(alts++[w])⟩:Sl qF) (by simp only[jS];omega)) fun u hu=>?_;simp only[jS]at hu;refine .ret ⟨fun x hx=>(by cases hx),fun x hx=>?_⟩;cases hx;exact⟨hz.1,by simp only;omega,by simp only;omega,by simp only;omega⟩
 have XG:=hT;have hz1:=hz.2.2.2.1 XG;exact ih _ (by omega) z.2 _ rfl hz.1 (by omega) (by omega) (by rw[jS];omega)
end
theorem pat_tot{cs:Sl qa}(hc:Q0 cs): ∀(m:Nat)(deep:Int)(b:qd),m=(cs.l.length-b.qk).toNat->0<=deep->deep<=16->b.cs=cs->0<=b.qk->b.qk<=cs.l.length->qB (zw (deep,b)) (PatQ cs b.qk):=by
 intro m;induction m using Nat.strongRecOn with
 |_ m ih=>
 intro deep b Ed d0 d1 h h0 h1;rw[zw.eq_1];refine .bind (MJ hc b.qk h0 (fun d2 b2 e1 e2 e3 e4 e5=>ih _ (by omega) d2 b2 rfl e1 e2 e3 (by omega) e5) deep d0 d1 _ _ b [] rfl h (by omega) h1 (by simp[qK])) fun v hv=>?_;rcases v with y|y
 ·have:=hv.1 y rfl;exact .ret ⟨this.2,fun h=>absurd h this.1⟩
 obtain⟨g1,g2,g3,g4⟩:=hv.2 y rfl;exact .ret ⟨g1,fun _=>⟨g2,g3,g4⟩⟩
theorem MQ(s:qa):qB (cT s) (fun r=>r.2=0->s.length<=256/\tq r.1<=1000*s.length+1002):=by
 unfold cT;refine .tI ?_ ?_<;>intro hT
 ·exact .ret (by simp)
 refine .bind (VP s (by unfold BN;omega)) fun v hv=>?_;have hc:Q0 v:=⟨by omega,fun c h=>by have:=hv.2 c h;omega⟩;refine .bind (pat_tot hc _ 0 (qd.mk v 0) rfl (by omega) (by omega) rfl (by simp) (by simp)) fun w hw=>?_;refine .tI ?_ ?_<;>intro hT
 ·exact .ret (by simp)
 refine .tI ?_ ?_<;>intro hT
 ·have h:=hT;exact .ret fun h2=>absurd h2 h
 have h:=hT;have:=hw.2 h;refine .ret fun _=>⟨by omega, ?_⟩;simp only at this |-;omega
def vW(f:zf):Nat:=tq f.rx+qK (f.uz.l.map ej)
theorem U2(s:qa)(hs:s.length<=BN)(t:zf): ∀(m:Nat)(k:Int)(b:List UInt8),m=(s.length-k).toNat->0<=k->k<=s.length->(b.length:Int)<=k->
  qB (wJ (s,k,t,b)) (fun r=>k<=r.1/\r.1<=s.length/\(r.2.length:Int)<=b.length+(r.1-k)):=by
 have hB:s.length<=8192:=hs;intro m;induction m using Nat.strongRecOn with
 |_ m ih=>
 intro k b hm h0 h1 hb;rw[wJ.eq_1];refine .tI ?_ ?_<;>intro hT
 ·refine .bind .get fun c hc=>?_;refine .tI ?_ ?_<;>intro hT
  ·refine .tI ?_ ?_<;>intro hT
   ·(repeat (first|(rw [qI];rotate_left;omega;omega)|(rw [xp];rotate_left;omega;omega)))
    refine .bind .get fun c2 Yr=>?_;refine .tI ?_ ?_<;>intro hT
    ·refine .zm qC ?_;refine .zm (qC (by simp;omega) (by omega)) ?_;exact(ih _ (by omega) (k+1+1) _ rfl (by omega) (by omega) (by simp;omega)).mono fun r hr=>by
      simp only[List.length_append,List.length_cons,List.length_nil]at hr;omega
    refine .zm qC ?_;exact(ih _ (by omega) (k+1+1) _ rfl (by omega) (by omega) (by simp;omega)).mono fun r hr=>by
     simp only[List.length_append,List.length_cons,List.length_nil]at hr;omega
   refine .zm qC ?_
   (repeat (first|(rw [qI];rotate_left;omega;omega)|(rw [xp];rotate_left;omega;omega)))
   exact(ih _ (by omega) (k+1) _ rfl (by omega) (by omega) (by simp;omega)).mono fun r hr=>by
    simp only[List.length_append,List.length_cons,List.length_nil]at hr;omega
  exact .ret ⟨by simp,h1,by simp only;omega⟩
 exact .ret ⟨by simp,h1,by simp only;omega⟩
theorem U3(s:qa)(hs:s.length<=BN)(t:zf)(l:List UInt8)(x:qF): ∀(m:Nat)(e:Int)(f:zf),m=(s.length-e).toNat->0<=e->
  qB (wK (s,e,t,l,x,f)) (fun r=>(∀ y,r= .inl y->y.2.1=false)/\ ∀y,r= .inr y->e<=y.1/\vW y.2=vW f):=by
 have hB:s.length<=8192:=hs;intro m;induction m using Nat.strongRecOn with
 |_ m ih=>
 intro e f hm h0;rw[wK.eq_1];have stop:qB (some (Sum.inr (e,f):(Int×Bool×Int×zf×zf)⊕(Int×zf))) (fun r=>(∀ y,r= .inl y->y.2.1=false)/\ ∀y,r= .inr y->e<=y.1/\vW y.2=vW f):=by
  refine .ret ⟨fun y hy=>(by cases hy),fun y hy=>?_⟩;cases hy;exact⟨by simp,rfl⟩
 have go: ∀f2:zf,e<s.length->vW f2=vW f->qB (wK (s,e+1,t,l,x,f2)) (fun r=>(∀ y,r= .inl y->y.2.1=false)/\ ∀y,r= .inr y->e<=y.1/\vW y.2=vW f):=by
  intro f2 he hf;exact(ih _ (by omega) (e+1) f2 rfl (by omega)).mono fun r hr=>⟨hr.1,fun y hy=>by have:=hr.2 y hy;exact⟨by omega,this.2.trans hf⟩⟩
 refine .tI ?_ ?_<;>intro hT
 ·refine .bind .get fun c hc=>?_
  (repeat (first|(rw [qI];rotate_left;omega;omega)|(rw [xp];rotate_left;omega;omega)))
  refine .tI ?_ ?_<;>intro hT
  ·refine .tI ?_ ?_<;>intro hT
   ·exact go _ (by omega) rfl
   (repeat (first|(rw [qI];rotate_left;omega;omega)|(rw [xp];rotate_left;omega;omega)))
   refine .tI ?_ ?_<;>intro hT
   ·exact go _ (by omega) rfl
   refine .ret ⟨fun y hy=>?_,fun y hy=>by cases hy⟩;cases hy;rfl
  exact stop
 exact stop
theorem GW(s:qa)(hs:s.length<=BN)(qk:Int):
  qB (sf s qk) (fun r=>r.2.2=true->0<=qk/\qk<r.2.1/\r.2.1<s.length/\(vW r.1:Int)<=1000*(r.2.1-qk)):=by
 have hB:s.length<=8192:=hs;unfold sf;refine .tI ?_ ?_<;>intro hT
 ·exact .ret (by simp)
 refine .bind .get fun c hc=>?_;refine .tI ?_ ?_<;>intro hT
 ·exact .ret (by simp)
 (repeat (first|(rw [qI];rotate_left;omega;omega)|(rw [xp];rotate_left;omega;omega)))
 refine .bind (U2 s hs _ _ (qk+1) [] rfl (by omega) (by omega) (by simp;omega)) fun v hv=>?_;simp only[List.length_nil]at hv;refine .tI ?_ ?_<;>intro hT
 ·exact .ret (by simp)
 refine .bind (MQ v.2) fun w hw=>?_;refine .tI ?_ ?_<;>intro hT
 ·exact .ret (by simp)
 have XG:=hT;have Tt:=hw XG
 (repeat (first|(rw [qI];rotate_left;omega;omega)|(rw [xp];rotate_left;omega;omega)))
 refine .bind (MR s hs (v.1+1)) fun y hy=>?_;refine .tI ?_ ?_<;>intro hT
 ·exact .ret (by simp)
 have Yr:=hT;have Wd:=hy Yr
 (repeat (first|(rw [qI];rotate_left;omega;omega)|(rw [xp];rotate_left;omega;omega)))
 refine .bind (U3 s hs _ _ _ _ (y.2.1+1) _ rfl (by omega)) fun z hz=>?_;rcases z with z|z
 ·have:=hz.1 z rfl;exact .ret fun h=>by simp only[this]at h;cases h
 obtain⟨g1,g2⟩:=hz.2 z rfl;refine .tI ?_ ?_<;>intro hT
 ·exact .ret (by simp)
 refine .ret fun _=>?_;simp only[g2];simp only[vW];omega
def F0(s:qa):Nat:=1+s.length
mutual
def ml:qA->Nat
 |⟨_,t,_,_,_,f,o,qy⟩=>1+t.length+vW f+qK (o.l.map F0)+snWS qy
def snWS:Sl qA->Nat
 |⟨_,l⟩=>OL l
def OL:List qA->Nat
 |[]=>0
 |x::r=>ml x+OL r
end
theorem Bl: ∀l:List qA,OL l=qK (l.map ml)
 |[]=>by simp[OL,qK]
 |x::r=>by simp[OL,qK,Bl r]
theorem bt(x:qA):ml x=1+x.text.length+vW x.qP+qK (x.opts.l.map F0)+qK (x.qy.l.map ml):=by
 cases x with|mk a b c d e f g h=>cases h;simp[ml,snWS,Bl]
theorem rI(x:qA):1<=ml x:=by rw[bt];omega
theorem YM(x:qa):1<=F0 x:=by unfold F0;omega
theorem lq(s:qa)(hs:s.length<=BN)(qk:Int)(h0:0<=qk)(h1:qk<s.length)(c:Bool):qB (mR s qk c) (fun r=>r=true->qk+1<s.length):=by
 have hB:s.length<=8192:=hs;unfold mR;refine .bind (qB.get h0 h1) fun b hb=>?_;refine .tI ?_ ?_<;>intro hT
 ·exact .ret (by simp)
 (repeat (first|(rw [qI];rotate_left;omega;omega)|(rw [xp];rotate_left;omega;omega)))
 refine .bind .get fun b2 hb2=>?_
 repeat' (first|(refine .tI ?_ ?_<;>intro hT)|exact .ret (fun _=>by omega))
theorem GG(s:qa)(hs:s.length<=BN)(w:List qA)(es:List Int)(a1:Int)(fS:0<=a1): ∀(m:Nat)(qk:Int)(l:List qa)(t:List UInt8),m=(s.length-qk).toNat->a1<=qk->qk<=s.length->(qK (l.map F0)+t.length:Int)<=qk-a1->
  qB (xL (qk,s,w,es,l,t)) (fun r=>qk<=r.1/\r.1<=s.length/\(qK (r.2.1.map F0)+r.2.2.length:Int)<=r.1-a1):=by
 have hB:s.length<=8192:=hs;intro m;induction m using Nat.strongRecOn with
 |_ m ih=>
 intro qk l t hm h0 h1 hw;have hl:=xg YM l;rw[xL.eq_1];refine .tI ?_ ?_<;>intro hT
 ·refine .bind .get fun c hc=>?_;refine .tI ?_ ?_<;>intro hT
  ·refine .tI ?_ ?_<;>intro hT
   ·refine .zm qC ?_
    (repeat (first|(rw [qI];rotate_left;omega;omega)|(rw [xp];rotate_left;omega;omega)))
    exact(ih _ (by omega) (qk+1) _ _ rfl (by omega) (by omega) (by rw[jS];simp only[F0,List.length_nil];omega)).mono fun r hr=>⟨by omega,hr.2.1,hr.2.2⟩
   refine .bind (lq s hs qk (by omega) (by omega) true) fun v hv=>?_;refine .tI ?_ ?_<;>intro hT
   ·have XG:=hT;have:=hv XG
    (repeat (first|(rw [qI];rotate_left;omega;omega)|(rw [xp];rotate_left;omega;omega)))
    refine .bind .get fun c2 Yr=>?_;refine .zm qC ?_
    (repeat (first|(rw [qI];rotate_left;omega;omega)|(rw [xp];rotate_left;omega;omega)))
    exact(ih _ (by omega) (qk+1+1) _ _ rfl (by omega) (by omega) (by simp;omega)).mono fun r hr=>⟨by omega,hr.2.1,hr.2.2⟩
   refine .zm qC ?_
   (repeat (first|(rw [qI];rotate_left;omega;omega)|(rw [xp];rotate_left;omega;omega)))
   exact(ih _ (by omega) (qk+1) _ _ rfl (by omega) (by omega) (by simp;omega)).mono fun r hr=>⟨by omega,hr.2.1,hr.2.2⟩
  exact .ret ⟨by simp,h1,hw⟩
 exact .ret ⟨by simp,h1,hw⟩
theorem Iq(s:qa)(hs:s.length<=BN)(w:List qA)(es:List Int)(qk:Int)(h0:0<=qk)(h1:qk<=s.length):
  qB (uo qk s w es) (fun r=>r.2>=0->qk<=r.2/\r.2<s.length/\(qK (r.1.l.map F0):Int)<=r.2-qk+1):=by
 have hB:s.length<=8192:=hs;unfold uo;refine .bind (GG s hs w es qk h0 _ qk [] [] rfl (by omega) h1 (by simp[qK])) fun v hv=>?_;have hl:=xg YM v.2.1;refine .tI ?_ ?_<;>intro hT
 ·exact .ret (by simp)
 refine .zm qC ?_;refine .ret fun _=>⟨by simp only;omega,by simp only;omega, ?_⟩;simp only[jS,F0];omega
theorem Ge(l:Sl qA)(hw:qK (l.l.map ml)<=100000000): ∀(r:List qA)(k:Nat)(out:List qA),l.l.drop k=r->qK (out.map ml)+qK (r.map ml)<=qK (l.l.map ml)->
  qB (jx (l,(k:Int),out)) (fun t=>qK (t.map ml)<=qK (l.l.map ml)):=by
 have hl:=xg rI l.l;intro r;induction r with
 |nil=>
  intro k out hk hs;rw[jx.eq_1];have:=wU hk;refine .tI ?_ ?_<;>intro hT
  ·omega
  exact .ret (by simp[qK]at hs;exact hs)
 |cons x r ih=>
  intro k out hk hs;obtain⟨h1,h2,h3⟩:=drop_cons hk;have M4:=xg rI out;simp only[List.map_cons,qK]at hs;rw[jx.eq_1];have e1:IntKind.i64.wrap ((k:Int)+1)=((k+1:Nat):Int):=cu (by omega);rw[e1];have hg:qB (qi l.l (k:Int)) (fun y=>y=x):=⟨x,by rw[j8 h3];simpa[kU h3]using h1,rfl⟩;have put:qB (if qg (out.length+1) 224=true then jx (l,((k+1:Nat):Int),(out++[x]))else none) (fun t=>qK (t.map ml)<=qK (l.l.map ml)):=by
   refine .zm qC ?_;exact ih (k+1) _ h2 (by rw[jS];omega)
  refine .tI ?_ ?_<;>intro hT
  ·refine .bind hg fun y hy=>?_;subst hy;refine .tI ?_ ?_<;>intro hT
   ·refine .tI ?_ ?_<;>intro hT
    ·exact ih (k+1) _ h2 (by omega)
    refine .tI ?_ ?_<;>intro hT
    ·have e2:IntKind.i64.wrap ((out.length:Int)-1)=(out.length:Int)-1:=qI (by omega) (by omega);rw[e2];refine .bind .get fun z hz=>?_;refine .tI ?_ ?_<;>intro hT
     ·have hz2:=xA (f:=ml) hz.2;have hzw:=bt z;have hyw:=bt y;refine .zm (by omega) ?_;refine ih (k+1) _ h2 ?_;have:=o0 ml out ((out.length:Int)-1).toNat (qA.mk z.kind (z.text++y.text) z.n z.has z.qJ z.qP z.opts z.qy) z hz.1;have e3:=bt (qA.mk z.kind (z.text++y.text) z.n z.has z.qJ z.qP z.opts z.qy);simp only[List.length_append]at e3;omega
     exact put
    exact put
   exact put
  omega
theorem EH(l:Sl qA)(hw:qK (l.l.map ml)<=100000000):qB (d6 l) (fun t=>qK (t.l.map ml)<=qK (l.l.map ml)):=by
 unfold d6;have h:=Ge l hw l.l 0 [] rfl (by simp[qK]);rw[show ((0:Nat):Int)=0 from rfl]at h;refine .bind h fun v hv=>?_;exact .ret hv
theorem PH(t:qa):ml (qA.mk (0:Int) t (0:Int) false false (zf.mk (qF.mk (0:Int) ([]:qa) false (⟨true,[]⟩:(Sl qT)) (0:Int) (0:Int) false (⟨true,[]⟩:(Sl qF))) (⟨true,[]⟩:(Sl zl)) false false) (⟨true,[]⟩:(Sl qa)) (⟨true,[]⟩:(Sl qA)))=2+t.length:=by
 rw[bt];simp[vW,vS,qK];omega
structure VY (s:qa) (w:List qA) (es:List Int):Prop where
 lw:w.length=s.length
 le:es.length=s.length
 ok: ∀(p:Nat)(e:Int)(x:qA),es[p]? =some e->0<e->w[p]? =some x->(p:Int)<e/\e<=s.length/\(ml x+2:Int)<=1000*(e-p)
def QS(s:qa)(a1 qk:Int)(r:Int×List qA×List UInt8):Prop:=qk<=r.1/\r.1<=s.length/\(qK (r.2.1.map ml)+r.2.2.length:Int)<=1000*(r.1-a1)
theorem YX(s:qa)(hs:s.length<=BN)(w:List qA)(es:List Int)(hS:VY s w es)(br:Bool)(a1:Int)(fS:0<=a1): ∀(m:Nat)(qk:Int)(l:List qA)(t:List UInt8),m=(s.length-qk).toNat->a1<=qk->qk<=s.length->(qK (l.map ml)+t.length:Int)<=1000*(qk-a1)->
  qB (za (qk,br,s,w,es,l,t)) (QS s a1 qk):=by
 have hB:s.length<=8192:=hs;intro m;induction m using Nat.strongRecOn with
 |_ m ih=>
 intro qk l t hm h0 h1 hw;have hl:=xg rI l;have stop:qB (some (qk,l,t)) (QS s a1 qk):= .ret ⟨by simp,h1,hw⟩;have go: ∀(a2:Int)(l2:List qA)(t2:List UInt8),qk<a2->a2<=s.length->(qK (l2.map ml)+t2.length:Int)<=1000*(a2-a1)->qB (za (a2,br,s,w,es,l2,t2)) (QS s a1 qk):=by
  intro a2 l2 t2 g1 g2 g3;exact(ih _ (by omega) a2 l2 t2 rfl (by omega) g2 g3).mono fun r hr=>⟨by have:=hr.1;omega,hr.2.1,hr.2.2⟩
 have two:qk<s.length-> ∀e:Int,es[qk.toNat]? =some e->0<e-> ∀f:qA,ml f=2+t.length->qB (qi w qk>>=fun Wx=>
      if qg (l.length+2) 224=true then
       za (e,br,s,w,es,(l++[f,Wx]),([]:List UInt8))
      else none) (QS s a1 qk):=by
  intro xB e he h2 f hf;refine .bind (qB.get (by omega) (by have:=hS.lw;omega)) fun x hx=>?_;obtain⟨g1,g2,g3⟩:=hS.ok qk.toNat e x he h2 hx.1;refine .zm qC ?_;refine go e _ _ (by omega) g2 ?_;simp only[List.map_append,List.map_cons,List.map_nil,gu,qK,List.length_nil,hf];omega
 have text:qk<s.length-> ∀c:UInt8,qB (if qg (t.length+1) 1=true then za ((IntKind.i64.wrap (qk+(1:Int))),br,s,w,es,l,(t++[c]))else none) (QS s a1 qk):=by
  intro xB c;refine .zm qC ?_
  (repeat (first|(rw [qI];rotate_left;omega;omega)|(rw [xp];rotate_left;omega;omega)))
  exact go (qk+1) _ _ (by omega) (by omega) (by simp;omega)
 have esc:qk+1<s.length->qB (qi s (IntKind.i64.wrap (qk+(1:Int)))>>=fun Lu=>
       if qg (t.length+1) 1=true then
        za ((IntKind.i64.wrap ((IntKind.i64.wrap (qk+(1:Int)))+(1:Int))),br,s,w,es,l,(t++[Lu]))
       else none) (QS s a1 qk):=by
  intro xB
  (repeat (first|(rw [qI];rotate_left;omega;omega)|(rw [xp];rotate_left;omega;omega)))
  refine .bind .get fun c hc=>?_;refine .zm qC ?_
  (repeat (first|(rw [qI];rotate_left;omega;omega)|(rw [xp];rotate_left;omega;omega)))
  exact go (qk+1+1) _ _ (by omega) (by omega) (by simp;omega)
 rw[za.eq_1];refine .tI ?_ ?_<;>intro hT
 ·have xB:=hT;refine .tI ?_ ?_<;>intro hT
  ·refine .bind .get fun c hc=>?_;refine .tI ?_ ?_<;>intro hT
   ·refine .bind (qB.get (by omega) (by have:=hS.le;omega)) fun e he=>?_;refine .tI ?_ ?_<;>intro hT
    ·have h2:=hT;exact two xB e he.1 h2 _ (PH t)
    refine .bind (lq s hs qk (by omega) (by omega) false) fun v hv=>?_;refine .tI ?_ ?_<;>intro hT
    ·have h3:=hT;exact esc (hv h3)
    exact text xB c
   exact stop
  refine .bind (qB.get (by omega) (by have:=hS.le;omega)) fun e he=>?_;refine .tI ?_ ?_<;>intro hT
  ·have h2:=hT;exact two xB e he.1 h2 _ (PH t)
  refine .bind (lq s hs qk (by omega) (by omega) false) fun v hv=>?_;refine .tI ?_ ?_<;>intro hT
  ·have h3:=hT;exact esc (hv h3)
  refine .bind .get fun c hc=>?_;exact text xB c
 exact stop
theorem Vq(s:qa)(hs:s.length<=BN)(w:List qA)(es:List Int)(hS:VY s w es)(qk:Int)(h0:0<=qk)(h1:qk<=s.length)(br:Bool):
  qB (wd qk br s w es) (fun r=>(r.2>=0->qk<=r.2/\r.2<=s.length/\(br=true->r.2<s.length)/\(qK (r.1.l.map ml):Int)<=1000*(r.2-qk)+2)/\(br=false->0<=r.2)):=by
 have hB:s.length<=8192:=hs;unfold wd;refine .bind (YX s hs w es hS br qk h0 _ qk [] [] rfl (by omega) h1 (by simp[qK])) fun v hv=>?_;obtain⟨g1,g2,g3⟩:=hv;have hl:=xg rI v.2.1;have:= @EH;have:= @jS;have:= @PH;exact tW
structure HeadQ (s:qa) (qk:Int) (r:qA×Int×Bool):Prop where
 lt:qk<r.2.1
 le:r.2.1<=s.length
 text:(r.1.text.length:Int)<=r.2.1-qk
 qP:vW r.1.qP=1
 opts:r.1.opts.l=[]
 qy:r.1.qy.l=[]
theorem G4(s:qa)(hs:s.length<=BN)(w:List qA)(es:List Int)(qk:Int)(h0:0<=qk)(h1:qk<=s.length):
  qB (ve qk s w es) (fun r=>r.2.2=true->HeadQ s qk r):=by
 unfold ve;refine .bind (cL s hs qk h0 h1) fun v hv=>?_;refine .tI ?_ ?_<;>intro hT
 ·have hc:=hT;have:=hv.2.2 hc;exact .ret fun _=>⟨by simp only;omega,by simp only;omega,by simp only[List.length_nil];omega,by simp[vW,vS,qK],rfl,rfl⟩
 refine .bind (D8 s hs w es qk h0 h1) fun y hy=>?_;refine .tI ?_ ?_<;>intro hT
 ·have hc:=hT;have:=hy.2.2.2 hc;exact .ret fun _=>⟨by simp only;omega,by simp only;omega,by simp only;omega,by simp[vW,vS,qK],rfl,rfl⟩
 exact .ret (by simp)
def QQ(s:qa)(qk:Int)(r:qA×Int×Bool):Prop:=r.2.2=true->qk<r.2.1/\r.2.1<=s.length/\(ml r.1+2:Int)<=1000*(r.2.1-qk)
theorem Nw(s:qa)(hs:s.length<=BN)(w:List qA)(es:List Int)(hS:VY s w es)(qk:Int)(h0:0<=qk)(h1:qk<s.length):qB (vI qk s w es) (QQ s qk):=by
 have hB:s.length<=8192:=hs;unfold vI
 (repeat (first|(rw [qI];rotate_left;omega;omega)|(rw [xp];rotate_left;omega;omega)))
 refine .bind (G4 s hs w es (qk+1) (by omega) (by omega)) fun v hv=>?_;refine .tI ?_ ?_<;>intro hT
 ·have hc:=hT;obtain⟨g1,g2,g3,g4,g5,g6⟩:=hv hc;refine .ret fun _=>⟨by simp only;omega,g2, ?_⟩;simp only[bt,g4,g5,g6,List.map_nil,qK];omega
 refine .tI ?_ ?_<;>intro hT
 ·exact .ret (by simp[QQ])
 refine .bind .get fun b hb=>?_;refine .tI ?_ ?_<;>intro hT
 ·exact .ret (by simp[QQ])
 (repeat (first|(rw [qI];rotate_left;omega;omega)|(rw [xp];rotate_left;omega;omega)))
 refine .bind (G4 s hs w es (qk+2) (by omega) (by omega)) fun v hv=>?_;refine .tI ?_ ?_<;>intro hT
 ·exact .ret (by simp[QQ])
 have hc:=hT;obtain⟨g1,g2,g3,g4,g5,g6⟩:=hv hc.1;refine .bind .get fun c Yr=>?_
 (repeat (first|(rw [qI];rotate_left;omega;omega)|(rw [xp];rotate_left;omega;omega)))
 refine .tI ?_ ?_<;>intro hT
 ·refine .ret fun _=>⟨by simp only;omega,by simp only;omega, ?_⟩;simp only[bt,g4,g5,g6,List.map_nil,qK];omega
 (repeat (first|(rw [qI];rotate_left;omega;omega)|(rw [xp];rotate_left;omega;omega)))
 refine .tI ?_ ?_<;>intro hT
 ·refine .bind (Vq s hs w es hS (v.2.1+1) (by omega) (by omega) true) fun y hy=>?_;refine .ret fun h=>?_;simp only[decide_eq_true_eq]at h;obtain⟨k1,k2,k3,k4⟩:=hy.1 h;have:=k3 rfl;simp only;rw[qI (by omega) (by omega)];refine⟨by omega,by omega, ?_⟩;simp only[bt,g4,g5,List.map_nil,qK];omega
 refine .tI ?_ ?_<;>intro hT
 ·refine .bind (GW s hs v.2.1) fun y hy=>?_;refine .ret fun h=>?_;obtain⟨k1,k2,k3,k4⟩:=hy h;simp only;rw[qI (by omega) (by omega)];refine⟨by omega,by omega, ?_⟩;simp only[bt,g5,g6,List.map_nil,qK];omega
 (repeat (first|(rw [qI];rotate_left;omega;omega)|(rw [xp];rotate_left;omega;omega)))
 refine .tI ?_ ?_<;>intro hT
 ·refine .bind (Iq s hs w es (v.2.1+1) (by omega) (by omega)) fun y hy=>?_;refine .ite (fun hT=>?_) fun hT=>?_<;>(try simp only[tfx.down]at hT)<;>(try simp(oX:=omega) only[qI,xp]at hT)
  ·have hc3:=hT;obtain⟨k1,k2,k3⟩:=hy hc3.1
   (repeat (first|(rw [qI];rotate_left;omega;omega)|(rw [xp];rotate_left;omega;omega)))
   refine .bind .get fun d hd=>?_;refine .ret fun h=>⟨by simp only;omega,by simp only;omega, ?_⟩;simp only[bt,g4,g6,List.map_nil,qK];omega
  exact .ret (by simp[QQ])
 exact .ret (by simp[QQ])
theorem VY.set{s:qa}{w:List qA}{es:List Int}(hS:VY s w es){qk:Int}(h0:0<=qk)(h1:qk<s.length){x:qA}{e:Int}(h:qk<e/\e<=s.length/\(ml x+2:Int)<=1000*(e-qk)):
  VY s (w.set qk.toNat x) (es.set qk.toNat e) where
 lw:=by simpa using hS.lw
 le:=by simpa using hS.le
 ok:=by
  intro p e2 x2 h2 h3 h4;rw[List.getElem?_set]at h2 h4;by_cases hp:qk.toNat=p
  ·exact tW
  rw[if_neg hp]at h2 h4;exact hS.ok p e2 x2 h2 h3 h4
theorem Wk(s:qa)(hs:s.length<=BN): ∀(m:Nat)(qk:Int)(w:List qA)(es:List Int),m=(qk+1).toNat-> -1<=qk->qk<s.length->VY s w es->
  qB (vZ (s,qk,w,es,s)) (fun r=>VY s r.1 r.2):=by
 have hB:s.length<=8192:=hs;intro m;induction m using Nat.strongRecOn with
 |_ m ih=>
 intro qk w es hm h0 h1 hS;rw[vZ.eq_1];refine .tI ?_ ?_<;>intro hT
 ·refine .bind .get fun c hc=>?_;refine .tI ?_ ?_<;>intro hT
  ·refine .bind (Nw s hs w es hS qk (by omega) h1) fun y hy=>?_;refine .tI ?_ ?_<;>intro hT
   ·have Yr:=hT;refine .bind (qB.get (by omega) (by have:=hS.lw;omega)) fun p hp=>?_;refine .bind (qB.get (by omega) (by have:=hS.le;omega)) fun q hq=>?_
    (repeat (first|(rw [qI];rotate_left;omega;omega)|(rw [xp];rotate_left;omega;omega)))
    exact ih _ (by omega) (qk-1) _ _ rfl (by omega) (by omega) (hS.set (by omega) h1 (hy Yr))
   exact tW
  exact tW
 exact .ret hS
theorem HP: ∀(n:Nat)(l:Sl qA),qK (l.l.map ml)<=n->n<=100000000->qB (gO l) (fun r=>0<=r/\r<=n):=by
 intro n;induction n using Nat.strongRecOn with
 |_ n ih=>
 intro l hl hn;have hlen:=xg rI l.l;have loop: ∀(r:List qA)(k:Nat)(d:Int),l.l.drop k=r->0<=d->d<=n->qB (kB (l,d,(k:Int))) (fun r=>0<=r/\r<=n):=by
  intro r;induction r with
  |nil=>
   intro k d hk h1 h2;rw[kB.eq_1];have:=wU hk;refine .tI ?_ ?_<;>intro hT
   ·omega
   exact .ret ⟨h1,h2⟩
  |cons x r XJ=>
   intro k d hk h1 h2;obtain⟨e1,e2,e3⟩:=drop_cons hk;have hx:=xA (f:=ml) (qX e1);have hxw:=bt x;rw[kB.eq_1];have e4:IntKind.i64.wrap ((k:Int)+1)=((k+1:Nat):Int):=cu (by omega);rw[e4];refine .tI ?_ ?_<;>intro hT
   ·refine .bind (P:=fun y=>y=x) ⟨x,by rw[j8 e3];simpa[kU e3]using e1,rfl⟩ fun y hy=>?_;subst hy;refine .bind (ih (n-1) (by omega) y.qy (by omega) (by omega)) fun z hz=>?_;refine .tI ?_ ?_<;>intro hT
    ·(repeat (first|(rw [qI];rotate_left;omega;omega)|(rw [xp];rotate_left;omega;omega)))
     exact XJ (k+1) _ e2 (by split<;>omega) (by split<;>omega)
    exact XJ (k+1) _ e2 (by split<;>omega) (by split<;>omega)
   omega
 have h:=loop l.l 0 0 rfl (by omega) (by omega);rw[show ((0:Nat):Int)=0 from rfl]at h;rw[gO.eq_1];first
 |exact h
 |(refine .bind h fun v hv=>?_;exact .ret hv)
theorem OC(s:qa)(x:qA):VY s (List.replicate s.length x) (List.replicate s.length (0:Int)) where
 lw:=by simp
 le:=by simp
 ok:=by
  intro p e y h1 h2 h3;have:e=0:=by
   have:=qX h1;exact(List.mem_replicate.1 this).2
  omega
theorem MS(s:qa):qB (d7 s) (fun r=>qK (r.1.l.map ml)<=8192002/\(r.2=0->s.length<=BN)):=by
 unfold d7;refine .tI ?_ ?_<;>intro hT
 ·exact .ret ⟨by simp[qK],by simp⟩
 have hc:=hT;have hs:s.length<=BN:=by unfold BN;omega
 have e:(s.length:Int).toNat=s.length:=by simp
 refine .zm (by omega) ?_;rw[e];refine .zm qC ?_;refine .zm (by omega) ?_;refine .zm qC ?_
 (repeat (first|(rw [qI];rotate_left;omega;omega)|(rw [xp];rotate_left;omega;omega)))
 refine .bind (Wk s hs _ ((s.length:Int)-1) _ _ rfl (by omega) (by omega) (OC s _)) fun v hv=>?_;refine .bind (Vq s hs v.1 v.2 hv 0 (by omega) (by omega) false) fun y hy=>?_;obtain⟨k1,k2,_,k4⟩:=hy.1 (hy.2 rfl);refine .bind (HP 8192002 y.1 (by omega) (by omega)) fun z hz=>?_;refine .tI ?_ ?_<;>intro hT
 ·exact .ret ⟨by simp[qK],fun _=>hs⟩
 exact .ret ⟨by simp only;omega,fun _=>hs⟩
theorem vH{α:Type}{xs:List α}{k:Nat}(h:xs.drop k=[]): ¬((k:Int)<(xs.length:Int)):=by
 have:=wU h;omega
theorem wv{α:Type}{xs r:List α}{x:α}{k:Nat}(h:xs.drop k=x::r):(k:Int)<(xs.length:Int)/\qi xs (k:Int)=some x/\xs.drop (k+1)=r/\x∈xs:=by
 obtain⟨a,b,c⟩:=drop_cons h;refine⟨by omega, ?_,b,qX a⟩;rw[j8 c];exact tW
theorem ia{α:Type}{xs:List α}{k:Nat}(hl:xs.length<=9223372036854775807)(h:(k:Int)<(xs.length:Int)):IntKind.i64.wrap ((k:Int)+1)=((k+1:Nat):Int):=cu (by omega)
theorem wr{n:Int}(h1: -(2^62)<=n)(h2:n<=2^62):IntKind.i64.wrap n=n:=qI (by omega) (by omega)
theorem Kl{P:qF->Prop}(h: ∀x,(∀ y∈x.qy.l,P y)->P x)(x:qF):P x:=by
 have key: ∀n(x:qF),tq x<n->P x:=by
  intro n;induction n with
  |zero=>intro x hx;omega
  |succ n ih=>
   intro x hx;have:= @xA;have:= @vS;exact tW
 exact key _ x (Nat.lt_succ_self _)
theorem dC(x:qF):x.qy.l.length<tq x:=by have:=xg eG x.qy.l;rw[vS];omega
theorem RK{x y:qF}(h:y∈x.qy.l):tq y<tq x:=by have:=xA (f:=tq) h;rw[vS x];omega
abbrev ku(x:qF):Prop:=tq x<=1099511627776
theorem bP{x y:qF}(h:ku x)(hy:y∈x.qy.l):ku y:=by have:=RK hy;unfold ku at *; omega
theorem GN: ∀x:qF,ku x->qB (uf x) (fun _=>True):=by
 apply Kl (P:=fun x=>ku x->qB (uf x) (fun _=>True));intro x ih0 hw;have hk:=dC x;have key: ∀(r:List qF)(k:Nat)(n:Int),x.qy.l.drop k=r->qB (kF (n,(k:Int),x)) (fun _=>True):=by
  intro r;induction r with
  |nil=>
   intro k n hd;rw[kF.eq_1,if_neg (by simpa using vH hd)];exact .ret trivial
  |cons y r ih=>
   intro k n hd;obtain⟨a1,a2,a3,a4⟩:=wv hd;rw[kF.eq_1,if_pos (by simpa using a1),ia (by unfold ku at hw;omega) a1];refine .go a2 ?_;exact .bind (ih0 y a4 (bP hw a4)) fun v _=>ih (k+1) _ a3
 rw[uf.eq_1];exact .bind (key x.qy.l 0 1 rfl) fun v _=> .ret trivial
theorem NL: ∀x:qF,ku x->qB (gI x) (fun _=>True):=by
 apply Kl (P:=fun x=>ku x->qB (gI x) (fun _=>True));intro x ih0 hw;have hk:=dC x;have key: ∀(r:List qF)(k:Nat)(n:Int),x.qy.l.drop k=r->qB (wy (n,(k:Int),x)) (fun _=>True):=by
  intro r;induction r with
  |nil=>
   intro k n hd;rw[wy.eq_1,if_neg (by simpa using vH hd)];exact .ret trivial
  |cons y r ih=>
   intro k n hd;obtain⟨a1,a2,a3,a4⟩:=wv hd;rw[wy.eq_1,if_pos (by simpa using a1),ia (by unfold ku at hw;omega) a1];refine .go a2 ?_;exact .bind (ih0 y a4 (bP hw a4)) fun v _=>ih (k+1) _ a3
 rw[gI.eq_1];refine .bind (key x.qy.l 0 0 rfl) fun v _=>?_;refine .tI ?_ ?_<;>intro hT
 ·exact .ret trivial
 exact .ret trivial
mutual
def sy:qF->Nat
 |⟨k,_,_,_,_,_,_,s⟩=>(if k=5 then 1 else 0)+rxGS s
def rxGS:Sl qF->Nat
 |⟨_,l⟩=>Ox l
def Ox:List qF->Nat
 |[]=>0
 |x::r=>sy x+Ox r
end
theorem Bg: ∀l:List qF,Ox l=qK (l.map sy)
 |[]=>by simp[Ox,qK]
 |x::r=>by simp[Ox,qK,Bg r]
theorem Kk(x:qF):sy x=(if x.kind=5 then 1 else 0)+qK (x.qy.l.map sy):=by
 obtain⟨a,b,c,d,e,f,g,h⟩:=x;obtain⟨u,l⟩:=h;simp[sy,rxGS,Bg]
theorem RQ{α:Type}{f g:α->Nat}: ∀{l:List α},(∀ a∈l,f a<=g a)->qK (l.map f)<=qK (l.map g)
 |[],_=>by simp[qK]
 |a::l,h=>by
  have h1:=h a (by simp);have h2:=RQ (l:=l) fun b hb=>h b (by simp[hb]);simp only[List.map_cons,qK];omega
theorem Pp: ∀x:qF,sy x<=tq x:=by
 apply Kl;intro x ih;have:=RQ ih;rw[Kk,vS];split<;>omega
theorem fR: ∀x:qF,ku x->jC x=some (sy x:Int):=by
 apply Kl (P:=fun x=>ku x->jC x=some (sy x:Int));intro x ih0 hw;have hk:=dC x;have hp:=Pp x;have key: ∀(r:List qF)(k n:Nat),x.qy.l.drop k=r->n+qK (r.map sy)<=1099511627776->jw ((n:Int),(k:Int),x)=some ((n+qK (r.map sy):Nat):Int):=by
  intro r;induction r with
  |nil=>
   intro k n hd _;rw[jw.eq_1,if_neg (by simpa using vH hd)];simp[qK]
  |cons y r ih=>
   intro k n hd hn;obtain⟨a1,a2,a3,a4⟩:=wv hd;simp only[List.map_cons,qK]at hn;have e:IntKind.i64.wrap ((n:Int)+(sy y:Int))=((n+sy y:Nat):Int):=by rw[wr (by omega) (by omega)];omega
   rw[jw.eq_1];simp only[a1,decide_true,if_true,a2,xe,z7,ih0 y a4 (bP hw a4),ia (by unfold ku at hw;omega) a1,e];rw[ih (k+1) (n+sy y) a3 (by omega)];simp only[List.map_cons,qK,kX,Int.natCast_inj];omega
 have hg:=Kk x;rw[jC.eq_1];unfold ku at hw;by_cases h5:x.kind=5
 ·rw[if_pos h5]at hg;have h:=key x.qy.l 0 1 rfl (by omega);rw[if_pos (by simp[h5]),show((1:Int),(0:Int),x)=(((1:Nat):Int),((0:Nat):Int),x)from rfl,h];simp[hg]
 rw[if_neg h5]at hg;have h:=key x.qy.l 0 0 rfl (by omega);rw[if_neg (by simp[h5]),show((0:Int),(0:Int),x)=(((0:Nat):Int),((0:Nat):Int),x)from rfl,h];simp[hg]
inductive WF:qF->Prop
 |mk (x:qF) (hk: ∀y∈x.qy.l,WF y) (h1:x.kind=5\/x.kind=6\/x.kind=7-> ∃y,x.qy.l=[y]) (h7:x.kind=7-> ∀y∈x.qy.l,2<=y.kind/\y.kind<=6):WF x
theorem WF.qy{x:qF}(h:WF x): ∀y∈x.qy.l,WF y:=by cases h;assumption
theorem WF.one{x:qF}(h:WF x):x.kind=5\/x.kind=6\/x.kind=7-> ∃y,x.qy.l=[y]:=by cases h;assumption
theorem WF.rep{x:qF}(h:WF x):x.kind=7-> ∀y∈x.qy.l,2<=y.kind/\y.kind<=6:=by cases h;assumption
theorem mL(x:qF):qB (yy x) (fun _=>True):=by
 unfold yy;refine .tI ?_ ?_<;>intro hT
 ·exact .ret trivial
 exact .ret trivial
def ZR(b:UInt8):Bool:=decide ((b.toNat:Int)<128) || decide ((b.toNat:Int)>191)
theorem XL(b:UInt8):vh b=some (ZR b):=by
 unfold vh ZR;by_cases h:(b.toNat:Int)<128<;>simp[h]
theorem Bs(s:qa)(hl:s.length<=1099511627776): ∀(r:qa)(k f:Nat)(l:List qa),s.drop k=r->k<=s.length->f<=k->l.length<=k->
  ∃out,zy (s,(f:Int),(k:Int),l)=some out/\out.length=l.length+r.countP ZR+1:=by
 have Kj: ∀n,n<=1099511627777->qg n 16=true:=by
  intro n hn;simp only[qg,zB,decide_eq_true_eq];omega
 intro r;induction r with
 |nil=>
  intro k f l hk mF hf SW;have h1:=wU hk;obtain rfl:k=s.length:=by omega
  have hs:kb s (f:Int) (s.length:Int)=some (s.drop f):=by
   unfold kb;rw[if_pos (by simp;omega)];simp
  rw[zy.eq_1];simp only[Int.le_refl,decide_true,if_true,beq_self_eq_true,hs,xe,z7,Kj _ (show l.length+1<=_ by omega)];rw[zy.eq_1,if_neg (by rw[wr (by omega) (by omega)];simp;omega)];exact⟨_,rfl,by simp⟩
 |cons b r ih=>
  intro k f l hk mF hf SW;obtain⟨a1,a2,a3,_⟩:=wv hk;have h1:((k:Int)<=(s.length:Int)):=by omega
  have h2:((k:Int)==(s.length:Int))=false:=by simp;omega
  have hs:kb s (f:Int) (k:Int)=some ((s.take k).drop f):=by
   unfold kb;rw[if_pos (by simp;omega)];simp
  rw[zy.eq_1];simp only[h1,decide_true,if_true,h2,w9,if_false,a2,xe,z7,XL,ia (by omega) a1];cases hb:ZR b
  ·obtain⟨out,o1,o2⟩:=ih (k+1) f l a3 (by omega) (by omega) (by omega);exact⟨out,by simpa using o1,by rw[o2];simp[List.countP_cons,hb]⟩
  obtain⟨out,o1,o2⟩:=ih (k+1) k (l++[(s.take k).drop f]) a3 (by omega) (by omega) (by simp;omega);refine⟨out, ?_,by rw[o2];simp[List.countP_cons,hb];omega⟩;simp only[if_true,hs,z7,Kj _ (show l.length+1<=_ by omega),o1]
theorem eB(c:qa)(hl:c.length<=1099511627776):qB (jf c) (fun _=>True):=by
 unfold jf vX;refine .tI ?_ ?_<;>intro hT
 ·refine .bind .get fun b hb=>?_;refine .go (XL b) ?_;refine .tI ?_ ?_<;>intro hT
  ·obtain⟨out,o1,o2⟩:=Bs c hl (c.drop 1) 1 0 [] rfl (by omega) (by omega) (by simp);exact .go (Option.bind_eq_some_iff.2 ⟨out,o1,rfl⟩) (.ret trivial)
  exact .ret trivial
 exact .ret trivial
theorem Pn(rows:Sl qT)(hw:qK (rows.l.map uv)<=1099511627776):qB (ai rows) (fun _=>True):=by
 have SW:rows.l.length<=1099511627776:=by have:=xg sx rows.l;omega
 have key: ∀(r:List qT)(k:Nat),rows.l.drop k=r->qB (ue (rows,(k:Int))) (fun _=>True):=by
  intro r;induction r with
  |nil=>
   intro k hk;rw[ue.eq_1,if_neg (by simpa using vH hk)];exact .ret trivial
  |cons x r ih=>
   intro k hk;obtain⟨a1,a2,a3,a4⟩:=wv hk;have hx:uv x<=1099511627776:=by have:=xA (f:=uv) a4;omega
   have ih:=ih (k+1) a3;unfold uv at hx;rw[ue.eq_1,if_pos (by simpa using a1),ia (by omega) a1];refine .go a2 ?_;refine .bind (eB x.qO (by omega)) fun v _=>?_;refine .tI ?_ ?_<;>intro hT
   ·exact .ret trivial
   refine .bind (eB x.to (by omega)) fun w _=>?_;refine .tI ?_ ?_<;>intro hT
   ·exact .ret trivial
   refine .tI ?_ ?_<;>intro hT
   ·(repeat (first|(rw [qI];rotate_left;omega;omega)|(rw [xp];rotate_left;omega;omega)))
    refine .bind .get fun b hb=>?_;refine .tI ?_ ?_<;>intro hT
    ·exact .ret trivial
    exact ih
   exact ih
 unfold ai;refine .bind (key rows.l 0 rfl) fun v _=>?_;rcases v with v|v<;>exact .ret trivial
theorem Mo{o:Option (Bool⊕Unit)}{f:Unit->Option Bool}{P:Prop}(h:qB o (fun v=>v= .inl true->False))(h2:o=some (.inr ())->qB (f ()) (fun c=>c=true->P)):
  qB (o>>=fun v=>match v with| .inl y=>some y| .inr y=>f y) (fun c=>c=true->P):=by
 obtain⟨v,rfl,hv⟩:=h;rcases v with v|v
 ·refine .go rfl (.ret fun hc=>?_);exact absurd (congrArg Sum.inl hc) hv
 exact .go rfl (h2 rfl)
theorem YH(x:qF)(hl:x.qy.l.length<=9223372036854775807): ∀(r:List qF)(k:Nat),x.qy.l.drop k=r->qB (gJ ((x.qy.l.length:Int),(k:Int),x)) (fun v=>v= .inl true->False):=by
 intro r;induction r with
 |nil=>
  intro k hk;rw[gJ.eq_1,if_neg (by simpa using vH hk)];exact .ret (by simp)
 |cons y r ih=>
  intro k hk;obtain⟨a1,a2,a3,a4⟩:=wv hk;rw[gJ.eq_1,if_pos (by simpa using a1),ia hl a1];refine .go a2 ?_;refine .tI ?_ ?_<;>intro hT
  ·exact .ret (by simp)
  refine .tI ?_ ?_<;>intro hT
  ·exact .ret (by simp)
  exact ih (k+1) a3
theorem YI(x:qF)(hl:x.qy.l.length<=9223372036854775807): ∀(r:List qF)(k:Nat),x.qy.l.drop k=r->qB (gK ((x.qy.l.length:Int),(k:Int),x)) (fun v=>v= .inl true->False):=by
 intro r;induction r with
 |nil=>
  intro k hk;rw[gK.eq_1,if_neg (by simpa using vH hk)];exact .ret (by simp)
 |cons y r ih=>
  intro k hk;obtain⟨a1,a2,a3,a4⟩:=wv hk;rw[gK.eq_1,if_pos (by simpa using a1),ia hl a1];refine .go a2 ?_;refine .tI ?_ ?_<;>intro hT
  ·exact .ret (by simp)
  exact ih (k+1) a3
theorem Ud(x:qF):qB (pV x) (fun c=>c=true-> ∃y,x.qy.l=[y]/\2<=y.kind/\y.kind<=6):=by
 unfold pV;refine .tI ?_ ?_<;>intro hT
 ·exact .ret (by simp)
 have h1:x.qy.l.length=1:=by omega
 obtain⟨y,hy⟩:=List.length_eq_one_iff.1 h1;refine .go (a:=y) (by rw[hy];rfl) ?_;refine .bind (mL _) fun v _=>?_;refine .tI ?_ ?_<;>intro hT
 ·refine .tI ?_ ?_<;>intro hT
  ·exact .ret fun _=>⟨y,hy,by omega,by omega⟩
  refine .ret fun h=>⟨y,hy, ?_⟩;simp only[beq_iff_eq]at h;omega
 exact .ret (by simp)
theorem Ux{x:qF}(hk:x.qy.l=[])(h:x.kind≠5/\x.kind≠6/\x.kind≠7):WF x:= .mk x (by simp[hk]) (fun h2=>by omega) (fun h2=>by omega)
theorem len_nil{α:Type}{l:List α}(h:(l.length:Int)=0):l=[]:=by
 cases l with
 |nil=>rfl
 |cons _ _=>simp at h;omega
theorem Ci: ∀x:qF,ku x->qB (nQ x) (fun c=>c=true->WF x):=by
 apply Kl (P:=fun x=>ku x->qB (nQ x) (fun c=>c=true->WF x));intro x ih0 hw;have hk:=dC x;have hx:=vS x;have hl:x.qy.l.length<=9223372036854775807:=by unfold ku at hw;omega
 have key: ∀(r:List qF)(k:Nat),x.qy.l.drop k=r->qB (vO ((x.qy.l.length:Int),(k:Int),x)) (fun v=>(v= .inl true->False)/\(v= .inr ()-> ∀y∈r,WF y)):=by
  intro r;induction r with
  |nil=>
   intro k hd;rw[vO.eq_1,if_neg (by simpa using vH hd)];exact .ret ⟨by simp,by simp⟩
  |cons y r ih=>
   intro k hd;obtain⟨a1,a2,a3,a4⟩:=wv hd;rw[vO.eq_1,if_pos (by simpa using a1),ia hl a1];refine .go a2 ?_;refine .bind (ih0 y a4 (bP hw a4)) fun v hv=>?_;refine .tI ?_ ?_<;>intro hT
   ·exact .ret ⟨by simp,by simp⟩
   have hv:=hv hT;refine(ih (k+1) a3).mono fun w h=>⟨h.1,fun hw=>?_⟩;intro z hz;rcases List.mem_cons.1 hz with rfl|hz
   ·exact hv
   exact h.2 hw z hz
 have key:=key x.qy.l 0 rfl;rw[show ((0:Nat):Int)=0 from rfl]at key;have e3:=YH x hl x.qy.l 0 rfl;have e5:=YI x hl x.qy.l 0 rfl;rw[show ((0:Nat):Int)=0 from rfl]at e3 e5;unfold ku at hw;rw[nQ.eq_1];refine Mo (key.mono fun v h=>h.1) fun hr=>?_;obtain⟨v,Qn,DS⟩:=key;rw[hr]at Qn;cases Qn;have qy:=DS.2 rfl;refine .tI ?_ ?_<;>intro hT
 ·have h0:=hT;refine Mo e3 fun _=>?_;refine .bind (mL _) fun v _=>?_;refine .tI ?_ ?_<;>intro hT
  ·exact .ret fun _=> .mk x qy (fun h=>by omega) (fun h=>by omega)
  exact .ret (by simp)
 refine .tI ?_ ?_<;>intro hT
 ·have h0:=hT;refine Mo e5 fun _=>?_;refine .bind (mL _) fun v _=>?_;refine .tI ?_ ?_<;>intro hT
  ·exact .ret fun _=> .mk x qy (fun h=>by omega) (fun h=>by omega)
  exact .ret (by simp)
 refine .tI ?_ ?_<;>intro hT
 ·have h0:=hT;refine .bind (mL _) fun v _=>?_;refine .tI ?_ ?_<;>intro hT
  ·have h1:=hT;refine .bind (eB x.char (by omega)) fun v _=>?_;exact .ret fun _=>Ux (len_nil h1.2) (by omega)
  exact .ret (by simp)
 refine .tI ?_ ?_<;>intro hT
 ·have h0:=hT;refine .bind (mL _) fun v _=>?_;refine .tI ?_ ?_<;>intro hT
  ·refine .ret fun h=>Ux (len_nil (by simpa using h)) (by omega)
  exact .ret (by simp)
 refine .tI ?_ ?_<;>intro hT
 ·have h0:=hT;refine .bind (mL _) fun v _=>?_;refine .tI ?_ ?_<;>intro hT
  ·have h1:=hT;refine .bind (Pn x.rows (by omega)) fun v _=>?_;exact .ret fun _=>Ux (len_nil h1.2) (by omega)
  exact .ret (by simp)
 refine .tI ?_ ?_<;>intro hT
 ·have h0:=hT;refine .bind (mL _) fun v _=>?_;refine .tI ?_ ?_<;>intro hT
  ·refine .ret fun h=> .mk x qy (fun _=>?_) (fun h=>by omega);exact List.length_eq_one_iff.1 (by simp at h;omega)
  exact .ret (by simp)
 refine .tI ?_ ?_<;>intro hT
 ·have h0:=hT;refine .bind (Ud x) fun v hv=>?_;refine .ret fun h=>?_;obtain⟨y,y1,y2⟩:=hv h;refine .mk x qy (fun _=>⟨y,y1⟩) (fun _ z hz=>?_);rw[y1]at hz;simp only[List.mem_singleton]at hz;subst hz;exact y2
 exact .ret (by simp)
theorem QR(x:qF)(hw:ku x):qB (rb x) (fun c=>c=true->WF x):=by
 unfold rb;refine .bind (GN x hw) fun v _=>?_;refine .tI ?_ ?_<;>intro hT
 ·refine .bind (NL x hw) fun v _=>?_;refine .tI ?_ ?_<;>intro hT
  ·refine .bind (Ci x hw) fun v hv=>?_;exact .ret hv
  exact .ret (by simp)
 exact .ret (by simp)
theorem Vb(fs:Sl zl)(hl:fs.l.length<=1099511627776):qB (cf fs) (fun c=>c=true-> ∀f∈fs.l,0<=f.n):=by
 have key: ∀(r:List zl)(k:Nat),fs.l.drop k=r->qB (xw (fs,(k:Int))) (fun v=>(v= .inl true->False)/\(v= .inr ()-> ∀f∈r,0<=f.n)):=by
  intro r;induction r with
  |nil=>
   intro k hk;rw[xw.eq_1,if_neg (by simpa using vH hk)];exact .ret ⟨by simp,by simp⟩
  |cons x r ih=>
   intro k hk;obtain⟨a1,a2,a3,a4⟩:=wv hk;have ih:=ih (k+1) a3;have next:0<=x.n->qB (xw (fs,((k+1:Nat):Int))) (fun v=>(v= .inl true->False)/\(v= .inr ()-> ∀f∈x::r,0<=f.n)):=by
    intro hx;refine ih.mono fun v h=>⟨h.1,fun hw z hz=>?_⟩;rcases List.mem_cons.1 hz with rfl|hz
    ·exact hx
    exact h.2 hw z hz
   have prev: ¬(k:Int)=0-> ∀{f:zl->Option (Bool⊕Unit)}{Q:Bool⊕Unit->Prop},(∀ y,qB (f y) Q)->qB (qi fs.l (IntKind.i64.wrap ((k:Int)-1))>>=f) Q:=by
    intro h f Q hf
    (repeat (first|(rw [qI];rotate_left;omega;omega)|(rw [xp];rotate_left;omega;omega)))
    exact .bind qB.get fun y _=>hf y
   rw[xw.eq_1,if_pos (by simpa using a1),ia (by omega) a1];refine .go a2 ?_
   repeat' (first|exact .ret ⟨by simp,by simp⟩|(refine .tI ?_ ?_<;>intro hT)|(refine prev ‹_› fun y=>?_)|refine .bind (K3 _) fun v _=>?_)
   all_goals exact next (by omega)
 unfold cf;exact tW
theorem Vc(f:zf)(hw:vW f<=1099511627776):qB (ch f) (fun c=>c=true->WF f.rx):=by
 have hl:=xg XD f.uz.l;unfold vW at hw;unfold ch;have:= @QR;have:= @Vb;exact tW
def o7:qF:=qF.mk (0:Int) ([]:qa) false (⟨true,[]⟩:(Sl qT)) (0:Int) (0:Int) false (⟨true,[]⟩:(Sl qF))
def sD:zf:=zf.mk o7 (⟨true,([]:List zl)⟩:(Sl zl)) false false
theorem D9(x:qF):qB (nv (x,o7)) (fun _=>True):=by
 rw[nv.eq_1];refine .tI ?_ ?_<;>intro hT
 ·exact .ret trivial
 have h:=hT;simp only[o7,List.length_nil]at h;have h1:x.rows.l.length=0:=by omega
 have h2:x.qy.l.length=0:=by omega
 refine .go (a:= .inr ()) (by rw[mz.eq_1];simp[h1]) ?_;refine .go (a:= .inr ()) (by rw[uD.eq_1];simp[h2]) ?_;exact .ret trivial
theorem Z5(f:zf):qB (yC f sD) (fun _=>True):=by
 unfold yC;refine .bind (D9 f.rx) fun v _=>?_;refine .tI ?_ ?_<;>intro hT
 ·exact .ret trivial
 have h:=hT;simp only[sD,List.length_nil]at h;have h1:f.uz.l.length=0:=by omega
 refine .go (a:= .inr ()) (by rw[uk.eq_1];simp[h1]) ?_;exact .ret trivial
inductive WS:qA->Prop
 |mk (x:qA) (hk: ∀y∈x.qy.l,WS y) (h0:x.kind=0->x.qy.l=[]) (h2:x.kind=2->x.has=false/\x.qJ=false/\x.qy.l=[]/\0<x.opts.l.length)
   (h1:x.kind=1\/x.kind=3->x.opts.l=[]/\(x.has=true->x.qJ=false)/\(x.has=false->x.qy.l=[])) (hd:0<=x.kind/\x.kind<=3)
   (hn:x.kind=1\/x.kind=2->0<=x.n/\x.n<=9999):WS x
def XW(l:Sl qA):Prop:= ∀x∈l.l,WS x
theorem snS_ind{P:Sl qA->Prop}(h: ∀l,(∀ x∈l.l,P x.qy)->P l): ∀l,P l:=by
 have key: ∀n(l:Sl qA),qK (l.l.map ml)<n->P l:=by
  intro n;induction n with
  |zero=>intro l hl;omega
  |succ n ih=>
   intro l hl;have:= @xA;have:= @bt;exact tW
 exact fun l=>key _ l (Nat.lt_succ_self _)
abbrev ft(l:Sl qA):Prop:=qK (l.l.map ml)<=1099511627775
theorem Mk{l:Sl qA}(h:ft l):l.l.length<=1099511627775:=by have:=xg rI l.l;unfold ft at h;omega
theorem JX{l:Sl qA}(h:ft l){x:qA}(hx:x∈l.l):ml x<=1099511627775:=by have:=xA (f:=ml) hx;unfold ft at h;omega
theorem Gp{l:Sl qA}(h:ft l){x:qA}(hx:x∈l.l):ft x.qy:=by have:=JX h hx;have:=bt x;unfold ft;omega
theorem Wf(s:qa)(hs:s.length<=1099511627776): ∀(r:qa)(k:Nat),s.drop k=r->qB (xG (s,(k:Int))) (fun _=>True):=by
 intro r;induction r with
 |nil=>
  intro k hk;rw[xG.eq_1,if_neg (by simpa using vH hk)];exact .ret trivial
 |cons b r ih=>
  intro k hk;obtain⟨a1,a2,a3,a4⟩:=wv hk;have h:=ih (k+1) a3;rw[xG.eq_1,if_pos (by simpa using a1),ia (by omega) a1];refine .go a2 ?_;refine .bind (mO b) fun v hv=>?_
  repeat' (first|exact h|exact .ret trivial|(refine .tI ?_ ?_<;>intro hT)|refine .bind (bL b) fun w _=>?_)
theorem Mt(s:qa)(hs:s.length<=1099511627776):qB (j9 s) (fun _=>True):=by
 unfold j9;refine .tI ?_ ?_<;>intro hT
 ·exact .ret trivial
 refine .bind (Wf s hs s 0 rfl) fun v hv=>?_;rcases v with v|v<;>exact .ret trivial
theorem PA(x:qA)(hw:ml x<=1099511627775)(ih:qB (uX x.qy) (fun c=>c=true->XW x.qy)):
  qB (kf x) (fun c=>c=true->x.opts.l=[]/\(x.has=true->x.qJ=false)/\(x.has=false->x.qy.l=[])/\XW x.qy):=by
 have hx:=bt x;rw[kf.eq_1];refine .tI ?_ ?_<;>intro hT
 ·exact .ret (by simp)
 have h1:x.opts.l=[]:=len_nil (by omega);refine .tI ?_ ?_<;>intro hT
 ·have hh:=hT;refine .tI ?_ ?_<;>intro hT
  ·exact .ret (by simp)
  have ht:=hT;refine .bind (Z5 x.qP) fun v _=>?_;refine .tI ?_ ?_<;>intro hT
  ·refine .bind ih fun v hv=>?_;exact .ret fun h=>⟨h1,fun _=>ht,fun h=>(by rw[hh]at h;cases h),hv h⟩
  exact .ret (by simp)
 have hh:=hT;refine .tI ?_ ?_<;>intro hT
 ·exact .ret (by simp)
 have hk:x.qy.l=[]:=len_nil (by omega);have hka:XW x.qy:=fun y hy=>by rw[hk]at hy;cases hy
 refine .tI ?_ ?_<;>intro hT
 ·refine .bind (Vc x.qP (by omega)) fun v hv=>?_;exact .ret fun _=>⟨h1,fun h=>(by rw[hh]at h;cases h),fun _=>hk,hka⟩
 refine .bind (Z5 x.qP) fun v _=>?_;refine .tI ?_ ?_<;>intro hT
 ·refine .bind ih fun v hv=>?_;exact .ret fun _=>⟨h1,fun h=>(by rw[hh]at h;cases h),fun _=>hk,hka⟩
 exact .ret (by simp)
theorem Cj: ∀l,ft l->qB (uX l) (fun c=>c=true->XW l):=by
 apply snS_ind (P:=fun l=>ft l->qB (uX l) (fun c=>c=true->XW l));intro l ih0 hw;have hl:=Mk hw;have key: ∀(r:List qA)(k:Nat),l.l.drop k=r->qB (zq (l,(k:Int))) (fun v=>(v= .inl true->False)/\(v= .inr ()-> ∀y∈r,WS y)):=by
  intro r;induction r with
  |nil=>
   intro k hd;rw[zq.eq_1,if_neg (by simpa using vH hd)];exact .ret ⟨by simp,by simp⟩
  |cons x r ih=>
   intro k hd;obtain⟨a1,a2,a3,a4⟩:=wv hd;have hx:=bt x;have hxw:=JX hw a4;have XH:=PA x hxw (ih0 x a4 (Gp hw a4));have ih:=ih (k+1) a3;have next:WS x->qB (zq (l,((k+1:Nat):Int))) (fun v=>(v= .inl true->False)/\(v= .inr ()-> ∀y∈x::r,WS y)):=by
    intro hx;refine ih.mono fun v h=>⟨h.1,fun hw z hz=>?_⟩;rcases List.mem_cons.1 hz with rfl|hz
    ·exact hx
    exact h.2 hw z hz
   have stop: ∀{f:Bool->Option (Bool⊕Unit)},(∀ v,(v=true->x.opts.l=[]/\(x.has=true->x.qJ=false)/\(x.has=false->x.qy.l=[])/\XW x.qy)->qB (f v) (fun v=>(v= .inl true->False)/\(v= .inr ()-> ∀y∈x::r,WS y)))->
     qB (kf x>>=f) (fun v=>(v= .inl true->False)/\(v= .inr ()-> ∀y∈x::r,WS y)):=fun hf=>qB.bind XH hf
   have prev: ¬(k:Int)=0-> ∀{f:qA->Option (Bool⊕Unit)},(∀ y,qB (f y) (fun v=>(v= .inl true->False)/\(v= .inr ()-> ∀y∈x::r,WS y)))->qB (qi l.l (IntKind.i64.wrap ((k:Int)-1))>>=f) (fun v=>(v= .inl true->False)/\(v= .inr ()-> ∀y∈x::r,WS y)):=by
    intro h f hf
    (repeat (first|(rw [qI];rotate_left;omega;omega)|(rw [xp];rotate_left;omega;omega)))
    exact .bind qB.get fun y _=>hf y
   have w1:x.kind=1->0<=x.n->x.n<=9999->(x.opts.l=[]/\(x.has=true->x.qJ=false)/\(x.has=false->x.qy.l=[])/\XW x.qy)->WS x:=fun a b c d=>
    .mk x d.2.2.2 (fun h=>by omega) (fun h=>by omega) (fun _=>⟨d.1,d.2.1,d.2.2.1⟩) (by omega) (fun _=>⟨b,c⟩)
   have w3:x.kind=3->(x.opts.l=[]/\(x.has=true->x.qJ=false)/\(x.has=false->x.qy.l=[])/\XW x.qy)->WS x:=fun a d=>
    .mk x d.2.2.2 (fun h=>by omega) (fun h=>by omega) (fun _=>⟨d.1,d.2.1,d.2.2.1⟩) (by omega) (fun h=>by omega)
   have w0:x.kind=0->x.qy.l=[]->WS x:=fun a b=>
    .mk x (by simp[b]) (fun _=>b) (fun h=>by omega) (fun h=>by omega) (by omega) (fun h=>by omega)
   have w2:x.kind=2->x.qy.l=[]->x.has=false->x.qJ=false->0<x.opts.l.length->0<=x.n->x.n<=9999->WS x:=fun a b c d e f g=>
    .mk x (by simp[b]) (fun h=>by omega) (fun _=>⟨c,d,b,e⟩) (fun h=>by omega) (by omega) (fun _=>⟨f,g⟩)
   have hname:=Mt x.text (by omega);rw[zq.eq_1,if_pos (by simpa using a1),ia (by omega) a1];refine .go a2 ?_
   repeat' (first|exact .ret ⟨by simp,by simp⟩|(refine .tI ?_ ?_<;>intro hT)|(refine prev ‹_› fun y=>?_)|refine .bind (Z5 x.qP) fun v _=>?_|refine .bind hname fun v _=>?_|refine stop fun v hv=>?_)
   all_goals refine next ?_
   all_goals first|exact w1 (by omega) (by omega) (by omega) (by simp_all)|exact w3 (by omega) (by simp_all)|exact w0 (by omega) (len_nil (by omega))|exact w2 (by omega) (len_nil (by omega)) (by simp_all) (by simp_all) (by omega) (by omega) (by omega)
 rw[uX.eq_1];refine .bind (key l.l 0 rfl) fun v hv=>?_;rcases v with v|v
 ·exact .ret fun h=>by subst h;exact absurd rfl hv.1
 exact .ret fun _=>hv.2 rfl
theorem WA(l:Sl qA)(hw:qK (l.l.map ml)<=100000000):qB (cl l) (fun c=>c=true->XW l):=by
 unfold cl;refine .bind (HP _ l (xJ _) hw) fun v _=>?_;refine .tI ?_ ?_<;>intro hT
 ·refine .bind (Cj l (by unfold ft;omega)) fun v hv=>?_;exact .ret hv
 exact .ret (by simp)
end Go.Proofs.YtmllebdamdnhoaaGreat
