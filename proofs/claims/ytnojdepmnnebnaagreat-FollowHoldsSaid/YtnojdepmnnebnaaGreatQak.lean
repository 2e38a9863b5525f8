/-
  A session behind an edit: all that is kept.
-/
import Derived.Test.YtnojdepmnnebnaaGreatQad
import Derived.Test.YtnojdepmnnebnaaGreatQae
open And renaming intro->g?
open Bool renaming not_eq_true'->u_
open Decidable renaming not_not->q2o
open Go.Gm.jW renaming int->I_,struct->G'
open Go.IntKind renaming i64->q?,u8->R?
open Int renaming toNat_natCast->d?
open List renaming length_cons->h?,replicate->b?,length_append->t?,getElem?_append_left->r?,map_cons->s?,getElem?_cons_zero->c?,getElem?_cons_succ->i?,getElem?_append_right->J?,length_singleton->w!,sum_cons->y!
open Nat renaming strongRecOn->p?,succ_mul->B?,zero_add->P?,lt_trichotomy->E!,mul_le_mul->j_,le_succ->R_
set_option linter.unusedSimpArgs false
set_option linter.unusedVariables false
set_option maxRecDepth 100000
namespace Go.Proofs.YtnojdepmnnebnaaGreat
open Go Go.Gm
theorem rd_Span(n:Nat):jW Tryz.prog 24 qn.enc (fun _=>True) n:=by
 have h:=G' (P:=Tryz.prog) (t:=24) (c:=2) (n:=n) Tryz.underlying24 k? (fun _=>by simp[Xe,HC,qn.qQ,zL])
  (eS (c:=1) rfl k? (lW (I_ (P:=Tryz.prog) (t:=3) Tryz.underlying3 k? n)) (eS (c:=1) rfl k? (lW (I_ (P:=Tryz.prog) (t:=3) Tryz.underlying3 k? n)) (fNil n _)))
 exact(h.map (fun x=>qn.mk x.1 x.2.1) (fun _ _=>⟨trivial,by simp[Xe,HC,qn.qQ,zL]⟩)).mono (R_ n)
theorem Cx(n:Nat):jW Tryz.prog 26 ql.enc (fun _=>True) n:=by
 have h:=G' (P:=Tryz.prog) (t:=26) (c:=3) (n:=n) Tryz.underlying26 k? (fun _=>by simp[Xe,HC,ql.qQ,qn.qQ,ay])
  (eS (c:=2) rfl k? (rd_Span n) (eS (c:=1) rfl k? (lW (jW.str (P:=Tryz.prog) (t:=9) Tryz.underlying9 k? n)) (fNil n _)))
 exact(h.map (fun x=>ql.mk x.1 x.2.1) (fun _ _=>⟨trivial,by simp[Xe,HC,ql.qQ,qn.qQ,ay]⟩)).mono (R_ n)
theorem rd_Sel(n:Nat):jW Tryz.prog 90 qy.enc (fun _=>True) n:=by
 have h:=G' (P:=Tryz.prog) (t:=90) (c:=2) (n:=n) Tryz.underlying90 k? (fun _=>by simp[Xe,HC,qy.qQ,zL])
  (eS (c:=1) rfl k? (lW (I_ (P:=Tryz.prog) (t:=3) Tryz.underlying3 k? n)) (eS (c:=1) rfl k? (lW (I_ (P:=Tryz.prog) (t:=3) Tryz.underlying3 k? n)) (fNil n _)))
 exact(h.map (fun x=>qy.mk x.1 x.2.1) (fun _ _=>⟨trivial,by simp[Xe,HC,qy.qQ,zL]⟩)).mono (R_ n)
theorem rd_Op(n:Nat):jW Tryz.prog 58 bO.enc (fun _=>True) n:=by
 have h:=G' (P:=Tryz.prog) (t:=58) (c:=7) (n:=n) Tryz.underlying58 k? (fun _=>by simp[Xe,HC,ql.qQ,bO.qQ,qy.qQ,BH,zL,mz,ay])
  (eS (c:=1) rfl k? (lW (I_ (P:=Tryz.prog) (t:=3) Tryz.underlying3 k? n)) (eS (c:=1) rfl k? (lW (jW.str (P:=Tryz.prog) (t:=9) Tryz.underlying9 k? n)) (eS (c:=1) rfl k? (lW (jW.str (P:=Tryz.prog) (t:=9) Tryz.underlying9 k? n)) (eS (c:=1) rfl k? (lW (I_ (P:=Tryz.prog) (t:=3) Tryz.underlying3 k? n)) (eS (c:=1) rfl k? (lW (jW.bool (P:=Tryz.prog) (t:=4) Tryz.underlying4 k? n)) (eS (c:=1) rfl k? (rdSl (P:=Tryz.prog) (t:=56) (el:=26) (sz:=3) Tryz.underlying56 k? k? o? (Cx n)) (eS (c:=1) rfl k? (rdSl (P:=Tryz.prog) (t:=29) (el:=90) (sz:=2) Tryz.underlying29 k? k? o? (rd_Sel n)) (fNil n _))))))))
 exact(h.map (fun x=>bO.mk x.1 x.2.1 x.2.2.1 x.2.2.2.1 x.2.2.2.2.1 x.2.2.2.2.2.1 x.2.2.2.2.2.2.1) (fun _ _=>⟨trivial,by simp[Xe,HC,ql.qQ,bO.qQ,qy.qQ,BH,zL,mz,ay]⟩)).mono (R_ n)
theorem rdv22:dY Tryz.prog 22 (fun x:(Sl bO)=>PV.sl x.nil (zV 7 x.l) (List.map bO.enc x.l)) (fun _=>True):=dY.one Tryz.underlying22 rfl (fun n=>(rdSl (P:=Tryz.prog) (t:=22) (el:=58) (sz:=7) Tryz.underlying22 k? k? o? (rd_Op n)))
theorem rdv3:dY Tryz.prog 3 (fun x:Int=>PV.int q? x) (fun _=>True):=dY.one Tryz.underlying3 rfl (fun n=>(lW (I_ (P:=Tryz.prog) (t:=3) Tryz.underlying3 k? n)))
theorem rdv26:dY Tryz.prog 26 (fun x=> .agg (ql.enc x)) (fun _=>True):=dY.struct Tryz.underlying26 Cx
end Go.Proofs.YtnojdepmnnebnaaGreat
set_option maxRecDepth 512
namespace Go.Proofs.YtnojdepmnnebnaaGreat
namespace Xr
structure Row (m:Nat) (F T U:Nat->Int) (n:Int):Prop where
 Qr: ∀r,r<m->0<=F r/\F r<=T r/\T r<=n
 up: ∀r,r<m-> -1<=U r/\U r<r
 nest: ∀r,r<m-> ∀p:Nat,U r=p->F p<=F r/\T r<=T p
 B3: ∀r,r<m-> ∀q,q<r->U q=U r->T q<=F r
 pre: ∀r,r<m-> ∀q:Nat,q<r->U r<q->U r<=U q
structure Vx (m:Nat) (F T U:Nat->Int) (H:Nat->Prop) (a b:Int):Prop where
 up: ∀r,r<m->H r-> ∀p:Nat,U r=p->H p
 has: ∀r,r<m->H r->F r<=a/\b<=T r
 one: ∀r,r<m-> ∀q,q<r->U q=U r->H q-> ¬H r
structure DD (m:Nat) (F T U:Nat->Int) (H:Nat->Prop) (a b:Int) (last:Int) (s:Nat->Int):Prop where
 holds: ∀r,r<m->H r->s r=0
 gone: ∀r,r<m-> ¬H r-> ∀p:Nat,U r=p->s p=1->s r=1
 cut: ∀r,r<m-> ¬H r->(∀ p:Nat,U r=p->s p≠1)->F r<b->a<T r->s r=1
 Zj: ∀r,r<m-> ¬H r->(∀ p:Nat,U r=p->s p≠1)-> ¬(F r<b/\a<T r)-> ∀p:Nat,U r=p-> ¬H p->s r=s p
 left: ∀r,r<m-> ¬H r->(∀ p:Nat,U r=p->s p≠1/\H p)-> ¬(F r<b/\a<T r)->(T r<a\/T r=a/\(F r<T r\/(r:Int)<last\/last<0))->s r=2
 right: ∀r,r<m-> ¬H r->(∀ p:Nat,U r=p->s p≠1/\H p)-> ¬(F r<b/\a<T r)-> ¬(T r<a\/T r=a/\(F r<T r\/(r:Int)<last\/last<0))->s r=3
 q04: ∀r,r<m->H r->(r:Int)<=last
 q05:0<=last-> ∃r:Nat,last=r/\r<m/\H r
 lastm: -1<=last
def mv(a b c:Int)(right:Bool)(p:Int):Int:=if p<a then p else if p>b then p+(c-(b-a))else if right then a+c else a
theorem X8{a b c:Int}(eL:a<=b)(hc:0<=c)(right:Bool){p q:Int}(h:p<=q):mv a b c right p<=mv a b c right q:=by
 unfold mv;repeat' split
 all_goals omega
section
variable {m:Nat} {F T U:Nat->Int} {n:Int} {H:Nat->Prop} {a b c:Int} {last:Int} {s:Nat->Int}
variable (hR:Row m F T U n) (hH:Vx m F T U H a b) (hS:DD m F T U H a b last s) (ha:0<=a) (eL:a<=b) (hb:b<=n) (hc:0<=c)
theorem hold_up(hR:Row m F T U n)(hH:Vx m F T U H a b){u:Int}{x:Nat}(hx:x<m)(hxu:U x=u): ∀q:Nat,u<q->q<x->H q-> ∃p:Nat,u<p/\p<=q/\H p/\U p=u:=by intro q;induction q using p? with|_ q ih=>intro h1 h2 h3;have h4:=hR.pre x hx q h2 o?;have h5:=hR.up q o?;by_cases e:U q=u;exact⟨q,h1,Nat.le_refl _,h3,e⟩;obtain⟨p,hp⟩: ∃p:Nat,U q=p:=⟨(U q).toNat,by have:=hR.up x hx;omega⟩;obtain⟨p',g1,g2,g3,g4⟩:=ih p o? o? o? (hH.up q o? h3 p hp);exact⟨p',g1,o?,g3,g4⟩
theorem Tu(hR:Row m F T U n)(hH:Vx m F T U H a b){q:Nat}(hq:H q): ∀x:Nat,x<m->H x->q<x-> ∀y:Nat,q<y->y<=x->(q:Int)<=U y:=by intro x;induction x using p? with|_ x ih=>intro hx hHx hqx y h1 h2;have P8:=hR.up x hx;by_cases e:(q:Int)<=U x;by_cases ey:y=x;subst ey;exact e;by_cases e2:U x<y;have:=hR.pre x hx y o? e2;omega;obtain⟨p,hp⟩: ∃p:Nat,U x=p:=⟨(U x).toNat,o?⟩;exact ih p o? o? (hH.up x hx hHx p hp) o? y h1 o?;exfalso;obtain⟨p,g1,g2,g3,g4⟩:=hold_up hR hH hx rfl q o? hqx hq;exact hH.one x hx p o? g4 g3 hHx
theorem FD(hR:Row m F T U n)(hH:Vx m F T U H a b){q r:Nat}(hr:r<m)(hqr:q<r)(hu:U q=U r)(hq:H q){x:Nat}(hx:x<m)(hHx:H x):x<r:=by by_cases e:x<r;exact e;exfalso;have h1:=Tu hR hH hq x hx hHx o? r hqr o?;have h2:=hR.up q o?;omega
include hR hS in
theorem gX{r:Nat}(hr:r<m):(H r/\s r=0)\/(¬ H r/\s r=1)\/(¬ H r/\s r=2)\/(¬ H r/\s r=3):=by induction r using p? with|_ r ih=>by_cases h:H r;exact .inl ⟨h,hS.holds r hr h⟩;right;have hu:=hR.up r hr;by_cases hp:0<=U r;obtain⟨p,hp⟩: ∃p:Nat,U r=p:=⟨(U r).toNat,o?⟩;have oC: ∀p' :Nat,U r=p' ->p' =p:=fun p' h=>o?;have hih:=ih p o? o?;by_cases g:s p=1;exact .inl ⟨h,hS.gone r hr h p hp g⟩;(have g' : ∀p' :Nat,U r=p' ->s p' ≠1:=fun p' e=>by rw[oC p' e];exact g);by_cases k:F r<b/\a<T r;exact .inl ⟨h,hS.cut r hr h g' k.1 k.2⟩;by_cases w:H p;(have g2: ∀p' :Nat,U r=p' ->s p' ≠1/\H p' :=fun p' e=>by rw[oC p' e];exact⟨g,w⟩);by_cases z:T r<a\/T r=a/\(F r<T r\/(r:Int)<last\/last<0);exact .inr (.inl ⟨h,hS.left r hr h g2 k z⟩);exact .inr (.inr ⟨h,hS.right r hr h g2 k z⟩);have e:=hS.Zj r hr h g' k p hp w;rcases hih with ⟨x,_⟩|⟨_,x⟩|⟨_,x⟩|⟨_,x⟩;exact absurd x w;exact absurd x g;exact .inr (.inl ⟨h,e.trans x⟩);exact .inr (.inr ⟨h,e.trans x⟩);have g2: ∀p' :Nat,U r=p' ->s p' ≠1/\H p' :=fun p' e=>o?;by_cases k:F r<b/\a<T r;exact .inl ⟨h,hS.cut r hr h (fun p' e=>(g2 p' e).1) k.1 k.2⟩;by_cases z:T r<a\/T r=a/\(F r<T r\/(r:Int)<last\/last<0);exact .inr (.inl ⟨h,hS.left r hr h g2 k z⟩);exact .inr (.inr ⟨h,hS.right r hr h g2 k z⟩)
include hR hH hS in
theorem cx{r:Nat}(hr:r<m)(h:s r≠1){p:Nat}(hp:U r=p):s p≠1:=by intro g;by_cases k:H r;have hu:=hR.up r hr;have:=hS.holds p o? (hH.up r hr k p hp);omega;exact h (hS.gone r hr k p hp g)
include hR hH hS in
theorem Qo{r:Nat}(hr:r<m)(h:s r=2):T r<=a:=by induction r using p? with|_ r ih=>(have hu:=hR.up r hr;have hn: ¬H r:=fun k=>by have:=hS.holds r hr k;omega);have Vp:=fun p(hp:U r=((p:Nat):Int))=>cx hR hH hS hr o? hp;by_cases k:F r<b/\a<T r;have:=hS.cut r hr hn Vp k.1 k.2;omega;by_cases w: ∃p:Nat,U r=p/\ ¬H p;obtain⟨p,hp,w⟩:=w;have e:=hS.Zj r hr hn Vp k p hp w;have:=ih p o? o? o?;have:=hR.nest r hr p hp;omega;have g2: ∀p' :Nat,U r=p' ->s p' ≠1/\H p' :=fun p' e=>⟨Vp p' e,Classical.byContradiction fun c=>w ⟨p',e,c⟩⟩;by_cases z:T r<a\/T r=a/\(F r<T r\/(r:Int)<last\/last<0);omega;have:=hS.right r hr hn g2 k z;omega
include hR hH hS in
theorem cd{r:Nat}(hr:r<m)(h:s r=3):b<=F r\/(F r=a/\T r=a):=by induction r using p? with|_ r ih=>(have hu:=hR.up r hr;have hg:=hR.Qr r hr;have hn: ¬H r:=fun k=>by have:=hS.holds r hr k;omega);have Vp:=fun p(hp:U r=((p:Nat):Int))=>cx hR hH hS hr o? hp;by_cases k:F r<b/\a<T r;have:=hS.cut r hr hn Vp k.1 k.2;omega;by_cases w: ∃p:Nat,U r=p/\ ¬H p;obtain⟨p,hp,w⟩:=w;have e:=hS.Zj r hr hn Vp k p hp w;have:=ih p o? o? o?;have:=hR.nest r hr p hp;omega;have g2: ∀p' :Nat,U r=p' ->s p' ≠1/\H p' :=fun p' e=>⟨Vp p' e,Classical.byContradiction fun c=>w ⟨p',e,c⟩⟩;by_cases z:T r<a\/T r=a/\(F r<T r\/(r:Int)<last\/last<0);have:=hS.left r hr hn g2 k z;omega;omega
def SL(a b c:Int)(F:Nat->Int)(s:Nat->Int)(r:Nat):Int:=if s r=0 then F r else mv a b c (decide (s r=3)) (F r)
def Dq(a b c:Int)(T:Nat->Int)(s:Nat->Int)(r:Nat):Int:=if s r=0 then T r+(c-(b-a))else mv a b c (decide (s r=3)) (T r)
include hR hH hS ha eL hb hc in
theorem Ux{r:Nat}(hr:r<m)(h:s r≠1):0<=SL a b c F s r/\SL a b c F s r<=Dq a b c T s r/\Dq a b c T s r<=n+(c-(b-a)):=by
 have hg:=hR.Qr r hr;unfold SL Dq;rcases gX hR hS hr with ⟨k,e⟩|⟨k,e⟩|⟨k,e⟩|⟨k,e⟩;have:=hH.has r hr k;simp only[e,if_true];omega;exact absurd e h;{have:=Qo hR hH hS hr e;simp only[e];simp only[mv];simp;(repeat' split);all_goals omega};have:=cd hR hH hS hr e;simp only[e];simp only[mv];simp;repeat' split
 all_goals omega
include hR hH hS eL hc in
theorem V2{r:Nat}(hr:r<m)(h:s r≠1){p:Nat}(hp:U r=p):SL a b c F s p<=SL a b c F s r/\Dq a b c T s r<=Dq a b c T s p:=by
 have hu:=hR.up r hr;have Lz:p<m:=o?;have hg:=hR.Qr r hr;have hgp:=hR.Qr p Lz;have hn:=hR.nest r hr p hp;have Vp:=cx hR hH hS hr h hp;by_cases w:H p;{have h0:=hS.holds p Lz w;have hw:=hH.has p Lz w;unfold SL Dq;rcases gX hR hS hr with ⟨k,e⟩|⟨k,e⟩|⟨k,e⟩|⟨k,e⟩;simp only[e,h0,if_true];omega;exact absurd e h;{have:=Qo hR hH hS hr e;simp only[e,h0,mv];simp;(repeat' split);all_goals omega};have:=cd hR hH hS hr e;simp only[e,h0,mv];simp;(repeat' split);all_goals omega};have hnr: ¬H r:=fun k=>w (hH.up r hr k p hp);have hal' : ∀p' :Nat,U r=p' ->s p' ≠1:=fun p' e=>by rw[show p' =p by omega];exact Vp
 have hk: ¬(F r<b/\a<T r):=fun k=>h (hS.cut r hr hnr hal' k.1 k.2);have e:=hS.Zj r hr hnr hal' hk p hp w;have h0:s p≠0:=by rcases gX hR hS Lz with ⟨k,_⟩|⟨_,x⟩|⟨_,x⟩|⟨_,x⟩;exact absurd k w;all_goals omega
 unfold SL Dq;rw[e,if_neg h0,if_neg h0,if_neg h0,if_neg h0];exact⟨X8 eL hc _ hn.1,X8 eL hc _ hn.2⟩
include hR hH hS eL hc in
theorem Uy{r:Nat}(hr:r<m)(h:s r≠1){q:Nat}(hqr:q<r)(hq:s q≠1)(hu:U q=U r):Dq a b c T s q<=SL a b c F s r:=by
 have LA:q<m:=o?;have hg:=hR.Qr r hr;have hgq:=hR.Qr q LA;have hn:=hR.B3 r hr q hqr hu;have halr:=fun p(hp:U r=((p:Nat):Int))=>cx hR hH hS hr h hp;have halq:=fun p(hp:U q=((p:Nat):Int))=>cx hR hH hS LA hq hp;have hkr: ¬H r-> ¬(F r<b/\a<T r):=fun x k=>h (hS.cut r hr x halr k.1 k.2);have hkq: ¬H q-> ¬(F q<b/\a<T q):=fun x k=>hq (hS.cut q LA x halq k.1 k.2);by_cases w: ∃p:Nat,U r=p/\ ¬H p;{(obtain⟨p,hp,w⟩:=w;have QR:=hR.up r hr;have hnr: ¬H r:=fun k=>w (hH.up r hr k p hp);have hnq: ¬H q:=fun k=>w (hH.up q LA k p o?);have e1:=hS.Zj r hr hnr halr (hkr hnr) p hp w;have e2:=hS.Zj q LA hnq halq (hkq hnq) p o? w;have h0:s p≠0:=by rcases gX hR hS (show p<m by omega)with ⟨k,_⟩|⟨_,x⟩|⟨_,x⟩|⟨_,x⟩;exact absurd k w;all_goals omega);unfold SL Dq;rw[e1,e2,if_neg h0,if_neg h0];exact X8 eL hc _ hn};have hwr: ∀p' :Nat,U r=p' ->s p' ≠1/\H p' :=fun p' e=>⟨halr p' e,Classical.byContradiction fun c=>w ⟨p',e,c⟩⟩;have hwq: ∀p' :Nat,U q=p' ->s p' ≠1/\H p' :=fun p' e=>hwr p' o?;unfold SL Dq;rcases gX hR hS LA with ⟨k,e⟩|⟨k,e⟩|⟨k,e⟩|⟨k,e⟩;{have hnr: ¬H r:=hH.one r hr q hqr hu k;have hq2:=hH.has q LA k;have hql:=hS.q04 q LA k;obtain⟨x,FK,LK,hx3⟩:=hS.q05 o?;have hlr:=FD hR hH hr hqr hu k LK hx3;have h3:s r=3:=hS.right r hr hnr hwr (hkr hnr) o?;simp only[e,h3,mv];simp;(repeat' split);all_goals omega};exact absurd e hq;{have hl:=Qo hR hH hS LA e;rcases gX hR hS hr with ⟨k2,e2⟩|⟨k2,e2⟩|⟨k2,e2⟩|⟨k2,e2⟩;{simp only[e,e2,mv];simp;(repeat' split);all_goals omega};exact absurd e2 h;simp only[e,e2];simp;exact X8 eL hc _ hn;have:=cd hR hH hS hr e2;simp only[e,e2,mv];simp;(repeat' split);all_goals omega};have hrq:=cd hR hH hS LA e;have hz: ¬(T q<a\/T q=a/\(F q<T q\/(q:Int)<last\/last<0)):=fun z=>by have:=hS.left q LA k hwq (hkq k) z;omega
 rcases gX hR hS hr with ⟨k2,e2⟩|⟨k2,e2⟩|⟨k2,e2⟩|⟨k2,e2⟩;have h1:=hS.q04 r hr k2;have h2:=hH.has r hr k2;omega;exact absurd e2 h;have hl:=Qo hR hH hS hr e2;by_cases z:T r<a\/T r=a/\(F r<T r\/(r:Int)<last\/last<0);omega;have:=hS.right r hr k2 hwr (hkr k2) z;omega;simp only[e,e2];simp;exact X8 eL hc _ hn
end
end Xr
end Go.Proofs.YtnojdepmnnebnaaGreat
namespace Go.Proofs.YtnojdepmnnebnaaGreat
open Go Go.Gm
namespace Xr
structure UH (i:qj) (n:Int):Prop where
 Qr:0<=i.span.qB/\i.span.qB<=i.span.to/\i.span.to<=n
 up: ∀(k:Nat)(x:qq),i.stops.l[k]? =some x-> -1<=x.up/\x.up<(k:Nat)
 le: ∀(k:Nat)(x:qq),i.stops.l[k]? =some x->x.span.qB<=x.span.to
 top: ∀(k:Nat)(x:qq),i.stops.l[k]? =some x->x.up= -1->i.span.qB<=x.span.qB/\x.span.to<=i.span.to
 nest: ∀(k:Nat)(x:qq),i.stops.l[k]? =some x-> ∀(p:Nat)(y:qq),x.up=p->i.stops.l[p]? =some y->y.span.qB<=x.span.qB/\x.span.to<=y.span.to
 B3: ∀(k:Nat)(x:qq),i.stops.l[k]? =some x-> ∀(j:Nat)(y:qq),j<k->i.stops.l[j]? =some y->y.up=x.up->y.span.to<=x.span.qB
 pre: ∀(k:Nat)(x:qq),i.stops.l[k]? =some x-> ∀(q:Nat)(y:qq),q<k->x.up<q->i.stops.l[q]? =some y->x.up<=y.up
theorem UH.inside{i:qj}{n:Int}(h:UH i n): ∀(k:Nat)(x:qq),i.stops.l[k]? =some x->i.span.qB<=x.span.qB/\x.span.to<=i.span.to:=by intro k;induction k using p? with|_ k ih=>intro x hx;have hu:=h.up k x hx;by_cases e:x.up= -1;exact h.top k x hx e;obtain⟨p,hp⟩: ∃p:Nat,x.up=p:=⟨x.up.toNat,o?⟩;have hk:=(qF hx).1;have hy:i.stops.l[p]? =some i.stops.l[p]:=wu o?;have h1:=h.nest k x hx p _ hp hy;have h2:=ih p o? _ hy;omega
structure mm (is:List qj) (n:Int):Prop where
 may: ∀(a:Nat)(i:qj),is[a]? =some i->UH i n
 G9: ∀(a b:Nat)(i j:qj),a<b->is[a]? =some i->is[b]? =some j->i.span.to<=j.span.qB
theorem mm.tail{i:qj}{is:List qj}{n:Int}(h:mm (i::is) n):mm is n:=
 ⟨fun a j hj=>h.may (a+1) j (by simpa using hj),fun a b j k eL hj hk=>h.G9 (a+1) (b+1) j k o? (by simpa using hj) (by simpa using hk)⟩
abbrev QA:=Int×Int×Int
def aF(b:Nat)(i:qj):List QA:=(i.span.qB,i.span.to,-1)::i.stops.l.map (fun x=>(x.span.qB,x.span.to,b+1+x.up))
def yy(b:Nat):List qj->List QA
 |[]=>[]
 |i::is=>aF b i++yy (b+1+i.stops.l.length) is
theorem an(b:Nat)(i:qj):(aF b i).length=1+i.stops.l.length:=by simp[aF];omega
structure RowB (b:Nat) (l:List QA) (lo n:Int):Prop where
 Qr: ∀(r:Nat)(x:QA),l[r]? =some x->0<=x.1/\x.1<=x.2.1/\x.2.1<=n
 lo: ∀(r:Nat)(x:QA),l[r]? =some x->x.2.2= -1->lo<=x.1
 up: ∀(r:Nat)(x:QA),l[r]? =some x->x.2.2= -1\/(b:Int)<=x.2.2/\x.2.2<b+r
 nest: ∀(r:Nat)(x:QA),l[r]? =some x-> ∀(p:Nat)(y:QA),x.2.2=b+p->l[p]? =some y->y.1<=x.1/\x.2.1<=y.2.1
 B3: ∀(r:Nat)(x:QA),l[r]? =some x-> ∀(q:Nat)(y:QA),q<r->l[q]? =some y->y.2.2=x.2.2->y.2.1<=x.1
 pre: ∀(r:Nat)(x:QA),l[r]? =some x-> ∀(q:Nat)(y:QA),q<r->x.2.2<b+q->l[q]? =some y->x.2.2<=y.2.2
theorem mZ{b:Nat}{i:qj}{r:Nat}{x:QA}(h:(aF b i)[r]? =some x):(r=0/\x=(i.span.qB,i.span.to,-1))\/ ∃k s,r=k+1/\i.stops.l[k]? =some s/\x=(s.span.qB,s.span.to,b+1+s.up):=by cases r with|zero=>left;simpa[aF,eq_comm]using h|succ k=>right;simp only[aF,i?,List.getElem?_map,yR]at h;obtain⟨s,h1,h2⟩:=h;exact⟨k,s,rfl,h1,h2.symm⟩
theorem rowS_ok(n:Int): ∀(is:List qj)(b:Nat)(lo:Int),mm is n->(∀(a:Nat)(i:qj),is[a]? =some i->lo<=i.span.qB)->RowB b (yy b is) lo n:=by intro is;induction is with|nil=>intro b lo _ _;constructor<;>intro r x h<;>simp[yy]at h|cons i is ih=>(intro b lo h hlo;have hm:=h.may 0 i rfl;have hi:=ih (b+1+i.stops.l.length) i.span.to h.tail (fun a j hj=>h.G9 0 (a+1) i j o? rfl (by simpa using hj));have hlo0:=hlo 0 i rfl;have hir:=hm.Qr;have hL:=an b i;have split: ∀(r:Nat)(x:QA),(yy b (i::is))[r]? =some x->(r<1+i.stops.l.length/\(aF b i)[r]? =some x)\/ ∃q,r=1+i.stops.l.length+q/\(yy (b+1+i.stops.l.length) is)[q]? =some x:=by intro r x hx;rw[yy]at hx;by_cases hr:r<1+i.stops.l.length;rw[r? o?]at hx;exact .inl ⟨hr,hx⟩;rw[J? o?,hL]at hx;exact .inr ⟨r-(1+i.stops.l.length),o?,hx⟩);have kin: ∀(k:Nat)(s:qq),i.stops.l[k]? =some s->k<i.stops.l.length:=fun k s hs=>(qF hs).1;refine⟨?_, ?_, ?_, ?_, ?_, ?_⟩;intro r x hx;rcases split r x hx with ⟨_,hx⟩|⟨q,_,hx⟩;rcases mZ hx with ⟨_,rfl⟩|⟨k,s,_,hs,rfl⟩;exact hir;have:=hm.inside k s hs;have:=hm.le k s hs;simp only;omega;exact hi.Qr q x hx;intro r x hx hu;rcases split r x hx with ⟨_,hx⟩|⟨q,_,hx⟩;rcases mZ hx with ⟨_,rfl⟩|⟨k,s,_,hs,rfl⟩;exact hlo0;have:=hm.inside k s hs;simp only;omega;have:=hi.lo q x hx hu;omega;intro r x hx;rcases split r x hx with ⟨hr,hx⟩|⟨q,hr,hx⟩;rcases mZ hx with ⟨_,rfl⟩|⟨k,s,hk,hs,rfl⟩;exact .inl rfl;have:=hm.up k s hs;right;simp only;omega;rcases hi.up q x hx with e|e;exact .inl e;right;omega;intro r x hx p y hp hy;rcases split r x hx with ⟨hr,hx⟩|⟨q,hr,hx⟩;rcases mZ hx with ⟨_,rfl⟩|⟨k,s,hk,hs,rfl⟩;simp only at hp;omega;have hu:=hm.up k s hs;have pf:=kin k s hs;simp only at hp |-;rcases split p y hy with ⟨_,hy⟩|⟨q',EJ,hy⟩;rcases mZ hy with ⟨_,rfl⟩|⟨k',s',ZG,oQ,rfl⟩;exact hm.inside k s hs;exact hm.nest k s hs k' s' o? oQ;omega;have hu:=hi.up q x hx;rcases split p y hy with ⟨SZ,hy⟩|⟨q',EJ,hy⟩;omega;exact hi.nest q x hx q' y o? hy;intro r x hx q y hq hy hu;rcases split r x hx with ⟨hr,hx⟩|⟨r',hr,hx⟩;rcases mZ hx with ⟨h0,rfl⟩|⟨k,s,hk,hs,rfl⟩;omega;have hus:=hm.up k s hs;have pf:=kin k s hs;rcases split q y hy with ⟨_,hy⟩|⟨q',EJ,hy⟩;rcases mZ hy with ⟨_,rfl⟩|⟨k',s',ZG,oQ,rfl⟩;simp only at hu;omega;simp only at hu |-;exact hm.B3 k s hs k' s' o? oQ o?;omega;rcases split q y hy with ⟨EJ,hy⟩|⟨q',EJ,hy⟩;have P8:=hi.up r' x hx;rcases mZ hy with ⟨h0,rfl⟩|⟨k,s,hk,hs,rfl⟩;simp only at hu |-;have:=hi.lo r' x hx hu.symm;omega;have hus:=hm.up k s hs;have pf:=kin k s hs;simp only at hu;omega;exact hi.B3 r' x hx q' y o? hy hu;intro r x hx q y hq hu hy;rcases split r x hx with ⟨hr,hx⟩|⟨r',hr,hx⟩;rcases split q y hy with ⟨_,hy⟩|⟨q',EJ,hy⟩;rcases mZ hx with ⟨h0,rfl⟩|⟨k,s,hk,hs,rfl⟩;omega;have hus:=hm.up k s hs;rcases mZ hy with ⟨h0,rfl⟩|⟨k',s',ZG,oQ,rfl⟩;simp only at hu;omega;simp only at hu |-;have:=hm.pre k s hs k' s' o? o? oQ;omega;omega;have P8:=hi.up r' x hx;rcases split q y hy with ⟨EJ,hy⟩|⟨q',EJ,hy⟩;rcases P8 with e|e;rcases mZ hy with ⟨h0,rfl⟩|⟨k,s,hk,hs,rfl⟩;simp only;omega;have hus:=hm.up k s hs;simp only;omega;omega;have huy:=hi.up q' y hy;rcases P8 with e|e;omega;exact hi.pre r' x hx q' y o? o? hy
def IW(l:List QA)(r:Nat):Int:=(l.getD r (0,0,-1)).1
def O5(l:List QA)(r:Nat):Int:=(l.getD r (0,0,-1)).2.1
def DE(l:List QA)(r:Nat):Int:=(l.getD r (0,0,-1)).2.2
theorem eE{l:List QA}{r:Nat}{x:QA}(h:l[r]? =some x):IW l r=x.1/\O5 l r=x.2.1/\DE l r=x.2.2:=by simp[IW,O5,DE,h]
theorem RowB.row{l:List QA}{lo n:Int}(h:RowB 0 l lo n):Row l.length (IW l) (O5 l) (DE l) n:=by
 have g: ∀r,r<l.length-> ∃x,l[r]? =some x/\IW l r=x.1/\O5 l r=x.2.1/\DE l r=x.2.2:=by intro r hr;exact⟨l[r],wu hr,eE (wu hr)⟩
 refine⟨?_, ?_, ?_, ?_, ?_⟩;intro r hr;obtain⟨x,hx,e1,e2,e3⟩:=g r hr;rw[e1,e2];exact h.Qr r x hx;intro r hr;obtain⟨x,hx,e1,e2,e3⟩:=g r hr;have:=h.up r x hx;omega;intro r hr p hp;obtain⟨x,hx,e1,e2,e3⟩:=g r hr;have hu:=h.up r x hx;obtain⟨y,hy,f1,f2,f3⟩:=g p o?;have:=h.nest r x hx p y o? hy;omega;intro r hr q hq hu;obtain⟨x,hx,e1,e2,e3⟩:=g r hr;obtain⟨y,hy,f1,f2,f3⟩:=g q o?;have:=h.B3 r x hx q y hq hy o?;omega;intro r hr q hq hu;obtain⟨x,hx,e1,e2,e3⟩:=g r hr;obtain⟨y,hy,f1,f2,f3⟩:=g q o?;have:=h.pre r x hx q y hq o? hy;omega
end Xr
namespace Xr
def Xa(a b c:Int)(side:Int)(p:qn):qn:=if side=0 then⟨p.qB,p.to+(c-(b-a))⟩else⟨mv a b c (decide (side=3)) p.qB,mv a b c (decide (side=3)) p.to⟩
def aA(s:Nat->Int)(b:Nat):Nat->Nat
 |0=>0
 |k+1=>aA s b k+if s (b+k)=1 then 0 else 1
def U5(a b c:Int)(s:Nat->Int)(b0 k:Nat)(x:qq):qq:={ x with span:=Xa a b c (s (b0+k)) x.span,up:=if 0<=x.up then(aA s b0 x.up.toNat:Int)else x.up }
def bj(a b c:Int)(s:Nat->Int)(b0:Nat):Nat->List qq->List qq
 |_,[]=>[]
 |k,x::r=>if s (b0+k)=1 then bj a b c s b0 (k+1) r else U5 a b c s b0 k x::bj a b c s b0 (k+1) r
def l9(a b c:Int)(s:Nat->Int)(b0:Nat)(i:qj):qj:=⟨Xa a b c (s b0) i.span,⟨(bj a b c s (b0+1) 0 i.stops.l).isEmpty,bj a b c s (b0+1) 0 i.stops.l⟩⟩
def vN(a b c:Int)(s:Nat->Int):Nat->List qj->List qj
 |_,[]=>[]
 |b0,i::is=>if s b0=1 then vN a b c s (b0+1+i.stops.l.length) is else l9 a b c s b0 i::vN a b c s (b0+1+i.stops.l.length) is
theorem WT(s:Nat->Int)(b:Nat): ∀{k k' :Nat},k<=k' ->aA s b k<=aA s b k' :=by intro k k' h;induction k' with|zero=>obtain rfl:k=0:=o?;exact jx _|succ k' ih=>by_cases e:k=k' +1;subst e;exact jx _;have:=ih o?;rw[aA];omega
theorem Rg(s:Nat->Int)(b:Nat){k k' :Nat}(h:k<k')(hk:s (b+k)≠1):aA s b k<aA s b k' :=by
 have h1:aA s b (k+1)=aA s b k+1:=by rw[aA,if_neg hk]
 have h2:=WT s b (show k+1<=k' by omega);omega
theorem Cs(s:Nat->Int)(b:Nat){k k' :Nat}(hk:s (b+k)≠1)(ZG:s (b+k')≠1)(h:aA s b k=aA s b k'):k=k' :=by rcases E! k k' with h1|h1|h1;have:=Rg s b h1 hk;omega;exact h1;have:=Rg s b h1 ZG;omega
theorem HT(s:Nat->Int)(b:Nat){k k' :Nat}(h:aA s b k<aA s b k'):k<k' :=by by_cases e:k<k';exact e;have:=WT s b (show k' <=k by omega);omega
section
variable {a b c:Int} {s:Nat->Int}
theorem YZ(b0:Nat): ∀(st:List qq)(k0 j:Nat)(y:qq),(bj a b c s b0 k0 st)[j]? =some y-> ∃(k:Nat)(x:qq),st[k]? =some x/\s (b0+(k0+k))≠1/\y=U5 a b c s b0 (k0+k) x/\aA s b0 (k0+k)=aA s b0 k0+j:=by intro st;induction st with|nil=>intro k0 j y h;simp[bj]at h|cons x r ih=>intro k0 j y h;rw[bj]at h;split at h;rename_i e;obtain⟨k,z,h1,h2,h3,h4⟩:=ih (k0+1) j y h;refine⟨k+1,z,by simpa using h1, ?_, ?_, ?_⟩;rw[show k0+(k+1)=k0+1+k by omega];exact h2;rw[show k0+(k+1)=k0+1+k by omega];exact h3;rw[show k0+(k+1)=k0+1+k by omega,h4,aA,if_pos e];omega;rename_i e;cases j with|zero=>simp only[c?,ki]at h;exact⟨0,x,z?,by simpa using e,by simpa using h.symm,z?⟩|succ j=>simp only[i?]at h;obtain⟨k,z,h1,h2,h3,h4⟩:=ih (k0+1) j y h;refine⟨k+1,z,by simpa using h1, ?_, ?_, ?_⟩;rw[show k0+(k+1)=k0+1+k by omega];exact h2;rw[show k0+(k+1)=k0+1+k by omega];exact h3;rw[show k0+(k+1)=k0+1+k by omega,h4,aA,if_neg e];omega
theorem A2(b0:Nat): ∀(st:List qq)(k0:Nat),(bj a b c s b0 k0 st).length<=st.length:=by intro st;induction st with|nil=>intro k0;simp[bj]|cons x r ih=>intro k0;have:=ih (k0+1);rw[bj];split<;>simp<;>omega
theorem A3(b0:Nat)(st:List qq)(k0:Nat)(y:qq)(h:y∈bj a b c s b0 k0 st): ∃x∈st,∃ k,y=U5 a b c s b0 k x:=by obtain⟨j,hj⟩:=kb h;obtain⟨k,x,h1,_,h3,_⟩:=YZ b0 st k0 j y hj;exact⟨x,z6 h1,_,h3⟩
theorem R0(r:Nat)(F:Nat->Int)(p:qn)(h:F r=p.qB):(Xa a b c (s r) p).qB=SL a b c F s r:=by unfold Xa SL;rw[h];split<;>rfl
theorem R1(r:Nat)(p:qn)(W:Nat->Int)(h:W r=p.to):(Xa a b c (s r) p).to=Dq a b c W s r:=by unfold Xa Dq;rw[h];split<;>rfl
variable {l:List QA} {n:Int} {H:Nat->Prop} {last:Int}
variable (hR:Row l.length (IW l) (O5 l) (DE l) n) (hH:Vx l.length (IW l) (O5 l) (DE l) H a b) (hS:DD l.length (IW l) (O5 l) (DE l) H a b last s) (ha:0<=a) (eL:a<=b) (hb:b<=n) (hc:0<=c)
include hR hH hS ha eL hb hc in
theorem q0A{i:qj}{b0:Nat}(hi: ∀(r:Nat)(x:QA),(aF b0 i)[r]? =some x->l[b0+r]? =some x)(hm:UH i n)(h0:s b0≠1):UH (l9 a b c s b0 i) (n+(c-(b-a))):=by
 have hh:l[b0]? =some (i.span.qB,i.span.to,-1):=by simpa using hi 0 _ rfl
 have Xv:b0<l.length:=(qF hh).1;have gh:=eE hh;have hk: ∀(k:Nat)(x:qq),i.stops.l[k]? =some x->l[b0+1+k]? =some (x.span.qB,x.span.to,(b0:Int)+1+x.up):=by intro k x hx;have:=hi (k+1) (x.span.qB,x.span.to,b0+1+x.up) (by simp[aF,hx]);rwa[show b0+(k+1)=b0+1+k by omega]at this
 have pf: ∀(k:Nat)(x:qq),i.stops.l[k]? =some x->b0+1+k<l.length:=fun k x hx=>(qF (hk k x hx)).1;have gk:=fun(k:Nat)(x:qq) hx=>eE (hk k x hx);have get: ∀(j:Nat)(y:qq),(l9 a b c s b0 i).stops.l[j]? =some y-> ∃(k:Nat)(x:qq),i.stops.l[k]? =some x/\s (b0+1+k)≠1/\y=U5 a b c s (b0+1) k x/\aA s (b0+1) k=j:=by intro j y hy;obtain⟨k,x,h1,h2,h3,h4⟩:=YZ (b0+1) i.stops.l 0 j y hy;simp only[P?,aA]at h2 h3 h4;exact⟨k,x,h1,h2,h3,h4⟩
 have fr: ∀(k:Nat)(x:qq),i.stops.l[k]? =some x->(U5 a b c s (b0+1) k x).span.qB=SL a b c (IW l) s (b0+1+k):=fun k x hx=>R0 _ _ _ (gk k x hx).1;have to: ∀(k:Nat)(x:qq),i.stops.l[k]? =some x->(U5 a b c s (b0+1) k x).span.to=Dq a b c (O5 l) s (b0+1+k):=fun k x hx=>R1 _ _ _ (gk k x hx).2.1;have fr0:(l9 a b c s b0 i).span.qB=SL a b c (IW l) s b0:=R0 _ _ _ gh.1;have to0:(l9 a b c s b0 i).span.to=Dq a b c (O5 l) s b0:=R1 _ _ _ gh.2.1;have par: ∀(k:Nat)(x:qq),i.stops.l[k]? =some x->s (b0+1+k)≠1-> ∀p:Nat,x.up=p->p<k/\s (b0+1+p)≠1/\ ∃y,i.stops.l[p]? =some y:=by intro k x hx h p hp;have hu:=hm.up k x hx;have JZ:=(qF hx).1;refine⟨o?,cx hR hH hS (pf k x hx) h (p:=b0+1+p) (by rw[(gk k x hx).2.2,hp];simp),_,wu o?⟩
 have ups: ∀(k:Nat)(x:qq),i.stops.l[k]? =some x->(x.up= -1/\(U5 a b c s (b0+1) k x).up= -1)\/ ∃p:Nat,x.up=p/\(U5 a b c s (b0+1) k x).up=(aA s (b0+1) p:Nat):=by intro k x hx;have hu:=hm.up k x hx;unfold U5;by_cases e:0<=x.up;right;exact⟨x.up.toNat,o?,by simp only[if_pos e]⟩;left;simp only[if_neg e];omega
 refine⟨?_, ?_, ?_, ?_, ?_, ?_, ?_⟩;rw[fr0,to0];exact Ux hR hH hS ha eL hb hc Xv h0;intro j y hy;obtain⟨k,x,h1,h2,rfl,h4⟩:=get j y hy;rcases ups k x h1 with ⟨_,e⟩|⟨p,e1,e2⟩;omega;obtain⟨q1,q2,_⟩:=par k x h1 h2 p e1;have:=Rg s (b0+1) q1 q2;omega;intro j y hy;obtain⟨k,x,h1,h2,rfl,h4⟩:=get j y hy;rw[fr k x h1,to k x h1];exact(Ux hR hH hS ha eL hb hc (pf k x h1) h2).2.1;intro j y hy hu;obtain⟨k,x,h1,h2,rfl,h4⟩:=get j y hy;rcases ups k x h1 with ⟨e,_⟩|⟨p,e1,e2⟩;rw[fr k x h1,to k x h1,fr0,to0];exact V2 hR hH hS eL hc (pf k x h1) h2 (p:=b0) (by rw[(gk k x h1).2.2,e];simp only;omega);omega;intro j y hy p y2 hp XT;obtain⟨k,x,h1,h2,rfl,h4⟩:=get j y hy;obtain⟨k2,x2,g1,g2,rfl,g4⟩:=get p y2 XT;rcases ups k x h1 with ⟨e,e'⟩|⟨q,e1,e2⟩;omega;obtain⟨q1,q2,_⟩:=par k x h1 h2 q e1;obtain rfl:q=k2:=Cs s (b0+1) q2 g2 o?;rw[fr k x h1,to k x h1,fr q x2 g1,to q x2 g1];exact V2 hR hH hS eL hc (pf k x h1) h2 (p:=b0+1+q) (by rw[(gk k x h1).2.2,e1];simp);(intro j y hy j2 y2 hj XT hu;obtain⟨k,x,h1,h2,rfl,h4⟩:=get j y hy;obtain⟨k2,x2,g1,g2,rfl,g4⟩:=get j2 y2 XT;have JZ:k2<k:=HT s (b0+1) o?;have he:x2.up=x.up:=by rcases ups k x h1 with ⟨e,e'⟩|⟨q,e1,e2⟩<;>rcases ups k2 x2 g1 with ⟨f,f'⟩|⟨q',f1,f2⟩;omega;omega;omega;obtain⟨_,q2,_⟩:=par k x h1 h2 q e1;obtain⟨_,q2',_⟩:=par k2 x2 g1 g2 q' f1;have:=Cs s (b0+1) q2 q2' o?;omega);rw[fr k x h1,to k2 x2 g1];exact Uy hR hH hS eL hc (pf k x h1) h2 (q:=b0+1+k2) o? g2 (by rw[(gk k x h1).2.2,(gk k2 x2 g1).2.2,he]);intro j y hy q y2 hq hu XT;obtain⟨k,x,h1,h2,rfl,h4⟩:=get j y hy;obtain⟨k2,x2,g1,g2,rfl,g4⟩:=get q y2 XT;have JZ:k2<k:=HT s (b0+1) o?;rcases ups k x h1 with ⟨e,e'⟩|⟨p,e1,e2⟩;rcases ups k2 x2 g1 with ⟨f,f'⟩|⟨q',f1,f2⟩<;>omega;have hpk:p<k2:=HT s (b0+1) o?;have:=hm.pre k x h1 k2 x2 JZ o? g1;rcases ups k2 x2 g1 with ⟨f,f'⟩|⟨q',f1,f2⟩;omega;have:=WT s (b0+1) (show p<=q' by omega);omega
theorem J1: ∀(is:List qj)(b0:Nat),(∀(r:Nat)(x:QA),(yy b0 is)[r]? =some x->l[b0+r]? =some x)-> ∀(j:Nat)(y:qj),(vN a b c s b0 is)[j]? =some y->
  ∃(k:Nat)(i:qj)(b1:Nat),is[k]? =some i/\b0<=b1/\s b1≠1/\y=l9 a b c s b1 i/\(∀(r:Nat)(x:QA),(aF b1 i)[r]? =some x->l[b1+r]? =some x):=by intro is;induction is with|nil=>intro b0 _ j y h;simp[vN]at h|cons i is ih=>(intro b0 hl j y h;have hL:=an b0 i;have h1: ∀(r:Nat)(x:QA),(aF b0 i)[r]? =some x->l[b0+r]? =some x:=by intro r x hx;have hr:=(qF hx).1;exact hl r x (by rw[yy,r? hr];exact hx));(have h2: ∀(r:Nat)(x:QA),(yy (b0+1+i.stops.l.length) is)[r]? =some x->l[b0+1+i.stops.l.length+r]? =some x:=by intro r x hx;have:=hl (1+i.stops.l.length+r) x (by rw[yy,J? o?,hL,show 1+i.stops.l.length+r-(1+i.stops.l.length)=r by omega];exact hx);rwa[show b0+(1+i.stops.l.length+r)=b0+1+i.stops.l.length+r by omega]at this);(have again: ∀(j:Nat)(y:qj),(vN a b c s (b0+1+i.stops.l.length) is)[j]? =some y-> ∃(k:Nat)(i' :qj)(b1:Nat),(i::is)[k]? =some i' /\b0<b1/\s b1≠1/\y=l9 a b c s b1 i' /\(∀(r:Nat)(x:QA),(aF b1 i')[r]? =some x->l[b1+r]? =some x):=by intro j y h;obtain⟨k,i',b1,g1,g2,g3⟩:=ih (b0+1+i.stops.l.length) h2 j y h;exact⟨k+1,i',b1,by simpa using g1,o?,g3⟩);rw[vN]at h;split at h;obtain⟨k,i',b1,g1,g2,g3⟩:=again j y h;exact⟨k,i',b1,g1,o?,g3⟩;rename_i e;cases j with|zero=>simp only[c?,ki]at h;exact⟨0,i,b0,rfl,jx _,e,h.symm,h1⟩|succ j=>simp only[i?]at h;obtain⟨k,i',b1,g1,g2,g3⟩:=again j y h;exact⟨k,i',b1,g1,o?,g3⟩
theorem TY: ∀(is:List qj)(b0:Nat),(∀(r:Nat)(x:QA),(yy b0 is)[r]? =some x->l[b0+r]? =some x)-> ∀(j j' :Nat)(y y' :qj),j<j' ->(vN a b c s b0 is)[j]? =some y->(vN a b c s b0 is)[j']? =some y' ->
  ∃(i i' :qj)(b1 b2:Nat),b0<=b1/\b1<b2/\s b1≠1/\s b2≠1/\y=l9 a b c s b1 i/\y' =l9 a b c s b2 i' /\l[b1]? =some (i.span.qB,i.span.to,-1)/\l[b2]? =some (i'.span.qB,i'.span.to,-1):=by intro is;induction is with|nil=>intro b0 _ j j' y y' _ h;simp[vN]at h|cons i is ih=>(intro b0 hl j j' y y' hj h h';have hL:=an b0 i;have h1:l[b0]? =some (i.span.qB,i.span.to,-1):=by simpa using hl 0 _ (by rw[yy,r? o?];rfl));(have h2: ∀(r:Nat)(x:QA),(yy (b0+1+i.stops.l.length) is)[r]? =some x->l[b0+1+i.stops.l.length+r]? =some x:=by intro r x hx;have:=hl (1+i.stops.l.length+r) x (by rw[yy,J? o?,hL,show 1+i.stops.l.length+r-(1+i.stops.l.length)=r by omega];exact hx);rwa[show b0+(1+i.stops.l.length+r)=b0+1+i.stops.l.length+r by omega]at this);rw[vN]at h h';split at h;rename_i e;rw[if_pos e]at h';obtain⟨i1,i2,b1,b2,g1,g⟩:=ih (b0+1+i.stops.l.length) h2 j j' y y' hj h h';exact⟨i1,i2,b1,b2,o?,g⟩;rename_i e;rw[if_neg e]at h';obtain⟨j',rfl⟩: ∃q,j' =q+1:=⟨j' -1,o?⟩;simp only[i?]at h';cases j with|zero=>simp only[c?,ki]at h;obtain⟨k,i',b2,g1,g2,g3,g4,g5⟩:=J1 is (b0+1+i.stops.l.length) h2 j' y' h';exact⟨i,i',b0,b2,jx _,o?,e,g3,h.symm,g4,h1,by simpa using g5 0 _ rfl⟩|succ j=>simp only[i?]at h;obtain⟨i1,i2,b1,b2,g1,g⟩:=ih (b0+1+i.stops.l.length) h2 j j' y y' o? h h';exact⟨i1,i2,b1,b2,o?,g⟩
include hR hH hS ha eL hb hc in
theorem YY{is:List qj}(hl:l=yy 0 is)(hm:mm is n):mm (vN a b c s 0 is) (n+(c-(b-a))):=by
 have hg: ∀(r:Nat)(x:QA),(yy 0 is)[r]? =some x->l[0+r]? =some x:=fun r x h=>by rw[hl,P?];exact h
 constructor;intro j y hy;obtain⟨k,i,b1,g1,_,g3,rfl,g5⟩:=J1 is 0 hg j y hy;exact q0A hR hH hS ha eL hb hc g5 (hm.may k i g1) g3;intro j j' y y' hj hy LM;obtain⟨i,i',b1,b2,_,g2,g3,g4,rfl,rfl,g7,g8⟩:=TY is 0 hg j j' y y' hj hy LM;have e1:=eE g7;have e2:=eE g8;have hb2:=(qF g8).1;show(Xa a b c (s b1) i.span).to<=(Xa a b c (s b2) i'.span).qB;rw[R1 _ _ _ e1.2.1,R0 _ _ _ e2.1];exact Uy hR hH hS eL hc hb2 g4 g2 g3 (by rw[e1.2.2,e2.2.2])
end
end Xr
def qJ{α:Type}(o:Option α)(Q:α->Prop):Prop:= ∃r,o=some r/\Q r
theorem qJ.ret{α:Type}{a:α}{Q:α->Prop}(h:Q a):qJ (some a) Q:=⟨a,rfl,h⟩
theorem qJ.bind{α β:Type}{o:Option α}{f:α->Option β}{P:α->Prop}{Q:β->Prop}(h:qJ o P)(k: ∀x,P x->qJ (f x) Q):qJ (o>>=f) Q:=by obtain⟨x,rfl,hx⟩:=h;exact k x hx
theorem qJ.go{α β:Type}{o:Option α}{f:α->Option β}{a:α}{Q:β->Prop}(h:o=some a)(k:qJ (f a) Q):qJ (o>>=f) Q:=by subst h;exact k
theorem qJ.ite{α:Type}{c:Prop}[Decidable c]{a b:Option α}{Q:α->Prop}(h1:c->qJ a Q)(h2: ¬c->qJ b Q):qJ (if c then a else b) Q:=by split;exact h1 (by assumption);exact h2 (by assumption)
theorem qJ.zx{α:Type}{c:Prop}[Decidable c]{a:Option α}{Q:α->Prop}(hc:c)(h:qJ a Q):qJ (if c then a else none) Q:=by rw[if_pos hc];exact h
theorem qJ.mono{α:Type}{o:Option α}{P Q:α->Prop}(h:qJ o P)(k: ∀x,P x->Q x):qJ o Q:=by obtain⟨x,h1,h2⟩:=h;exact⟨x,h1,k x h2⟩
theorem qJ.get{α:Type}{l:List α}{i:Int}(h1:0<=i:=by omega)(h2:i<(l.length:Int):=by omega):qJ (qh l i) (fun x=>l[i.toNat]? =some x/\x∈l):=by have h3:i.toNat<l.length:=o?;refine⟨l[i.toNat], ?_,by simp[h3],List.getElem_mem h3⟩;unfold qh;rw[if_pos h1];simp[h3]
theorem qJ.jj{α:Type}{l:List α}{lo hi:Int}(h1:0<=lo:=by omega)(h2:lo<=hi:=by omega)(h3:hi<=(l.length:Int):=by omega):qJ (Gm.jj l lo hi) (fun r=>r=(l.take hi.toNat).drop lo.toNat/\(r.length:Int)=hi-lo):=by refine⟨(l.take hi.toNat).drop lo.toNat, ?_,rfl, ?_⟩;unfold Gm.jj;rw[if_pos ⟨⟨h1,o?⟩,o?,o?⟩];simp only[List.length_drop,List.length_take];omega
theorem qJ.bH{α:Type}{l:List α}{lo:Int}(h1:0<=lo:=by omega)(h2:lo<=(l.length:Int):=by omega):qJ (Gm.bH l lo) (fun r=>r=l.drop lo.toNat/\(r.length:Int)=l.length-lo):=by refine⟨l.drop lo.toNat, ?_,rfl, ?_⟩;unfold Gm.bH;rw[if_pos ⟨h1,o?⟩];simp only[List.length_drop];omega
theorem qJ.kF{α:Type}{l:List α}{hi:Int}(h1:0<=hi:=by omega)(h2:hi<=(l.length:Int):=by omega):qJ (Gm.kF l hi) (fun r=>r=l.take hi.toNat/\(r.length:Int)=hi):=by refine⟨l.take hi.toNat, ?_,rfl, ?_⟩;unfold Gm.kF;rw[if_pos ⟨h1,o?⟩];simp only[List.length_take];omega
theorem qA{n k:Nat}(h:n<=2^30:=by omega)(hk:k<=2^16:=by omega):qg n k=true:=by have h1:n*k<=2^30*2^16:=Nat.mul_le_mul h hk;unfold qg;simp only[zO,decide_eq_true_eq];refine⟨⟨by simpa using h1,o?⟩,o?⟩
theorem xI{n:Int}(h1:0<=n)(h2:n<=255):R?.wrap n=n:=IntWalk.u8_in n ⟨h1,h2⟩
theorem ge0{a b:Int}:(a>=b)=(b<=a):=rfl
theorem gt0{a b:Int}:(a>b)=(b<a):=rfl
def tfx:=PLift.up (g? @decide_eq_true_eq (g? @zO (g? @Bool.or_eq_true (g? @u_ (g? @Bool.not_eq_true (g? @Bool.and_eq_false_iff (g? @Bool.or_eq_false_iff (g? @decide_eq_false_iff_not
 (g? @beq_iff_eq.{0} (g? @bne_iff_ne.{0} (g? @beq_eq_false_iff_ne.{0} (g? @bne_eq_false_iff_eq.{0} (g? @not_and (g? @not_or (g? @ge0 (g? @gt0 (g? @Bool.not_eq_false' (g? @Bool.not_eq_false (g? @Int.not_lt (g? @Int.not_le
 (g? @ne_eq.{1} @q2o)))))))))))))))))))))
def BN:Nat:=8192
theorem qJ.tI{α:Type}{c:Prop}[Decidable c]{a b:Option α}{Q:α->Prop}{p n:Prop}(f:p->qJ a Q)(g:n->qJ b Q)
  (hp:c->p:=by(intro hT;(try simp(disch:=omega) only[tfx.down,qH,xI]at hT);exact hT)) (hn: ¬c->n:=by(intro hT;(try simp(disch:=omega) only[tfx.down,qH,xI]at hT);exact hT)):qJ (if c then a else b) Q:=
 qJ.ite (fun h=>f (hp h)) (fun h=>g (hn h))
theorem tW{P:Prop}(h:P:=by
 (try intros)
 (try simp only[BN]at *)
 repeat' (first
  |refine qJ.zx (qA (by first|omega|grind) (by omega)) ?_
  |refine qJ.zx (by (try simp only[Bool.and_eq_true,decide_eq_true_eq,List.length_append,List.length_cons,List.length_nil]);first|omega|grind) ?_
  |(refine qJ.tI ?_ ?_<;>intro _)
  |(rw [qH];rotate_left;(first|omega|grind);(first|omega|grind))
  |(rw [xI];rotate_left;(first|omega|grind);(first|omega|grind))
  |refine qJ.bind (qJ.get (by first|omega|grind) (by first|omega|grind)) fun _ _=>?_
  |refine qJ.bind (qJ.jj (by first|omega|grind) (by first|omega|grind) (by first|omega|grind)) fun _ _=>?_
  |refine qJ.bind (qJ.kF (by first|omega|grind) (by first|omega|grind)) fun _ _=>?_
  |refine qJ.bind (qJ.bH (by first|omega|grind) (by first|omega|grind)) fun _ _=>?_
  |refine qJ.bind (by (apply_assumption;(try any_goals rfl);all_goals (first|assumption|omega|grind))) fun _ _=>?_
  |refine .ret ?_
  |(refine qJ.mono (by (apply_assumption;(try any_goals rfl);all_goals (first|assumption|omega|grind))) ?_;intros)
  |(rintro _ ⟨⟩))
 all_goals (first|omega|(simp only[List.length_append,List.length_cons,List.length_nil]at *; first|omega|grind)|grind|((repeat' (refine And.intro ?_ ?_))<;>first|rfl|omega|(simp only[List.length_append,List.length_cons,List.length_nil]at *; omega)|grind)|(split<;>refine .ret ?_<;>first|omega|grind))):P:=h
theorem mc(c:UInt8):qJ (kG c) (fun v=>v=true->48<=c.toNat/\c.toNat<=57):=by unfold kG;refine .tI ?_ ?_<;>intro hT;exact .ret v?;exact .ret z?
theorem tN(c:UInt8):qJ (wV c) (fun _=>True):=by unfold wV;refine .tI ?_ ?_<;>intro hT;exact .ret trivial;refine .tI ?_ ?_<;>intro hT;exact .ret trivial;exact .ret trivial
theorem Y0(s:qa)(hs:s.length<=BN)(qp:Int)(ha:0<=qp)(eU:qp<=s.length): ∀(m:Nat)(n e:Int),m=(s.length-e).toNat->qp<=e->e<=s.length->0<=n->
  (e=qp/\n<1\/e=qp+1/\n<10\/e=qp+2/\n<100\/e=qp+3/\n<1000\/e=qp+4/\n<10000)->
  qJ (uQ (s,qp,n,e)) (fun r=>0<=r.1/\r.1<=9999/\e<=r.2/\r.2<=s.length):=by unfold BN at hs;intro m;induction m using p? with|_ m ih=>intro n e hm h1 h2 h4 h5;rw[uQ.eq_1];refine .tI ?_ ?_<;>intro hT;{(repeat (first|(rw [qH];rotate_left;omega;omega)|(rw [xI];rotate_left;omega;omega)));refine .bind .get fun b hb=>?_;refine .bind (mc b) fun v hv=>?_;refine .tI ?_ ?_<;>intro hT;{have Zf:=hT;have TA:=hv Zf;(try simp(disch:=omega) only[qH,xI]);exact(ih _ o? _ _ rfl o? o? o? o?).mono fun r hr=>o?};exact .ret u?};exact .ret u?
theorem fj(s:qa)(hs:s.length<=BN)(qp:Int)(ha:0<=qp)(eU:qp<=s.length):
  qJ (n9 s qp) (fun r=>0<=r.1/\r.1<=9999/\(r.2.2=true->qp<r.2.1/\r.2.1<=s.length)):=by unfold n9;refine .bind (Y0 s hs qp ha eU _ 0 qp rfl o? eU o? o?) fun v hv=>?_;refine .tI ?_ ?_<;>intro hT;exact .ret z?;refine .tI ?_ ?_<;>intro hT;refine .bind .get fun b hb=>?_;refine .bind (mc b) fun w hw=>?_;refine .tI ?_ ?_<;>intro hT;exact .ret z?;exact .ret ⟨hv.1,hv.2.1,fun _=>u?⟩;exact .ret ⟨hv.1,hv.2.1,fun _=>u?⟩
theorem NQ(s:qa)(hs:s.length<=BN): ∀(m:Nat)(i:Int),m=(s.length-i).toNat->0<=i->qJ (xW (s,i)) (fun _=>True):=by unfold BN at hs;intro m;induction m using p? with|_ m ih=>intro i hm h1;rw[xW.eq_1];refine .tI ?_ ?_<;>intro hT;{(repeat (first|(rw [qH];rotate_left;omega;omega)|(rw [xI];rotate_left;omega;omega)));refine .bind .get fun b hb=>?_;refine .bind (tN b) fun v hv=>?_;have h:=ih _ o? (i+1) rfl o?;refine .tI ?_ ?_<;>intro hT;refine .tI ?_ ?_<;>intro hT;refine .tI ?_ ?_<;>intro hT;exact .ret trivial;refine .bind (mc b) fun w hw=>?_;refine .tI ?_ ?_<;>intro hT;exact .ret trivial;exact h;exact h;exact h};exact .ret trivial
theorem WD(s:qa)(hs:s.length<=BN):qJ (jl s) (fun _=>True):=by unfold jl;refine .tI ?_ ?_<;>intro hT;exact .ret trivial;refine .bind (NQ s hs _ 0 rfl o?) fun v hv=>?_;rcases v with v|v<;>exact .ret trivial
theorem Ga(s:qa)(hs:s.length<=BN)(w:List qD)(es:List Int)(qp:Int)(ha:0<=qp): ∀(m:Nat)(e:Int),m=(s.length-e).toNat->qp<=e->e<=s.length->
  qJ (j8 (qp,e,s,w,es)) (fun r=>e<=r/\r<=s.length):=by unfold BN at hs;intro m;induction m using p? with|_ m ih=>intro e hm h1 h2;rw[j8.eq_1];refine .tI ?_ ?_<;>intro hT;{(repeat (first|(rw [qH];rotate_left;omega;omega)|(rw [xI];rotate_left;omega;omega)));refine .bind .get fun b hb=>?_;refine .bind (tN b) fun v hv=>?_;have h:=(ih _ o? (e+1) rfl o? o?).mono (Q:=fun r=>e<=r/\r<=s.length) fun r hr=>o?;refine .tI ?_ ?_<;>intro hT;exact h;refine .tI ?_ ?_<;>intro hT;exact h;refine .tI ?_ ?_<;>intro hT;refine .bind (mc b) fun w hw=>?_;refine .tI ?_ ?_<;>intro hT;exact h;exact .ret o?;exact .ret o?};exact .ret o?
theorem AS(s:qa)(hs:s.length<=BN)(w:List qD)(es:List Int)(qp:Int)(ha:0<=qp)(eU:qp<=s.length):
  qJ (gb qp s w es) (fun r=>qp<=r.2.1/\r.2.1<=s.length/\(r.1.length:Int)=r.2.1-qp/\(r.2.2=true->qp<r.2.1)):=by unfold gb;refine .bind (Ga s hs w es qp ha _ qp rfl o? eU) fun v hv=>?_;refine .bind (qJ.jj ha hv.1 hv.2) fun x hx=>?_;have hn:=WD x o?;by_cases he:x.length=0;(have:x=[]:=by simpa using he);subst this;refine .bind (o:=jl []) (P:=fun w=>w=false) ⟨false,by unfold jl;simp,rfl⟩ fun w hw=>?_;subst hw;exact .ret ⟨hv.1,hv.2,hx.2,z?⟩;refine .bind hn fun w hw=>?_;exact .ret ⟨hv.1,hv.2,hx.2,fun _=>u?⟩
namespace Xr
theorem gi{α:Type}{l:List α}{k:Nat}{x:α}(h:l[k]? =some x):qh l (k:Int)=some x:=by have hk:=(qF h).1;rw[xd hk];rw[wu hk]at h;exact h
theorem gl{α:Type}{l:List α}{k:Nat}(h:k<l.length): ∃x,l[k]? =some x:=⟨l[k],wu h⟩
theorem ws{k:Nat}(h:k<2^60):q?.wrap ((k:Int)+1)=((k+1:Nat):Int):=pE o?
def zY(a b:qn):Prop:=b.qB<=a.qB/\a.to<=b.to
instance(a b:qn):Decidable (zY a b):=by unfold zY;infer_instance
theorem iZ(a b:qn):xl a b=some (decide (zY a b)):=by unfold xl zY;by_cases h:b.qB<=a.qB;rw[if_pos (by simpa using h)];simp[h];rw[if_neg (by simpa using h)];simp[h]
theorem zr{α:Type}{l:List α}{k:Nat}{x:α}{r:List α}(h:l.drop k=x::r):l[k]? =some x/\l.drop (k+1)=r/\k<l.length:=by
 have hk:k<l.length:=by rcases Nat.lt_or_ge k l.length with h1|h1;exact h1;rw[List.drop_eq_nil_of_le h1]at h;cases h
 rw[List.drop_eq_getElem_cons hk]at h;simp only[List.cons.injEq]at h;exact⟨by rw[wu hk,h.1],h.2,hk⟩
theorem ze{α:Type}{l:List α}{k:Nat}(h:l.drop k=[]):l.length<=k:=by simpa using h
def isN(n:Int)(x:qq):Bool:= !x.qL&&x.n==n
def Xn(n:Int)(l:List qq):List qn:=(l.filter (isN n)).map (·.span)
def gu(n:Int)(is:List qj):List qn:=is.flatMap fun i=>Xn n i.stops.l
def many(is:List qj):Nat:=(is.map fun i=>i.stops.l.length).sum
theorem UA(n:Int)(l:List qq):(Xn n l).length<=l.length:=by unfold Xn;rw[List.length_map];exact List.length_filter_le _ _
theorem spans_L2(n:Int)(is:Sl qj)(a:Nat)(i:qj)(hi:is.l[a]? =some i)(hl:i.stops.l.length<=2^20): ∀(r:List qq)(k:Nat)(out:List qn),i.stops.l.drop k=r->out.length+r.length<=2^29->
  wa (n,is,(a:Int),(k:Int),out)=some (out++Xn n r):=by intro r;induction r with|nil=>intro k out h _;have:=ze h;rw[wa.eq_1,gi hi];simp only[zF,qS];rw[if_neg v?];simp[Xn]|cons x r ih=>intro k out h ho;obtain⟨h1,h2,h3⟩:=zr h;simp only[h?]at ho;rw[wa.eq_1,gi hi];simp only[zF,qS];rw[if_pos v?,gi h1,ws o?];simp only[qS];have e1:=ih (k+1) out h2 o?;have e2:=ih (k+1) (out++[x.span]) h2 v?;generalize ((k+1:Nat):Int)=q at e1 e2 |-;cases ht:x.qL with|true=>simp[e1,Xn,isN,ht]|false=>by_cases hn:x.n=n;simp[e2,Xn,isN,ht,hn,qA (show out.length+1<=2^30 by omega) (show 16<=2^16 by omega)];simp[e1,Xn,isN,ht,hn]
theorem spans_L0(n:Int)(is:Sl qj)(hb: ∀i∈is.l,i.stops.l.length<=2^20)(hL:is.l.length<=2^20): ∀(r:List qj)(a:Nat)(out:List qn),is.l.drop a=r->out.length+many r<=2^29->
  uu (n,is,(a:Int),out)=some (out++gu n r):=by intro r;induction r with|nil=>intro a out h _;have:=ze h;rw[uu.eq_1,if_neg v?];simp[gu]|cons i r ih=>intro a out h ho;obtain⟨h1,h2,h3⟩:=zr h;have hi:=z6 h1;simp only[many,s?,y!]at ho;have hs:=UA n i.stops.l;rw[uu.eq_1,if_pos v?,show(0:Int)=((0:Nat):Int)from rfl,spans_L2 n is a i h1 (hb i hi) i.stops.l 0 out rfl o?,ws o?];simp only[zF,qS];rw[ih (a+1) _ h2 (by simp only[many,t?];omega)];simp[gu]
theorem X6{is:List qj}{B:Nat}(h: ∀i∈is,i.stops.l.length<=B):many is<=is.length*B:=by induction is with|nil=>simp[many]|cons i is ih=>have h1:=h i z?;have h2:=ih fun j hj=>h j (by simp[hj]);simp only[many,s?,y!,h?]at*;rw[B?];omega
theorem Xo(n:Int)(is:Sl qj)(hb: ∀i∈is.l,i.stops.l.length<=2^12)(hL:is.l.length<=2^12):wo n is=some ⟨(gu n is.l).isEmpty,gu n is.l⟩:=by have h1:=X6 hb;have h2:is.l.length*2^12<=2^12*2^12:=j_ hL (jx _);unfold wo;rw[show (0:Int)=((0:Nat):Int)from rfl,spans_L0 n is (fun i hi=>by have:=hb i hi;omega) o? is.l 0 [] rfl v?];simp
theorem Cc(s:qn)(l:Sl qn)(hL:l.l.length<2^60): ∀(r:List qn)(k:Nat),l.l.drop k=r->gO (l,(k:Int),s)=some (if r.any (fun p=>decide (zY s p))=true then .inl true else .inr ()):=by intro r;induction r with|nil=>intro k h;have:=ze h;rw[gO.eq_1,if_neg v?];simp|cons p r ih=>intro k h;obtain⟨h1,h2,h3⟩:=zr h;rw[gO.eq_1,if_pos v?,gi h1,ws o?];simp only[zF,qS,iZ,ih (k+1) h2];by_cases e:zY s p<;>simp[e]
def Zi(s:qn)(l:List qn):Prop:= ∃p∈l,zY s p
theorem lies_ok(s:qn)(l:Sl qn)(hL:l.l.length<2^60): ∃t:Bool,gN s l=some t/\(t=true↔Zi s l.l):=by unfold gN;rw[show (0:Int)=((0:Nat):Int)from rfl,Cc s l hL l.l 0 rfl];simp only[zF,qS,Zi];cases h:l.l.any (fun p=>decide (zY s p))with|true=>exact⟨true,rfl,by simpa using h⟩|false=>exact⟨false,rfl,by simpa using h⟩
def JM(s:qb)(qp:qn)(a k:Int):Prop:= ∃(a' k' :Nat)(i:qj)(x:qq),a=a' /\k=k' /\s.insts.l[a']? =some i/\i.stops.l[k']? =some x/\x.n=s.cur/\x.qL=false/\zY qp x.span
theorem q0T(s:qb)(qp:qn)(a:Nat)(i:qj)(hi:s.insts.l[a]? =some i)(hl:i.stops.l.length<2^60): ∀(r:List qq)(k:Nat),i.stops.l.drop k=r->
  qJ (vA ((a:Int),(k:Int),s,qp)) (fun v=>v= .inr ()\/ ∃j,v= .inl j/\JM s qp a j):=by intro r;induction r with|nil=>intro k h;have:=ze h;rw[vA.eq_1,gi hi];simp only[zF,qS];rw[if_neg v?];exact .ret (.inl rfl)|cons x r ih=>intro k h;obtain⟨h1,h2,h3⟩:=zr h;rw[vA.eq_1,gi hi];simp only[zF,qS];rw[if_pos v?,gi h1,ws o?];simp only[qS,iZ];have hr:=ih (k+1) h2;by_cases e:((x.n==s.cur)&&(!x.qL))=true;rw[if_pos e];simp only[zO,beq_iff_eq,u_]at e;by_cases w:zY qp x.span;rw[if_pos (by simpa using w)];exact .ret (.inr ⟨_,rfl,a,k,i,x,rfl,rfl,hi,h1,e.1,e.2,w⟩);rw[if_neg (by simpa using w)];exact hr;rw[if_neg e];exact hr
def xH(s:qb):Prop:=s.insts.l.length<=2^12/\ ∀i∈s.insts.l,i.stops.l.length<=2^12
theorem q0S(s:qb)(qp:qn)(hs:xH s): ∀(r:List qj)(a:Nat),s.insts.l.drop a=r->
  qJ (ux ((a:Int),s,qp)) (fun v=>v= .inr ()\/ ∃j k,v= .inl (j,k)/\JM s qp j k):=by intro r;have nK:=hs.1;induction r with|nil=>intro a h;have:=ze h;rw[ux.eq_1,if_neg v?];exact .ret (.inl rfl)|cons i r ih=>intro a h;obtain⟨h1,h2,h3⟩:=zr h;have hi:=hs.2 i (z6 h1);rw[ux.eq_1,if_pos v?,ws o?];refine .bind (q0T s qp a i h1 o? i.stops.l 0 rfl) fun v hv=>?_;rcases hv with rfl|⟨j,rfl,hj⟩;exact ih (a+1) h2;exact .ret (.inr ⟨_,_,rfl,hj⟩)
theorem J9(s:qb)(qp:qn)(hs:xH s):qJ (gm s qp) (fun v=>v=(-1,-1)\/JM s qp v.1 v.2):=by unfold gm;refine .bind (q0S s qp hs s.insts.l 0 rfl) fun v hv=>?_;rcases hv with rfl|⟨j,k,rfl,hj⟩;exact .ret (.inl rfl);exact .ret (.inr hj)
theorem JM.nat{s:qb}{qp:qn}{a k:Int}(h:JM s qp a k):0<=a/\0<=k:=by obtain⟨a',k',_,_,rfl,rfl,_⟩:=h;omega
theorem stays_L0(s:qb)(es:Sl ql)(hs:xH s)(he:es.l.length<2^60): ∀(r:List ql)(k:Nat),es.l.drop k=r->
  qJ (uy (es,(k:Int),s)) (fun v=>(∃ b,v= .inl b/\b=false)\/v= .inr ()/\ ∀e∈r,∃ a k,gm s e.span=some (a,k)/\JM s e.span a k):=by intro r;induction r with|nil=>intro k h;have:=ze h;rw[uy.eq_1,if_neg v?];exact .ret (.inr ⟨rfl,z?⟩)|cons e r ih=>intro k h;obtain⟨h1,h2,h3⟩:=zr h;rw[uy.eq_1,if_pos v?,gi h1,ws o?];obtain⟨v,hv,hq⟩:=J9 s e.span hs;refine .go rfl ?_;refine .go hv ?_;rcases hq with rfl|hq;rw[if_pos (by decide)];exact .ret (.inl ⟨_,rfl,rfl⟩);have:=hq.nat;rw[if_neg v?];refine(ih (k+1) h2).mono fun w hw=>?_;rcases hw with hw|⟨h4,h5⟩;exact .inl hw;refine .inr ⟨h4,fun e' VR=>?_⟩;rcases List.mem_cons.1 VR with rfl|VR;exact⟨_,_,hv,hq⟩;exact h5 e' VR
theorem Ea(s:qb)(es:Sl ql)(hs:xH s)(he:es.l.length<2^60):qJ (cY s es) (fun b=>b=true-> ∀e∈es.l,∃ a k,gm s e.span=some (a,k)/\JM s e.span a k):=by unfold cY;refine .bind (stays_L0 s es hs he es.l 0 rfl) fun v hv=>?_;rcases hv with ⟨b,rfl,rfl⟩|⟨rfl,hv⟩;exact .ret z?;exact .ret fun _=>hv
end Xr
namespace Xr
abbrev TS:=qC
def strOf(x:TS):QA:=(x.span.qB,x.span.to,x.up)
structure kM (e:ql) (n:Int):Prop where
 a0:0<=e.span.qB
 ab:e.span.qB<=e.span.to
 bn:e.span.to<=n
 len:(e.text.length:Int)<=2^40
 nn:n<=2^40
theorem R8(e:ql)(n:Int)(he:kM e n)(qp:Int)(h0:0<=qp)(h1:qp<=n)(right:Bool):ae qp right e=some (mv e.span.qB e.span.to e.text.length right qp):=by
 have:=he.a0;have:=he.ab;have:=he.bn;have:=he.len;have:=he.nn;unfold ae mv;rw[qH (n:=qp+(e.text.length:Int)) o? o?,qH (n:=e.span.to-e.span.qB) o? o?,qH (n:=e.span.qB+(e.text.length:Int)) o? o?,
  qH (n:=qp+(e.text.length:Int)-(e.span.to-e.span.qB)) o? o?]
 by_cases h2:qp<e.span.qB;simp[h2];by_cases h3:qp>e.span.to;simp[h2,h3];omega;cases right<;>simp[h2,h3]
theorem NO(e:ql)(n:Int)(he:kM e n)(p:qn)(h0:0<=p.qB)(h1:p.qB<=p.to)(h2:p.to<=n)(side:Int):ro p side e=some (Xa e.span.qB e.span.to e.text.length side p):=by
 have:=he.a0;have:=he.ab;have:=he.bn;have:=he.len;have:=he.nn;unfold ro Xa;by_cases h:side=0;rw[qH (n:=p.to+(e.text.length:Int)) o? o?,qH (n:=e.span.to-e.span.qB) o? o?,qH (n:=p.to+(e.text.length:Int)-(e.span.to-e.span.qB)) o? o?];simp[h];omega;rw[if_neg (by simpa using h),R8 e n he p.qB o? o?,R8 e n he p.to o? o?,if_neg h];have:(side==3)=decide (side=3):=by by_cases h:side=3<;>simp[h]
 rw[this];rfl
theorem row_L2(s:qb)(a:Nat)(i:qj)(hi:s.insts.l[a]? =some i)(b:Nat)(hb:b<=2^26)(hl:i.stops.l.length<=2^12)(hu: ∀x∈i.stops.l,-1<=x.up/\x.up<=2^20)(z:List TS):
  ∀(r:List qq)(k:Nat)(l:List TS),i.stops.l.drop k=r->l.length+r.length<=2^29->
  ∃m:List TS,nq ((a:Int),(b:Int),(k:Int),s,l,z)=some (l++m)/\m.map strOf=r.map (fun x=>(x.span.qB,x.span.to,(b:Int)+1+x.up)):=by intro r;induction r with|nil=>intro k l h _;have:=ze h;rw[nq.eq_1,gi hi];simp only[zF,qS];rw[if_neg v?];exact⟨[],z?,rfl⟩|cons x r ih=>intro k l h hL;obtain⟨h1,h2,h3⟩:=zr h;have hx:=hu x (z6 h1);simp only[h?]at hL;rw[nq.eq_1,gi hi];simp only[zF,qS];rw[if_pos v?,gi h1,ws o?];simp only[qS];rw[qH (n:=(b:Int)+1) o? o?,qH (n:=(b:Int)+1+x.up) o? o?];rw[if_pos qA];obtain⟨m,e1,e2⟩:=ih (k+1) (l++[qC.mk x.span ((b:Int)+1+x.up)]) h2 v?;exact⟨qC.mk x.span ((b:Int)+1+x.up)::m,by rw[e1];simp,by simp[e2,strOf]⟩
theorem row_L0(s:qb)(hs:xH s)(hu: ∀i∈s.insts.l,∀ x∈i.stops.l,-1<=x.up/\x.up<=2^20): ∀(r:List qj)(a:Nat)(l:List TS),s.insts.l.drop a=r->l.length+r.length+many r<=2^25->
  ∃m:List TS,np ((a:Int),s,l)=some (l++m)/\m.map strOf=yy l.length r:=by intro r;have nK:=hs.1;induction r with|nil=>intro a l h _;have:=ze h;rw[np.eq_1,if_neg v?];exact⟨[],z?,rfl⟩|cons i r ih=>(intro a l h hL;obtain⟨h1,h2,h3⟩:=zr h;have sG:=z6 h1;have hi:=hs.2 i sG;simp only[h?,many,s?,y!]at hL;rw[np.eq_1,if_pos v?,gi h1,ws o?];simp only[zF,qS];rw[if_pos qA];obtain⟨m,e1,e2⟩:=row_L2 s a i h1 l.length o? hi (hu i sG) [qC.mk i.span (-1)] i.stops.l 0 (l++[qC.mk i.span (-1)]) rfl v?;rw[show ((0:Nat):Int)=0 from rfl]at e1;rw[e1];simp only[qS];have Vs:m.length=i.stops.l.length:=by simpa using congrArg List.length e2);obtain⟨m2,f1,f2⟩:=ih (a+1) (l++[qC.mk i.span (-1)]++m) h2 (by simp only[many,t?,w!];omega);refine⟨qC.mk i.span (-1)::(m++m2),by rw[f1];simp, ?_⟩;simp only[s?,List.map_append,e2,f2,yy,aF,t?,w!,Vs,strOf,List.cons_append]
theorem row_ok(s:qb)(hs:xH s)(hu: ∀i∈s.insts.l,∀ x∈i.stops.l,-1<=x.up/\x.up<=2^20): ∃l:List TS,iI s=some ⟨l.isEmpty,l⟩/\l.map strOf=yy 0 s.insts.l:=by have h1:=X6 hs.2;have h2:s.insts.l.length*2^12<=2^12*2^12:=j_ hs.1 (jx _);have h3:=hs.1;obtain⟨m,e1,e2⟩:=row_L0 s hs hu s.insts.l 0 [] rfl v?;refine⟨m, ?_,by simpa using e2⟩;unfold iI;rw[show (0:Int)=((0:Nat):Int)from rfl,e1];simp
def qm(is:List qj)(a:Nat):Nat:=((is.take a).map fun i=>1+i.stops.l.length).sum
theorem M0(s:qb)(hs:xH s)(inst:Nat)(dK:inst<=s.insts.l.length): ∀(d a qp:Nat),a+d=inst->qp+d*(2^12+1)<=2^40->
  uB ((inst:Int),(qp:Int),(a:Int),s)=some ((qp+(qm s.insts.l inst-qm s.insts.l a):Nat):Int):=by have nK:=hs.1;intro d;induction d with|zero=>intro a qp h _;obtain rfl:a=inst:=o?;rw[uB.eq_1,if_neg z?];simp|succ d ih=>(intro a qp h hb;have Vp:a<s.insts.l.length:=o?;have h1:s.insts.l[a]? =some s.insts.l[a]:=wu Vp;have h2:=hs.2 _ (List.getElem_mem Vp);generalize s.insts.l[a]=i at h1 h2;rw[B?]at hb;rw[uB.eq_1,if_pos v?,gi h1,ws (k:=a) o?];simp only[zF,qS];rw[qH (n:=(qp:Int)+1) o? o?,qH (n:=(qp:Int)+1+(i.stops.l.length:Int)) o? o?];rw[show (qp:Int)+1+(i.stops.l.length:Int)=((qp+1+i.stops.l.length:Nat):Int) by omega,ih (a+1) (qp+1+i.stops.l.length) o? o?];have Hk:qm s.insts.l (a+1)=qm s.insts.l a+(1+i.stops.l.length):=by unfold qm;rw[List.take_add_one,h1];simp);(have hb2:qm s.insts.l (a+1)<=qm s.insts.l inst:=by (unfold qm;have:(s.insts.l.take (a+1)).map (fun i=>1+i.stops.l.length)=((s.insts.l.take inst).map (fun i=>1+i.stops.l.length)).take (a+1):=by rw[<- List.map_take,List.take_take,Nat.min_eq_left o?]);rw[this];generalize (s.insts.l.take inst).map (fun i=>1+i.stops.l.length)=L;have:=List.take_append_drop (a+1) L;have h5:=congrArg List.sum this;rw[List.sum_append]at h5;omega);congr 2;omega
theorem M1(s:qb)(hs:xH s)(qp:qn)(a k:Int)(h:(a= -1/\k= -1)\/JM s qp a k): ∃o:Int,mW s a k=some o/\((a= -1/\o= -1)\/ ∃(a' k' :Nat),a=a' /\k=k' /\o=((qm s.insts.l a' +1+k' :Nat):Int)):=by
 unfold mW;rcases h with ⟨rfl,rfl⟩|⟨a',k',i,x,rfl,rfl,h1,h2,_⟩;rw[if_pos z?];exact⟨-1,rfl,.inl ⟨rfl,rfl⟩⟩
 have Vp:=(qF h1).1;have pf:=(qF h2).1;have nK:=hs.1;have EK:=hs.2 i (z6 h1);rw[if_neg v?,gi h1];simp only[zF,qS];rw[if_neg v?,ws o?,show(0:Int)=((0:Nat):Int)from rfl,M0 s hs a' o? a' 0 (k' +1) o? (by
  have:a' *(2^12+1)<=2^12*(2^12+1):=j_ o? (jx _)
  omega)]
 refine⟨_,rfl,.inr ⟨a',k',rfl,rfl, ?_⟩⟩;have:qm s.insts.l 0=0:=by simp[qm]
 rw[this];congr 1;omega
end Xr
namespace Xr
inductive pV (U:Nat->Int) (c:Nat):Nat->Prop
 |self:pV U c c
 |up (x p:Nat):pV U c x->U x=p->pV U c p
theorem eO{U:Nat->Int}{c r:Nat}(h:pV U c r):r=c\/ ∃p:Nat,U c=p/\pV U p r:=by induction h with|self=>exact .inl rfl|up x p hx hp ih=>rcases ih with rfl|⟨p0,h1,h2⟩;exact .inr ⟨p,hp,.self⟩;exact .inr ⟨p0,h1,.up x p h2 hp⟩
theorem Qf{U:Nat->Int}{c p r:Nat}(hp:U c=p)(h:pV U p r):pV U c r:=by induction h with|self=>exact .up c p .self hp|up x q _ hq ih=>exact .up x q ih hq
section
variable {m:Nat} {F W U:Nat->Int} {n:Int}
theorem eo(hR:Row m F W U n){c q:Nat}(hc:c<m)(h:pV U c q):q<=c:=by induction h with|self=>exact jx _|up x p _ hp ih=>have:=hR.up x o?;omega
theorem BA(hR:Row m F W U n){c q:Nat}(hc:c<m)(h:pV U c q): ∀y,q<y->y<=c->(q:Int)<=U y:=by induction h with|self=>intro y h1 h2;omega|up x p hx hp ih=>intro y h1 h2;have hxc:=eo hR hc hx;have P8:=hR.up x o?;rcases E! y x with h3|h3|h3;have:=hR.pre x o? y h3 o?;omega;subst h3;omega;have:=ih y h3 h2;omega
theorem anc_has(hR:Row m F W U n){a b:Int}{c q:Nat}(hc:c<m)(hcc:F c<=a/\b<=W c)(h:pV U c q):F q<=a/\b<=W q:=by induction h with|self=>exact hcc|up x p hx hp ih=>have hxc:=eo hR hc hx;have:=hR.nest x o? p hp;omega
def Kw(F W:Nat->Int)(a b:Int)(r:Nat):Prop:=F r<a/\b<W r\/a<b/\F r<=a/\b<=W r
structure HI (m:Nat) (F W U:Nat->Int) (a b:Int) (o r:Nat) (h i:List Bool):Prop where
 hl:h.length=m
 il:i.length=m
 hs: ∀y,h[y]? =some true->pV U o y\/(o<y/\y<r/\(o:Int)<=U y/\(∀ p:Nat,U y=p->h[p]? =some true)/\Kw F W a b y)
 Ew: ∀y,pV U o y->h[y]? =some true
 is: ∀y,i[y]? =some true->o<y
 hi: ∀y,h[y]? =some true->o<y->i[y]? =some true
 bw: ∀y,y<r->o<y->(o:Int)<=U y->(∀ p:Nat,U y=p->h[p]? =some true)->Kw F W a b y->h[y]? =some true
structure HE (m:Nat) (F W U:Nat->Int) (a b:Int) (o:Nat) (H:Nat->Prop):Prop where
 fw: ∀y,H y->pV U o y\/(o<y/\(o:Int)<=U y/\(∀ p:Nat,U y=p->H p)/\Kw F W a b y)
 Ew: ∀y,pV U o y->H y
 bw: ∀y,y<m->o<y->(o:Int)<=U y->(∀ p:Nat,U y=p->H p)->Kw F W a b y->H y
theorem HI.hold(hR:Row m F W U n){a b:Int}{o:Nat}(ho:o<m)(Tv:F o<=a/\b<=W o)(eL:a<=b){h i:List Bool}{r:Nat}(H:HI m F W U a b o r h i):Vx m F W U (fun y=>h[y]? =some true) a b:=by refine⟨?_, ?_, ?_⟩;intro y hy h1 p hp;rcases H.hs y h1 with h2|⟨_,_,_,h2,_⟩;exact H.Ew p (.up y p h2 hp);exact h2 p hp;intro y hy h1;rcases H.hs y h1 with h2|⟨_,_,_,_,h2⟩;exact anc_has hR ho Tv h2;unfold Kw at h2;omega;intro y hy q hqy hu h1 h2;rcases H.hs y h2 with h3|⟨h3,_,h4,_,h5⟩;have hyo:=eo hR ho h3;rcases H.hs q h1 with g|⟨g,_⟩;have:=BA hR ho g y hqy hyo;have:=hR.up q o?;omega;omega;have hq:=hR.up q o?;rcases H.hs q h1 with g|⟨_,_,_,_,g⟩;have:=eo hR ho g;omega;have:=hR.B3 y hy q hqy hu;unfold Kw at h5 g;omega
end
theorem zl{α:Type}(l:List α)(k:Nat)(v:α)(j:Nat):(l.set k v)[j]? =if k=j/\j<l.length then some v else l[j]? :=by rw[List.getElem?_set];by_cases h:k=j;subst h;by_cases h2:k<l.length;simp[h2];simp[h2];simp[h]
section
variable (L:List TS) (e:ql) (deep:Bool) (ow:Int)
theorem hold_L0{n:Int}(hR:Row (L.map strOf).length (IW (L.map strOf)) (O5 (L.map strOf)) (DE (L.map strOf)) n)(z:Bool)(i_:List Bool): ∀(c:Nat)(h:List Bool),c<L.length->h.length=L.length->
  ∃h' :List Bool,yP (⟨z,L⟩,ow,deep,(c:Int),e,h,i_)=some h' /\h'.length=L.length/\ ∀y,h'[y]? =some true↔h[y]? =some true\/pV (DE (L.map strOf)) c y:=by intro c;induction c using Nat.strongRecOn with|_ c ih=>(intro h hc hl;have hx:L[c]? =some L[c]:=wu hc;generalize L[c]=x at hx;obtain⟨w,hw⟩:=gl (l:=h) (k:=c) o?;have hu:=hR.up c (by simpa using hc);have P8:DE (L.map strOf) c=x.up:=by (have:(L.map strOf)[c]? =some (strOf x):=by simp[hx]);rw[(eE this).2.2];rfl);(have px: ∀y,(h.set c true)[y]? =some true↔h[y]? =some true\/y=c:=by intro y;rw[zl];by_cases e1:c=y;subst e1;simp[hl,hc];simp[e1];omega);rw[yP.eq_1,if_pos z?,gi hw,gi hx];simp only[zF,qS,Int.toNat_natCast];by_cases hp:0<=x.up;obtain⟨p,hp⟩: ∃p:Nat,x.up=p:=⟨x.up.toNat,o?⟩;obtain⟨h',g1,g2,g3⟩:=ih p o? (h.set c true) o? (by simp[hl]);refine⟨h',by rw[hp,g1],g2,fun y=>?_⟩;rw[g3,px];constructor;rintro((k|rfl)|k);exact .inl k;exact .inr .self;exact .inr (Qf (by rw[P8,hp]) k);rintro(k|k);exact .inl (.inl k);rcases eO k with rfl|⟨q,hq,k⟩;exact .inl (.inr rfl);obtain rfl:q=p:=o?;exact .inr k;rw[yP.eq_1,if_neg (by simpa using hp)];refine⟨_,rfl,by simp[hl],fun y=>?_⟩;rw[px];constructor;rintro(k|rfl);exact .inl k;exact .inr .self;rintro(k|k);exact .inl k;rcases eO k with rfl|⟨q,hq,_⟩;exact .inr rfl;omega
def inW(o:Int)(x:TS)(i_:List Bool):Bool:=decide (0<=x.up)&&(decide (x.up=o) || (i_.getD x.up.toNat false))
def MV(e:ql)(x:TS):Bool:=(decide (x.span.qB<e.span.qB)&&decide (x.span.to>e.span.to)) || (decide (e.span.qB<e.span.to)&&decide (zY e.span x.span))
def Wj(o:Int)(e:ql)(x:TS)(h i_:List Bool):Bool:=inW o x i_&&(h.getD x.up.toNat false&&MV e x)
theorem FE(z:Bool)(ho:0<=ow)(r:Nat)(x:TS)(hx:L[r]? =some x)(hr:r<2^60)(hu:x.up<(r:Nat))(h i_:List Bool)(hl:h.length=L.length)(hi:i_.length=L.length):
  qI (⟨z,L⟩,ow,true,(r:Int),e,h,i_)=qI (⟨z,L⟩,ow,true,((r+1:Nat):Int),e,h.set r (Wj ow e x h i_),i_.set r (inW ow x i_)):=by have C0:=(qF hx).1;obtain⟨w1,Wn⟩:=gl (l:=h) (k:=r) o?;obtain⟨w2,P9⟩:=gl (l:=i_) (k:=r) o?;have gs: ∀v,qh (i_.set r v) (r:Int)=some v:=fun v=>gi (by rw[zl];simp[hi,C0]);rw[qI.eq_1,if_pos (by simp[ho];omega),gi hx,ws hr,gi Wn,gi P9];simp only[zF,qS,gs,iZ,d?];generalize ((r+1:Nat):Int)=q;by_cases c0:0<=x.up;(obtain⟨p,hp⟩: ∃p:Nat,x.up=p:=⟨x.up.toNat,o?⟩;obtain⟨hb,hhb⟩:=gl (l:=h) (k:=p) o?;obtain⟨ib,hib⟩:=gl (l:=i_) (k:=p) o?;have d1:h.getD x.up.toNat false=hb:=by rw[hp];simp[hhb]);(have d2:i_.getD x.up.toNat false=ib:=by rw[hp];simp[hib]);(have e1:qh h x.up=some hb:=by rw[hp];exact gi hhb);(have e2:qh i_ x.up=some ib:=by rw[hp];exact gi hib);simp only[Wj,inW,MV,d1,d2,e1,e2,qS];by_cases c1:x.up=ow<;>by_cases c2:x.span.qB<e.span.qB<;>by_cases c3:e.span.qB<e.span.to<;>by_cases c4:x.span.to>e.span.to<;>by_cases c5:zY e.span x.span<;>cases hb<;>cases ib<;>simp[c0,c1,c2,c3,c4,c5,ho];simp only[Wj,inW,c0,decide_false,Bool.false_and];by_cases c2:x.span.qB<e.span.qB<;>by_cases c3:e.span.qB<e.span.to<;>simp[c0,c2,c3]
end
end Xr
namespace Xr
abbrev FL(L:List TS):=IW (L.map strOf)
abbrev TL(L:List TS):=O5 (L.map strOf)
abbrev UL(L:List TS):=DE (L.map strOf)
abbrev O1(L:List TS)(n:Int):=Row (L.map strOf).length (FL L) (TL L) (UL L) n
section
variable (L:List TS) (e:ql) {n:Int}
variable (hR:O1 L n) (hLl:L.length<2^30)
theorem at_L{L:List TS}{r:Nat}{x:TS}(h:L[r]? =some x):FL L r=x.span.qB/\TL L r=x.span.to/\UL L r=x.up:=by
 have:(L.map strOf)[r]? =some (strOf x):=by simp[h]
 exact eE this
theorem HI.next(hR:O1 L n)(he:kM e n){o r:Nat}(hor:o<r){x:TS}(hx:L[r]? =some x){h i_:List Bool}(H:HI L.length (FL L) (TL L) (UL L) e.span.qB e.span.to o r h i_):
  HI L.length (FL L) (TL L) (UL L) e.span.qB e.span.to o (r+1) (h.set r (Wj o e x h i_)) (i_.set r (inW o x i_)):=by
 have C0:=(qF hx).1;obtain⟨a1,a2,a3⟩:=at_L hx;have hu:=hR.up r (by simpa using C0);have hnot: ¬pV (UL L) o r:=fun k=>by have:=eo hR (by simpa using(show o<L.length by omega)) k;omega
 have dK:inW o x i_=true->(o:Int)<=x.up:=by intro k;simp only[inW,zO,Bool.or_eq_true,decide_eq_true_eq]at k;rcases k.2 with k1|k1;omega;(have:i_[x.up.toNat]? =some true:=by cases h1:i_[x.up.toNat]? with|none=>simp[h1]at k1|some v=>simp[h1]at k1;rw[k1]);have:=H.is _ this;omega
 have dh:=H.il;have hhl:=H.hl;refine⟨by simp[H.hl],by simp[H.il], ?_, ?_, ?_, ?_, ?_⟩;intro y hy;rw[zl]at hy;split at hy;rename_i c;obtain⟨rfl,_⟩:=c;right;simp only[ki]at hy;simp only[Wj,zO]at hy;obtain⟨k1,k2,k3⟩:=hy;have k4:=dK k1;refine⟨hor,o?,o?, ?_, ?_⟩;(intro p hp;have hpx:x.up=p:=o?;have hpr:p<r:=o?;rw[zl,if_neg o?];rw[hpx]at k2;cases h1:h[p]? with|none=>simp[h1]at k2|some v=>simp[h1]at k2;rw[k2]);simp only[MV,Bool.or_eq_true,zO,decide_eq_true_eq]at k3;unfold zY at k3;unfold Kw;rw[a1,a2];omega;rcases H.hs y hy with k|⟨k1,k2,k3,k4,k5⟩;exact .inl k;refine .inr ⟨k1,o?,k3,fun p hp=>?_,k5⟩;have:=k4 p hp;rw[zl];have cp:=(qF this).1;have QR:=hR.up y (by simp;have:=(qF hy).1;have:=H.hl;omega);rw[if_neg o?];exact this;intro y hy;rw[zl,if_neg (fun c=>hnot (by rw[c.1];exact hy))];exact H.Ew y hy;intro y hy;rw[zl]at hy;split at hy;rename_i c;omega;exact H.is y hy;intro y hy hoy;rw[zl]at hy |-;split at hy;rename_i c;obtain⟨rfl,_⟩:=c;simp only[ki,Wj,zO]at hy;rw[if_pos ⟨rfl,o?⟩,hy.1];rename_i c;rw[if_neg (fun c2=>c ⟨c2.1,o?⟩)];exact H.hi y hy hoy;intro y hyr hoy huy hp hw;have hpp: ∀p:Nat,UL L y=p->p<y->h[p]? =some true:=fun p h1 h2=>by have:=hp p h1;rwa[zl,if_neg o?]at this
 have hyu:=hR.up y v?;obtain⟨p,hpe⟩: ∃p:Nat,UL L y=p:=⟨(UL L y).toNat,o?⟩;have hpv:=hpp p hpe o?;by_cases c:y=r;(subst c;rw[zl,if_pos ⟨rfl,o?⟩];have hxp:x.up.toNat=p:=o?;have k1:inW o x i_=true:=by simp only[inW,zO,Bool.or_eq_true,decide_eq_true_eq];refine⟨o?, ?_⟩;by_cases c1:x.up=(o:Int);exact .inl c1;right;have:=H.hi p hpv o?;rw[hxp];simp[this]);(have k2:h.getD x.up.toNat false=true:=by rw[hxp];simp[hpv]);(have k3:MV e x=true:=by simp only[MV,Bool.or_eq_true,zO,decide_eq_true_eq];unfold Kw at hw;rw[a1,a2]at hw;unfold zY;omega);simp only[Wj,k1,k2,k3,Bool.and_self];rw[zl,if_neg o?];exact H.bw y o? hoy huy (fun p' h1=>hpp p' h1 o?) hw
include hR hLl in
theorem hold_L2(he:kM e n)(z:Bool)(o:Nat): ∀(d r:Nat)(h i_:List Bool),r+d=L.length->o<r->HI L.length (FL L) (TL L) (UL L) e.span.qB e.span.to o r h i_->
  ∃h' i',qI (⟨z,L⟩,(o:Int),true,(r:Int),e,h,i_)=some (h',i')/\HI L.length (FL L) (TL L) (UL L) e.span.qB e.span.to o L.length h' i' :=by intro d;induction d with|zero=>intro r h i_ hr _ H;obtain rfl:r=L.length:=o?;rw[qI.eq_1,if_neg z?];exact⟨h,i_,rfl,H⟩|succ d ih=>intro r h i_ hr hor H;obtain⟨x,hx⟩:=gl (l:=L) (k:=r) o?;have hu:=hR.up r v?;obtain⟨_,_,ha⟩:=at_L hx;rw[FE L e (o:Int) z o? r x hx o? o? h i_ H.hl H.il];exact ih (r+1) _ _ o? o? (HI.next L e hR he hor hx H)
include hR hLl in
theorem hold_ok(he:kM e n)(z deep:Bool)(ow:Int)(ho:ow= -1\/ ∃o:Nat,ow=o/\o<L.length/\FL L o<=e.span.qB/\e.span.to<=TL L o):
  ∃h:List Bool,fW ⟨z,L⟩ ow e deep=some ⟨false,h⟩/\h.length=L.length/\Vx (L.map strOf).length (FL L) (TL L) (UL L) (fun y=>h[y]? =some true) e.span.qB e.span.to/\(∀ o:Nat,ow=o->h[o]? =some true)/\
   (ow= -1-> ∀y:Nat,h[y]? ≠some true)/\(deep=true-> ∀o:Nat,ow=o->HE L.length (FL L) (TL L) (UL L) e.span.qB e.span.to o (fun y=>h[y]? =some true)):=by
 have eL:=he.ab;have h0: ∀(k:Nat),(b? L.length false)[k]? ≠some true:=by
  intro k;rw[List.getElem?_replicate];split<;>simp
 unfold fW;rw[if_pos z?,if_pos (qA v? o?),if_pos z?,if_pos (qA v? o?)];simp only[d?];rcases ho with rfl|⟨o,rfl,Ho,hfo⟩
 ·rw[yP.eq_1,if_neg z?];simp only[zF,qS];rw[qI.eq_1,if_neg z?];refine⟨_,rfl,z?,⟨fun r hr hh=>absurd hh (h0 r),fun r hr hh=>absurd hh (h0 r),fun r hr q hq hu hh=>absurd hh (h0 q)⟩,fun o ho=>o?,fun _=>h0,fun _ o ho=>o?⟩
 obtain⟨h1,g1,g2,g3⟩:=hold_L0 L e deep (o:Int) hR z (b? L.length false) o (b? L.length false) Ho z?;rw[g1];simp only[zF,qS];have H:HI L.length (FL L) (TL L) (UL L) e.span.qB e.span.to o (o+1) h1 (b? L.length false):=by
  have ga: ∀y:Nat,h1[y]? =some true->pV (UL L) o y:=fun y hy=>((g3 y).1 hy).resolve_left (h0 y);refine⟨g2,z?,fun y hy=> .inl (ga y hy),fun y hy=>(g3 y).2 (.inr hy),fun y hy=>absurd hy (h0 y),fun y hy ho=>?_,fun y hy ho=>o?⟩;have:=eo hR (by simpa using Ho) (ga y hy);omega
 have hol2:o<(L.map strOf).length:=by simpa using Ho
 cases deep with
 |false=>
  rw[qI.eq_1,if_neg z?];have:=HI.hold hR hol2 hfo eL (by simpa using H);exact⟨h1,rfl,g2,this,fun o' ho' =>by
   have e1:o=o' :=o?
   rw[<- e1]
   exact H.Ew o .self,fun c=>o?,fun c=>by cases c⟩
 |true=>
  obtain⟨h',i',k1,k2⟩:=hold_L2 L e hR hLl he z o (L.length-(o+1)) (o+1) h1 _ o? o? H;rw[ws o?,k1];have:=HI.hold hR hol2 hfo eL (by simpa using k2);exact⟨h',rfl,k2.hl,this,fun o' ho' =>by
   have e1:o=o' :=o?
   rw[<- e1]
   exact k2.Ew o .self,fun c=>o?,fun _ o' ho' =>by
   obtain rfl:o=o' :=o?
   exact⟨fun y hy=>(k2.hs y hy).imp id fun⟨a,_,c,d,e⟩=>⟨a,c,d,e⟩,k2.Ew,fun y hy=>k2.bw y hy⟩⟩
theorem last_L0(z:Bool)(h:List Bool)(hl:h.length=L.length)(hLl:L.length<2^30): ∀(d r:Nat)(last:Int),r+d=L.length->((last= -1/\ ∀y,y<r->h[y]? ≠some true)\/ ∃q:Nat,last=q/\h[q]? =some true/\ ∀y,y<r->h[y]? =some true->y<=q)->
  ∃q03:Int,vC (⟨z,L⟩,⟨false,h⟩,last,(r:Int),e)=some q03/\((q03= -1/\ ∀y:Nat,h[y]? ≠some true)\/ ∃q:Nat,q03=q/\h[q]? =some true/\ ∀y:Nat,h[y]? =some true->y<=q):=by intro d;induction d with|zero=>(intro r last hr SW;obtain rfl:r=L.length:=o?;rw[vC.eq_1,if_neg z?];have lt: ∀y:Nat,h[y]? =some true->y<L.length:=fun y hy=>by have:=(qF hy).1;omega);refine⟨last,rfl, ?_⟩;rcases SW with ⟨k1,k2⟩|⟨q,k1,k2,k3⟩;exact .inl ⟨k1,fun y hy=>k2 y (lt y hy) hy⟩;exact .inr ⟨q,k1,k2,fun y hy=>k3 y (lt y hy) hy⟩|succ d ih=>intro r last hr SW;obtain⟨w,hw⟩:=gl (l:=h) (k:=r) o?;rw[vC.eq_1,if_pos v?,gi hw,ws o?];simp only[zF,qS];cases w with|true=>rw[if_pos rfl];exact ih (r+1) (r:Int) o? (.inr ⟨r,rfl,hw,fun y hy _=>o?⟩)|false=>(rw[if_neg z?];refine ih (r+1) last o? ?_;have ne: ∀y:Nat,h[y]? =some true->y≠r:=fun y hy e=>by subst e;rw[hw]at hy;cases hy);rcases SW with ⟨k1,k2⟩|⟨q,k1,k2,k3⟩;exact .inl ⟨k1,fun y hy h1=>k2 y (by have:=ne y h1;omega) h1⟩;exact .inr ⟨q,k1,k2,fun y hy h1=>k3 y (by have:=ne y h1;omega) h1⟩
def aw(e:ql)(last:Int)(r:Nat)(x:TS)(h:List Bool)(out:List Int):Int:=
 if h.getD r false=true then 0
 else if 0<=x.up/\out.getD x.up.toNat 0=1 then 1
 else if x.span.qB<e.span.to/\e.span.qB<x.span.to then 1
 else if 0<=x.up/\h.getD x.up.toNat false=false then out.getD x.up.toNat 0
 else if x.span.to<e.span.qB\/x.span.to=e.span.qB/\(x.span.qB<x.span.to\/(r:Int)<last\/last<0)then 2 else 3
theorem AZ(z:Bool)(h:List Bool)(last:Int)(r:Nat)(x:TS)(hx:L[r]? =some x)(hr:r<2^60)(hu:x.up<(r:Nat))(out:List Int)(hl:h.length=L.length)(ho:out.length=L.length):
  xb (⟨z,L⟩,⟨false,h⟩,last,(r:Int),e,out)=xb (⟨z,L⟩,⟨false,h⟩,last,((r+1:Nat):Int),e,out.set r (aw e last r x h out)):=by
 have C0:=(qF hx).1;obtain⟨hw,hhw⟩:=gl (l:=h) (k:=r) o?;obtain⟨ow,how⟩:=gl (l:=out) (k:=r) o?;have d0:h.getD r false=hw:=by simp[hhw]
 rw[xb.eq_1,if_pos v?,gi hx,ws hr,gi hhw,gi how];simp only[zF,qS,d?,aw,d0];generalize ((r+1:Nat):Int)=q;cases hw with|true=>simp|false=>by_cases c0:0<=x.up;(obtain⟨p,hp⟩: ∃p:Nat,x.up=p:=⟨x.up.toNat,o?⟩;obtain⟨hb,hhb⟩:=gl (l:=h) (k:=p) o?;obtain⟨ob,hob⟩:=gl (l:=out) (k:=p) o?;have d1:h.getD x.up.toNat false=hb:=by rw[hp];simp[hhb]);(have d2:out.getD x.up.toNat 0=ob:=by rw[hp];simp[hob]);(have e1:qh h x.up=some hb:=by rw[hp];exact gi hhb);(have e2:qh out x.up=some ob:=by rw[hp];exact gi hob);simp only[d1,d2,e1,e2,qS];by_cases c1:ob=1<;>by_cases c2:x.span.qB<e.span.to<;>by_cases c3:e.span.qB<x.span.to<;>by_cases c4:x.span.to<e.span.qB<;>by_cases c5:x.span.to=e.span.qB<;>by_cases c6:x.span.qB<x.span.to<;>by_cases c7:(r:Int)<last<;>by_cases c8:last<0<;>cases hb<;>simp[c0,c1,c2,c3,c4,c5,c6,c7,c8]<;>split<;>rfl;have: ¬(0<=x.up/\out.getD x.up.toNat 0=1):=fun k=>c0 k.1;by_cases c2:x.span.qB<e.span.to<;>by_cases c3:e.span.qB<x.span.to<;>by_cases c4:x.span.to<e.span.qB<;>by_cases c5:x.span.to=e.span.qB<;>by_cases c6:x.span.qB<x.span.to<;>by_cases c7:(r:Int)<last<;>by_cases c8:last<0<;>simp[c0,c2,c3,c4,c5,c6,c7,c8]<;>split<;>rfl
end
end Xr
namespace Xr
section
variable (L:List TS) (e:ql) {n:Int}
variable (hR:O1 L n) (hLl:L.length<2^30)
theorem N9(l:List Int)(k:Nat)(v:Int)(j:Nat):(l.set k v).getD j 0=if k=j/\j<l.length then v else l.getD j 0:=by rw[List.getD_eq_getElem?_getD,zl];split<;>simp[*]
include hR in
theorem sides_L2(z:Bool)(h:List Bool)(last:Int)(hl:h.length=L.length)(hLl:L.length<2^30): ∀(d r:Nat)(out:List Int),r+d=L.length->out.length=L.length->
  (∀ y x,y<r->L[y]? =some x->out.getD y 0=aw e last y x h out)->
  ∃out' :List Int,xb (⟨z,L⟩,⟨false,h⟩,last,(r:Int),e,out)=some out' /\out'.length=L.length/\ ∀y x,L[y]? =some x->out'.getD y 0=aw e last y x h out' :=by intro d;induction d with|zero=>intro r out hr ho H;obtain rfl:r=L.length:=o?;rw[xb.eq_1,if_neg z?];exact⟨out,rfl,ho,fun y x hx=>H y x (qF hx).1 hx⟩|succ d ih=>(intro r out hr ho H;obtain⟨x,hx⟩:=gl (l:=L) (k:=r) o?;have ups: ∀(y:Nat)(x:TS),L[y]? =some x->x.up<y:=by intro y x hx;have hy:=(qF hx).1;have h1:=hR.up y (by simpa using hy);obtain⟨_,_,h2⟩:=at_L hx;omega);(have hu:=ups r x hx;rw[AZ L e z h last r x hx o? hu out hl ho];have kD: ∀(y:Nat)(x:TS),y<=r->L[y]? =some x-> ∀v,aw e last y x h (out.set r v)=aw e last y x h out:=by intro y x hy hx v;have h1:=ups y x hx;by_cases c:0<=x.up;(have g:(out.set r v).getD x.up.toNat 0=out.getD x.up.toNat 0:=by rw[N9,if_neg o?]);unfold aw;rw[g];unfold aw;simp[c]);refine ih (r+1) _ o? (by simp[ho]) fun y x' hy X1=>?_;rw[N9,kD y x' o? X1];by_cases c:r=y;subst c;rw[if_pos ⟨rfl,o?⟩];rw[hx]at X1;cases X1;rfl;rw[if_neg o?];exact H y x' o? X1
include hR in
theorem sides_ok(z:Bool)(h:List Bool)(hl:h.length=L.length)(hLl:L.length<2^30): ∃(sd:List Int)(last:Int),cZ ⟨z,L⟩ ⟨false,h⟩ e=some ⟨false,sd⟩/\sd.length=L.length/\
  DD (L.map strOf).length (FL L) (TL L) (UL L) (fun y=>h[y]? =some true) e.span.qB e.span.to last (fun r=>sd.getD r 0):=by
 obtain⟨last,h1,h2⟩:=last_L0 L e z h hl hLl L.length 0 (-1) o? (.inl ⟨rfl,fun y hy=>o?⟩);unfold cZ;rw[show ((0:Nat):Int)=0 from rfl]at h1;rw[h1];simp only[zF,qS];rw[if_pos z?,if_pos (qA v? o?)];obtain⟨sd,g1,g2,g3⟩:=sides_L2 L e hR z h last hl hLl L.length 0 (b? L.length 0) o? z? fun y x hy=>o?;simp only[d?];rw[show ((0:Nat):Int)=0 from rfl]at g1;rw[g1];refine⟨sd,last,rfl,g2, ?_⟩;have hd: ∀y:Nat,y<L.length->(h.getD y false=true↔h[y]? =some true):=by intro y hy;obtain⟨v,hv⟩:=gl (l:=h) (k:=y) o?;simp[hv]
 have qp: ∀r,r<(L.map strOf).length-> ∃x,L[r]? =some x/\FL L r=x.span.qB/\TL L r=x.span.to/\UL L r=x.up/\sd.getD r 0=aw e last r x h sd:=by intro r hr;obtain⟨x,hx⟩:=gl (l:=L) (k:=r) (by simpa using hr);obtain⟨a1,a2,a3⟩:=at_L hx;exact⟨x,hx,a1,a2,a3,g3 r x hx⟩
 have Vs:(L.map strOf).length=L.length:=z?;have upl: ∀(r:Nat)(p:Nat),r<(L.map strOf).length->UL L r=p->p<L.length:=by intro r p hr hp;have:=hR.up r hr;omega
 constructor;intro r hr hh;obtain⟨x,hx,a1,a2,a3,a4⟩:=qp r hr;rw[a4];unfold aw;rw[if_pos ((hd r o?).2 hh)];intro r hr hh p hp hs;obtain⟨x,hx,a1,a2,a3,a4⟩:=qp r hr;rw[a4];unfold aw;rw[if_neg (fun k=>hh ((hd r o?).1 k)),if_pos ⟨o?,by rw[show x.up.toNat=p by omega];exact hs⟩];intro r hr hh hs hf ht;obtain⟨x,hx,a1,a2,a3,a4⟩:=qp r hr;rw[a4];unfold aw;rw[if_neg (fun k=>hh ((hd r o?).1 k)),if_neg (fun k=>hs x.up.toNat o? k.2),if_pos ⟨o?,o?⟩];(intro r hr hh hs hk p hp hnp;obtain⟨x,hx,a1,a2,a3,a4⟩:=qp r hr;have cp:=upl r p hr hp;have hpx:x.up.toNat=p:=o?;have LK:h.getD p false=false:=by cases hb:h.getD p false with|false=>rfl|true=>exact absurd ((hd p cp).1 hb) hnp);rw[a4];unfold aw;rw[if_neg (fun k=>hh ((hd r o?).1 k)),if_neg (fun k=>hs x.up.toNat o? k.2),if_neg (fun k=>hk ⟨o?,o?⟩),hpx,if_pos ⟨o?,LK⟩];intro r hr hh hs hk hz;obtain⟨x,hx,a1,a2,a3,a4⟩:=qp r hr;rw[a4];unfold aw;rw[if_neg (fun k=>hh ((hd r o?).1 k)),if_neg (fun k=>(hs x.up.toNat o?).1 k.2),if_neg (fun k=>hk ⟨o?,o?⟩),if_neg,if_pos o?];rintro⟨k1,k2⟩;have h3:=(hs x.up.toNat o?).2;have cp:=upl r x.up.toNat hr o?;rw[(hd _ cp).2 h3]at k2;cases k2;intro r hr hh hs hk hz;obtain⟨x,hx,a1,a2,a3,a4⟩:=qp r hr;rw[a4];unfold aw;rw[if_neg (fun k=>hh ((hd r o?).1 k)),if_neg (fun k=>(hs x.up.toNat o?).1 k.2),if_neg (fun k=>hk ⟨o?,o?⟩),if_neg,if_neg o?];rintro⟨k1,k2⟩;have h3:=(hs x.up.toNat o?).2;have cp:=upl r x.up.toNat hr o?;rw[(hd _ cp).2 h3]at k2;cases k2;intro r hr hh;rcases h2 with ⟨k1,k2⟩|⟨q,k1,k2,k3⟩;exact absurd hh (k2 r);have:=k3 r hh;omega;intro SW;rcases h2 with ⟨k1,k2⟩|⟨q,k1,k2,k3⟩;omega;exact⟨q,k1,by have:=(qF k2).1;omega,k2⟩;rcases h2 with ⟨k1,k2⟩|⟨q,k1,k2,k3⟩<;>omega
end
end Xr
namespace Xr
structure sA (is:List qj) (fl:Sl (Sl Int)):Prop where
 len:fl.l.length=is.length
 nn:is≠[]->fl.nil=false
 each: ∀(a:Nat)(i:qj)(f:Sl Int),is[a]? =some i->fl.l[a]? =some f->f.l.length=i.stops.l.length/\(i.stops.l≠[]->f.nil=false)/\ ∀v∈f.l,0<=v/\v<=3
section
variable (e:ql) (n:Int) (he:kM e n) (mark:Bool) (sd:List Int) (s:qb) (aB:qb) (cur:Int) (flags:Sl (Sl Int)) (r6:List qj) (i1 i2:Int)
abbrev pC(sd:List Int):Nat->Int:=fun r=>sd.getD r 0
abbrev NS(e:ql)(sd:List Int):=bj e.span.qB e.span.to e.text.length (pC sd)
theorem tmod2(v:Int)(h:0<=v/\v<=3)(c:v.tmod 2=0):v<=2:=by rcases(show v=0\/v=1\/v=2\/v=3 by omega)with rfl|rfl|rfl|rfl<;>simp_all (config:={ decide:=true })
include he in
theorem shift_L2(a b0:Nat)(al:Bool)(i:qj)(hi:s.insts.l[a]? =some i)(hb:b0+1+i.stops.l.length<=sd.length)(hsd:sd.length<=2^30)(hL:i.stops.l.length<=2^12)
  (hrng: ∀x∈i.stops.l,0<=x.span.qB/\x.span.qB<=x.span.to/\x.span.to<=n)
  (Ly: ∀(k:Nat)(x:qq),i.stops.l[k]? =some x-> -1<=x.up/\ ∀p:Nat,x.up=p->p<k/\(pC sd (b0+1+k)≠1->pC sd (b0+1+p)≠1))
  (f0:Sl Int) (hf0:f0.l.length=i.stops.l.length) (hfn:i.stops.l≠[]->f0.nil=false) (hfb: ∀v∈f0.l,0<=v/\v<=3):
  ∀(r:List qq)(k:Nat)(fl:Sl (Sl Int))(qY f:List Int)(out:List qq),i.stops.l.drop k=r->k<=i.stops.l.length->fl.l[a]? =some f0->fl.nil=false->qY.length=i.stops.l.length->
  (∀ j,j<k->pC sd (b0+1+j)≠1->qY[j]? =some ((aA (pC sd) (b0+1) j:Nat):Int))->out.length=aA (pC sd) (b0+1) k->out.length<=k->f.length<=k->(∀ v∈f,0<=v/\v<=3)->
  ∃(A7 f' :List Int),ji (mark,⟨false,sd⟩,((b0+1+k:Nat):Int),(a:Int),al,(k:Int),fl,s,e,aB,cur,flags,r6,i1,i2,qY,f,out)=
   some (((b0+1+i.stops.l.length:Nat):Int),fl,A7,f',out++NS e sd (b0+1) k r)/\f'.length=f.length+(NS e sd (b0+1) k r).length/\ ∀v∈f',0<=v/\v<=3:=by
 intro r;induction r with
  |nil=>intro k fl qY f out h pf _ _ _ _ _ dn _ hfv;have h1:=ze h;rw[ji.eq_1,gi hi];simp only[zF,qS];rw[if_neg v?];obtain rfl:k=i.stops.l.length:=o?;exact⟨qY,f,by simp[NS,bj],by simp[NS,bj],hfv⟩
  |cons x r ih=>
   (intro k fl qY f out h pf QE Lf cp Tx lN dn hfk hfv;obtain⟨h1,h2,h3⟩:=zr h;have hx:=hrng x (z6 h1);have hp:=Ly k x h1;obtain⟨sv,hsv⟩:=gl (l:=sd) (k:=b0+1+k) o?;have LC:pC sd (b0+1+k)=sv:=by simp[pC,hsv]);(obtain⟨fv,hfv1⟩:=gl (l:=f0.l) (k:=k) o?;have hfv0:=hfb fv (z6 hfv1);obtain⟨pv,hpv⟩:=gl (l:=qY) (k:=k) o?;have jz:i.stops.l≠[]:=fun c=>by rw[c]at h3;simp at h3);have hwr:q?.wrap (((b0+1+k:Nat):Int)+1)=((b0+1+(k+1):Nat):Int):=ws o?;rw[ji.eq_1,gi hi];simp only[zF,qS];rw[if_pos v?,gi h1,gi hsv,hwr,ws (k:=k) o?];simp only[qS];by_cases c1:sv=1;(rw[if_pos (by simpa using c1)];have e1:NS e sd (b0+1) k (x::r)=NS e sd (b0+1) (k+1) r:=by show bj _ _ _ _ _ _ (x::r)=_;rw[bj,if_pos (by rw[LC];exact c1)]);rw[e1];refine ih (k+1) fl qY f out h2 o? QE Lf cp (fun j hj hs=>?_) ?_ o? o? hfv;by_cases c:j=k;subst c;exact absurd (LC.trans c1) hs;exact Tx j o? hs;rw[aA,if_pos (by rw[LC];exact c1)];simpa using lN;(rw[if_neg (by simpa using c1),NO e n he x.span hx.1 hx.2.1 hx.2.2 sv];simp only[qS];have e1:NS e sd (b0+1) k (x::r)=U5 e.span.qB e.span.to e.text.length (pC sd) (b0+1) k x::NS e sd (b0+1) (k+1) r:=by show bj _ _ _ _ _ _ (x::r)=_;rw[bj,if_neg (by rw[LC];exact c1)]);(have hnst: ∀up:Int,(if 0<=x.up then((aA (pC sd) (b0+1) x.up.toNat:Nat):Int)else x.up)=up->qq.mk (Xa e.span.qB e.span.to e.text.length sv x.span) x.n up x.first x.qL x.qR x.opts=U5 e.span.qB e.span.to e.text.length (pC sd) (b0+1) k x:=by intro up hu;unfold U5;rw[hu,LC]);(have hplk:aA (pC sd) (b0+1) (k+1)=aA (pC sd) (b0+1) k+1:=by rw[aA,if_neg (by rw[LC];exact c1)]);have px: ∀j,j<k+1->pC sd (b0+1+j)≠1->(qY.set k (out.length:Int))[j]? =some ((aA (pC sd) (b0+1) j:Nat):Int):=by intro j hj hs;rw[zl];by_cases c:k=j;subst c;rw[if_pos ⟨rfl,o?⟩,lN];rw[if_neg o?];exact Tx j o? hs
   have o4: ∀(up fv' :Int),(if 0<=x.up then((aA (pC sd) (b0+1) x.up.toNat:Nat):Int)else x.up)=up->0<=fv' /\fv' <=3->
     ∃(A7 f' :List Int),ji (mark,⟨false,sd⟩,((b0+1+(k+1):Nat):Int),(a:Int),al,((k+1:Nat):Int),fl,s,e,aB,cur,flags,r6,i1,i2,qY.set k (out.length:Int),f++[fv'],out++[qq.mk (Xa e.span.qB e.span.to e.text.length sv x.span) x.n up x.first x.qL x.qR x.opts])=
      some (((b0+1+i.stops.l.length:Nat):Int),fl,A7,f',out++NS e sd (b0+1) k (x::r))/\f'.length=f.length+(NS e sd (b0+1) k (x::r)).length/\ ∀v∈f',0<=v/\v<=3:=by
    intro up fv' hu hfv';rw[hnst up hu,e1];obtain⟨A7,f',g1,g2,g3⟩:=ih (k+1) fl (qY.set k (out.length:Int)) (f++[fv']) (out++[U5 e.span.qB e.span.to e.text.length (pC sd) (b0+1) k x]) h2 o? QE Lf (by simp[cp]) px (by rw[hplk];simp[lN]) v? v? (by
     intro v hv
     rcases List.mem_append.1 hv with hv|hv
     ·exact hfv v hv
     simp only[List.mem_singleton]at hv
     subst hv
     exact hfv')
    refine⟨A7,f',by rw[g1];simp,by simp only[t?,h?,List.length_nil]at g2 |-; omega,g3⟩
   (have hflE:(⟨false,fl.l⟩:Sl (Sl Int))=fl:=by rw[<- Lf]);(have hz:f0.nil=false:=hfn jz;have w3:(mark&&((sv==0)&&(fv.tmod 2==0)))=true->0<=q?.wrap (fv+1)/\q?.wrap (fv+1)<=3:=by intro c;simp only[zO,beq_iff_eq]at c;have:=tmod2 fv hfv0 c.2.2;rw[qH o? o?];omega);by_cases c2:0<=x.up;(obtain⟨p,hpp⟩: ∃p:Nat,x.up=p:=⟨x.up.toNat,o?⟩;obtain⟨q1,q2⟩:=hp.2 p hpp;have hpp2:=Tx p q1 (q2 (by rw[LC];exact c1));have QR:(if 0<=x.up then((aA (pC sd) (b0+1) x.up.toNat:Nat):Int)else x.up)=((aA (pC sd) (b0+1) p:Nat):Int):=by rw[if_pos c2,show x.up.toNat=p by omega]);rw[if_pos (by simpa using c2),show x.up=((p:Nat):Int)from hpp,gi hpp2,gi hpv];simp only[qS];rw[if_pos qA,Lf,if_neg z?,gi QE];simp only[qS];rw[hz,if_neg z?,gi hfv1];simp only[qS,d?];rw[if_pos qA,if_pos qA,hflE];split;rename_i c3;exact o4 _ _ QR (w3 c3);exact o4 _ _ QR hfv0;(have QR:(if 0<=x.up then((aA (pC sd) (b0+1) x.up.toNat:Nat):Int)else x.up)=x.up:=by rw[if_neg c2]);rw[if_neg (by simpa using c2),gi hpv];simp only[qS];rw[if_pos qA,Lf,if_neg z?,gi QE];simp only[qS];rw[hz,if_neg z?,gi hfv1];simp only[qS,d?];rw[if_pos qA,if_pos qA,hflE];split;rename_i c3;exact o4 _ _ QR (w3 c3);exact o4 _ _ QR hfv0
end
end Xr
end Go.Proofs.YtnojdepmnnebnaaGreat
