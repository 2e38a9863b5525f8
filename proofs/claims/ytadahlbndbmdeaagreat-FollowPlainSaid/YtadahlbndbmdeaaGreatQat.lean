/-
  A session behind an edit: all that is kept.
-/
import Derived.Test.YtadahlbndbmdeaaGreatQad
import Derived.Test.YtadahlbndbmdeaaGreatQae
open Go.Proofs.YtadahlbndbmdeaaGreat renaming qr->E,qu->C
open Option renaming some->X
open _root_ renaming Nat->Z,Int->Y,List->V,if_neg->R,if_pos->N,Bool->J,absurd->I,Option->D
open And renaming intro->A
open Bool renaming not_eq_true'->b_,false->M,true->K
open Decidable renaming not_not->q2l
open Go.Gm.wq renaming struct->M',int->F'
open Go.IntKind renaming i64->q?,u8->D?
open Int renaming toNat_natCast->X?
open List renaming map->y?,length_cons->b?,length_append->p?,getElem?_append_left->c?,replicate->f?,map_cons->e?,getElem?_cons_zero->i?,getElem?_cons_succ->Q?,getElem?_append_right->J?,length_singleton->u!,sum_cons->g!
open Nat renaming strongRecOn->s?,succ_mul->T?,zero_add->x!,mul_le_mul->w_,lt_trichotomy->n_,le_succ->F_
set_option linter.unusedSimpArgs false
set_option linter.unusedVariables false
set_option maxRecDepth 100000
namespace Go.Proofs.YtadahlbndbmdeaaGreat
open Go Go.Gm
theorem rd_Span(n:Z):wq Tryz.prog 45 qg.enc (λ_=>True) n:=by
 have h:=M' (P:=Tryz.prog) (t:=45) (c:=2) (n:=n) Tryz.underlying45 k? (λ_=>by simp[KK,M3,qg.qU,jf])
  (Q1 (c:=1) rfl k? (Jo (F' (P:=Tryz.prog) (t:=3) Tryz.underlying3 k? n)) (Q1 (c:=1) rfl k? (Jo (F' (P:=Tryz.prog) (t:=3) Tryz.underlying3 k? n)) (fNil n _)))
 exact(h.map (λx=>qg.mk x.1 x.2.1) (λ_ _=>⟨trivial,by simp[KK,M3,qg.qU,jf]⟩)).mono (F_ n)
theorem El(n:Z):wq Tryz.prog 47 qf.enc (λ_=>True) n:=by
 have h:=M' (P:=Tryz.prog) (t:=47) (c:=3) (n:=n) Tryz.underlying47 k? (λ_=>by simp[KK,M3,qf.qU,qg.qU,oC])
  (Q1 (c:=2) rfl k? (rd_Span n) (Q1 (c:=1) rfl k? (Jo (wq.str (P:=Tryz.prog) (t:=9) Tryz.underlying9 k? n)) (fNil n _)))
 exact(h.map (λx=>qf.mk x.1 x.2.1) (λ_ _=>⟨trivial,by simp[KK,M3,qf.qU,qg.qU,oC]⟩)).mono (F_ n)
theorem rd_Sel(n:Z):wq Tryz.prog 78 qm.enc (λ_=>True) n:=by
 have h:=M' (P:=Tryz.prog) (t:=78) (c:=2) (n:=n) Tryz.underlying78 k? (λ_=>by simp[KK,M3,qm.qU,jf])
  (Q1 (c:=1) rfl k? (Jo (F' (P:=Tryz.prog) (t:=3) Tryz.underlying3 k? n)) (Q1 (c:=1) rfl k? (Jo (F' (P:=Tryz.prog) (t:=3) Tryz.underlying3 k? n)) (fNil n _)))
 exact(h.map (λx=>qm.mk x.1 x.2.1) (λ_ _=>⟨trivial,by simp[KK,M3,qm.qU,jf]⟩)).mono (F_ n)
theorem rd_Op(n:Z):wq Tryz.prog 52 pq.enc (λ_=>True) n:=by
 have h:=M' (P:=Tryz.prog) (t:=52) (c:=7) (n:=n) Tryz.underlying52 k? (λ_=>by simp[KK,M3,qf.qU,pq.qU,qm.qU,T8,jf,ro,oC])
  (Q1 (c:=1) rfl k? (Jo (F' (P:=Tryz.prog) (t:=3) Tryz.underlying3 k? n)) (Q1 (c:=1) rfl k? (Jo (wq.str (P:=Tryz.prog) (t:=9) Tryz.underlying9 k? n)) (Q1 (c:=1) rfl k? (Jo (wq.str (P:=Tryz.prog) (t:=9) Tryz.underlying9 k? n)) (Q1 (c:=1) rfl k? (Jo (F' (P:=Tryz.prog) (t:=3) Tryz.underlying3 k? n)) (Q1 (c:=1) rfl k? (Jo (wq.bool (P:=Tryz.prog) (t:=4) Tryz.underlying4 k? n)) (Q1 (c:=1) rfl k? (rdSl (P:=Tryz.prog) (t:=23) (el:=47) (sz:=3) Tryz.underlying23 k? k? o? (El n)) (Q1 (c:=1) rfl k? (rdSl (P:=Tryz.prog) (t:=27) (el:=78) (sz:=2) Tryz.underlying27 k? k? o? (rd_Sel n)) (fNil n _))))))))
 exact(h.map (λx=>pq.mk x.1 x.2.1 x.2.2.1 x.2.2.2.1 x.2.2.2.2.1 x.2.2.2.2.2.1 x.2.2.2.2.2.2.1) (λ_ _=>⟨trivial,by simp[KK,M3,qf.qU,pq.qU,qm.qU,T8,jf,ro,oC]⟩)).mono (F_ n)
theorem rdv22:Z4 Tryz.prog 22 (λx:(Sl pq)=>PV.sl x.nil (xB 7 x.l) (y? pq.enc x.l)) (λ_=>True):=Z4.one Tryz.underlying22 rfl (λn=>(rdSl (P:=Tryz.prog) (t:=22) (el:=52) (sz:=7) Tryz.underlying22 k? k? o? (rd_Op n)))
theorem rdv23:Z4 Tryz.prog 23 (λx:(Sl qf)=>PV.sl x.nil (xB 3 x.l) (y? qf.enc x.l)) (λ_=>True):=Z4.one Tryz.underlying23 rfl (λn=>(rdSl (P:=Tryz.prog) (t:=23) (el:=47) (sz:=3) Tryz.underlying23 k? k? o? (El n)))
end Go.Proofs.YtadahlbndbmdeaaGreat
set_option maxRecDepth 512
namespace Go.Proofs.YtadahlbndbmdeaaGreat
namespace Xr
structure Row (m:Z) (F T U:Z->Y) (n:Y):Prop where
 W2: ∀r,r<m->0<=F r/\F r<=T r/\T r<=n
 up: ∀r,r<m-> -1<=U r/\U r<r
 nest: ∀r,r<m-> ∀p:Z,U r=p->F p<=F r/\T r<=T p
 C3: ∀r,r<m-> ∀q,q<r->U q=U r->T q<=F r
 pre: ∀r,r<m-> ∀q:Z,q<r->U r<q->U r<=U q
structure PB (m:Z) (F T U:Z->Y) (H:Z->Prop) (a b:Y):Prop where
 up: ∀r,r<m->H r-> ∀p:Z,U r=p->H p
 has: ∀r,r<m->H r->F r<=a/\b<=T r
 one: ∀r,r<m-> ∀q,q<r->U q=U r->H q-> ¬H r
structure Side (m:Z) (F T U:Z->Y) (H:Z->Prop) (a b:Y) (last:Y) (s:Z->Y):Prop where
 holds: ∀r,r<m->H r->s r=0
 gone: ∀r,r<m-> ¬H r-> ∀p:Z,U r=p->s p=1->s r=1
 cut: ∀r,r<m-> ¬H r->(∀ p:Z,U r=p->s p≠1)->F r<b->a<T r->s r=1
 VR: ∀r,r<m-> ¬H r->(∀ p:Z,U r=p->s p≠1)-> ¬(F r<b/\a<T r)-> ∀p:Z,U r=p-> ¬H p->s r=s p
 left: ∀r,r<m-> ¬H r->(∀ p:Z,U r=p->s p≠1/\H p)-> ¬(F r<b/\a<T r)->(T r<a\/T r=a/\(F r<T r\/(r:Y)<last\/last<0))->s r=2
 right: ∀r,r<m-> ¬H r->(∀ p:Z,U r=p->s p≠1/\H p)-> ¬(F r<b/\a<T r)-> ¬(T r<a\/T r=a/\(F r<T r\/(r:Y)<last\/last<0))->s r=3
 last1: ∀r,r<m->H r->(r:Y)<=last
 last2:0<=last-> ∃r:Z,last=r/\r<m/\H r
 lastm: -1<=last
def mv(a b c:Y)(right:J)(p:Y):Y:=if p<a then p else if p>b then p+(c-(b-a))else if right then a+c else a
theorem a8{a b c:Y}(fZ:a<=b)(hc:0<=c)(right:J){p q:Y}(h:p<=q):mv a b c right p<=mv a b c right q:=by
 unfold mv;repeat' split
 all_goals omega
section
variable {m:Z} {F T U:Z->Y} {n:Y} {H:Z->Prop} {a b c:Y} {last:Y} {s:Z->Y}
variable (hR:Row m F T U n) (hH:PB m F T U H a b) (hS:Side m F T U H a b last s) (ha:0<=a) (fZ:a<=b) (hb:b<=n) (hc:0<=c)
theorem hold_up(hR:Row m F T U n)(hH:PB m F T U H a b){u:Y}{x:Z}(d:x<m)(hxu:U x=u): ∀q:Z,u<q->q<x->H q-> ∃p:Z,u<p/\p<=q/\H p/\U p=u:=by intro q;induction q using s? with|_ q h=>intro k j f;have h4:=hR.pre x d q j o?;have h5:=hR.up q o?;by_cases e:U q=u;exact⟨q,k,Z.le_refl _,f,e⟩;obtain⟨p,i⟩: ∃p:Z,U q=p:=⟨(U q).toNat,by have:=hR.up x d;omega⟩;obtain⟨g,g1,g2,g3,g4⟩:=h p o? o? o? (hH.up q o? f p i);exact⟨g,g1,o?,g3,g4⟩
theorem D6(hR:Row m F T U n)(hH:PB m F T U H a b){q:Z}(i:H q): ∀x:Z,x<m->H x->q<x-> ∀y:Z,q<y->y<=x->(q:Y)<=U y:=by intro x;induction x using s? with|_ x h=>intro d f g y k h2;have OM:=hR.up x d;by_cases e:(q:Y)<=U x;by_cases l:y=x;subst l;exact e;by_cases e2:U x<y;have:=hR.pre x d y o? e2;omega;obtain⟨p,j⟩: ∃p:Z,U x=p:=⟨(U x).toNat,o?⟩;exact h p o? o? (hH.up x d f p j) o? y k o?;exfalso;obtain⟨p,g1,g2,g3,g4⟩:=hold_up hR hH d rfl q o? g i;exact hH.one x d p o? g4 g3 f
theorem OH(hR:Row m F T U n)(hH:PB m F T U H a b){q r:Z}(hr:r<m)(d:q<r)(hu:U q=U r)(h:H q){x:Z}(g:x<m)(f:H x):x<r:=by by_cases e:x<r;exact e;exfalso;have h1:=D6 hR hH h x g f o? r d o?;have h2:=hR.up q o?;omega
include hR hS in
theorem rV{r:Z}(d:r<m):(H r/\s r=0)\/(¬ H r/\s r=1)\/(¬ H r/\s r=2)\/(¬ H r/\s r=3):=by induction r using s? with|_ r o=>by_cases h:H r;exact .inl ⟨h,hS.holds r d h⟩;right;have hu:=hR.up r d;by_cases f:0<=U r;obtain⟨p,f⟩: ∃p:Z,U r=p:=⟨(U r).toNat,o?⟩;have l: ∀p' :Z,U r=p' ->p' =p:=λp' h=>o?;have i:=o p o? o?;by_cases g:s p=1;exact .inl ⟨h,hS.gone r d h p f g⟩;(have j : ∀p' :Z,U r=p' ->s p' ≠1:=λp' e=>by rw[l p' e];exact g);by_cases k:F r<b/\a<T r;exact .inl ⟨h,hS.cut r d h j k.1 k.2⟩;by_cases w:H p;(have g2: ∀p' :Z,U r=p' ->s p' ≠1/\H p' :=λp' e=>by rw[l p' e];exact⟨g,w⟩);by_cases z:T r<a\/T r=a/\(F r<T r\/(r:Y)<last\/last<0);exact .inr (.inl ⟨h,hS.left r d h g2 k z⟩);exact .inr (.inr ⟨h,hS.right r d h g2 k z⟩);have e:=hS.VR r d h j k p f w;rcases i with ⟨x,_⟩|⟨_,x⟩|⟨_,x⟩|⟨_,x⟩;exact I x w;exact I x g;exact .inr (.inl ⟨h,e.trans x⟩);exact .inr (.inr ⟨h,e.trans x⟩);have g2: ∀p' :Z,U r=p' ->s p' ≠1/\H p' :=λp' e=>o?;by_cases k:F r<b/\a<T r;exact .inl ⟨h,hS.cut r d h (λp' e=>(g2 p' e).1) k.1 k.2⟩;by_cases z:T r<a\/T r=a/\(F r<T r\/(r:Y)<last\/last<0);exact .inr (.inl ⟨h,hS.left r d h g2 k z⟩);exact .inr (.inr ⟨h,hS.right r d h g2 k z⟩)
include hR hH hS in
theorem ie{r:Z}(d:r<m)(h:s r≠1){p:Z}(e:U r=p):s p≠1:=by intro g;by_cases k:H r;have hu:=hR.up r d;have:=hS.holds p o? (hH.up r d k p e);omega;exact h (hS.gone r d k p e g)
include hR hH hS in
theorem Yb{r:Z}(d:r<m)(h:s r=2):T r<=a:=by induction r using s? with|_ r i=>(have hu:=hR.up r d;have hn: ¬H r:=λk=>by have:=hS.holds r d k;omega);have g:=λp(f:U r=((p:Z):Y))=>ie hR hH hS d o? f;by_cases k:F r<b/\a<T r;have:=hS.cut r d hn g k.1 k.2;omega;by_cases w: ∃p:Z,U r=p/\ ¬H p;obtain⟨p,f,w⟩:=w;have e:=hS.VR r d hn g k p f w;have:=i p o? o? o?;have:=hR.nest r d p f;omega;have g2: ∀p' :Z,U r=p' ->s p' ≠1/\H p' :=λp' e=>⟨g p' e,Classical.byContradiction λc=>w ⟨p',e,c⟩⟩;by_cases z:T r<a\/T r=a/\(F r<T r\/(r:Y)<last\/last<0);omega;have:=hS.right r d hn g2 k z;omega
include hR hH hS in
theorem Zp{r:Z}(d:r<m)(h:s r=3):b<=F r\/(F r=a/\T r=a):=by induction r using s? with|_ r i=>(have hu:=hR.up r d;have hg:=hR.W2 r d;have hn: ¬H r:=λk=>by have:=hS.holds r d k;omega);have g:=λp(f:U r=((p:Z):Y))=>ie hR hH hS d o? f;by_cases k:F r<b/\a<T r;have:=hS.cut r d hn g k.1 k.2;omega;by_cases w: ∃p:Z,U r=p/\ ¬H p;obtain⟨p,f,w⟩:=w;have e:=hS.VR r d hn g k p f w;have:=i p o? o? o?;have:=hR.nest r d p f;omega;have g2: ∀p' :Z,U r=p' ->s p' ≠1/\H p' :=λp' e=>⟨g p' e,Classical.byContradiction λc=>w ⟨p',e,c⟩⟩;by_cases z:T r<a\/T r=a/\(F r<T r\/(r:Y)<last\/last<0);have:=hS.left r d hn g2 k z;omega;omega
def Aw(a b c:Y)(F:Z->Y)(s:Z->Y)(r:Z):Y:=if s r=0 then F r else mv a b c (decide (s r=3)) (F r)
def Il(a b c:Y)(T:Z->Y)(s:Z->Y)(r:Z):Y:=if s r=0 then T r+(c-(b-a))else mv a b c (decide (s r=3)) (T r)
include hR hH hS ha fZ hb hc in
theorem BQ{r:Z}(d:r<m)(h:s r≠1):0<=Aw a b c F s r/\Aw a b c F s r<=Il a b c T s r/\Il a b c T s r<=n+(c-(b-a)):=by
 have hg:=hR.W2 r d;unfold Aw Il;rcases rV hR hS d with ⟨k,e⟩|⟨k,e⟩|⟨k,e⟩|⟨k,e⟩;have:=hH.has r d k;simp only[e,if_true];omega;exact I e h;{have:=Yb hR hH hS d e;simp only[e];simp only[mv];simp;(repeat' split);all_goals omega};have:=Zp hR hH hS d e;simp only[e];simp only[mv];simp;repeat' split
 all_goals omega
include hR hH hS fZ hc in
theorem UT{r:Z}(d:r<m)(h:s r≠1){p:Z}(o:U r=p):Aw a b c F s p<=Aw a b c F s r/\Il a b c T s r<=Il a b c T s p:=by
 have hu:=hR.up r d;have f:p<m:=o?;have hg:=hR.W2 r d;have hgp:=hR.W2 p f;have hn:=hR.nest r d p o;have t:=ie hR hH hS d h o;by_cases w:H p;{have i:=hS.holds p f w;have hw:=hH.has p f w;unfold Aw Il;rcases rV hR hS d with ⟨k,e⟩|⟨k,e⟩|⟨k,e⟩|⟨k,e⟩;simp only[e,i,if_true];omega;exact I e h;{have:=Yb hR hH hS d e;simp only[e,i,mv];simp;(repeat' split);all_goals omega};have:=Zp hR hH hS d e;simp only[e,i,mv];simp;(repeat' split);all_goals omega};have j: ¬H r:=λk=>w (hH.up r d k p o);have g : ∀l :Z,U r=l ->s l ≠1:=λl e=>by rw[show l =p by omega];exact t
 have q: ¬(F r<b/\a<T r):=λk=>h (hS.cut r d j g k.1 k.2);have e:=hS.VR r d j g q p o w;have i:s p≠0:=by rcases rV hR hS f with ⟨k,_⟩|⟨_,x⟩|⟨_,x⟩|⟨_,x⟩;exact I k w;all_goals omega
 unfold Aw Il;rw[e,R i,R i,R i,R i];exact⟨a8 fZ hc _ hn.1,a8 fZ hc _ hn.2⟩
include hR hH hS fZ hc in
theorem BR{r:Z}(f:r<m)(h:s r≠1){q:Z}(t:q<r)(W:s q≠1)(hu:U q=U r):Il a b c T s q<=Aw a b c F s r:=by
 have d:q<m:=o?;have hg:=hR.W2 r f;have hgq:=hR.W2 q d;have hn:=hR.C3 r f q t hu;have j:=λp(v:U r=((p:Z):Y))=>ie hR hH hS f h v;have l:=λp(v:U q=((p:Z):Y))=>ie hR hH hS d W v;have u: ¬H r-> ¬(F r<b/\a<T r):=λx k=>h (hS.cut r f x j k.1 k.2);have B: ¬H q-> ¬(F q<b/\a<T q):=λx k=>W (hS.cut q d x l k.1 k.2);by_cases w: ∃p:Z,U r=p/\ ¬H p;{(obtain⟨p,v,w⟩:=w;have W1:=hR.up r f;have i: ¬H r:=λk=>w (hH.up r f k p v);have y: ¬H q:=λk=>w (hH.up q d k p o?);have e1:=hS.VR r f i j (u i) p v w;have e2:=hS.VR q d y l (B y) p o? w;have h0:s p≠0:=by rcases rV hR hS (show p<m by omega)with ⟨k,_⟩|⟨_,x⟩|⟨_,x⟩|⟨_,x⟩;exact I k w;all_goals omega);unfold Aw Il;rw[e1,e2,R h0,R h0];exact a8 fZ hc _ hn};have o: ∀p' :Z,U r=p' ->s p' ≠1/\H p' :=λp' e=>⟨j p' e,Classical.byContradiction λc=>w ⟨p',e,c⟩⟩;have Q: ∀p' :Z,U q=p' ->s p' ≠1/\H p' :=λp' e=>o p' o?;unfold Aw Il;rcases rV hR hS d with ⟨k,e⟩|⟨k,e⟩|⟨k,e⟩|⟨k,e⟩;{have i: ¬H r:=hH.one r f q t hu k;have hq2:=hH.has q d k;have hql:=hS.last1 q d k;obtain⟨x,OO,P,L⟩:=hS.last2 o?;have hlr:=OH hR hH f t hu k P L;have h3:s r=3:=hS.right r f i o (u i) o?;simp only[e,h3,mv];simp;(repeat' split);all_goals omega};exact I e W;{have hl:=Yb hR hH hS d e;rcases rV hR hS f with ⟨g,e2⟩|⟨g,e2⟩|⟨g,e2⟩|⟨g,e2⟩;{simp only[e,e2,mv];simp;(repeat' split);all_goals omega};exact I e2 h;simp only[e,e2];simp;exact a8 fZ hc _ hn;have:=Zp hR hH hS f e2;simp only[e,e2,mv];simp;(repeat' split);all_goals omega};have hrq:=Zp hR hH hS d e;have hz: ¬(T q<a\/T q=a/\(F q<T q\/(q:Y)<last\/last<0)):=λz=>by have:=hS.left q d k Q (B k) z;omega
 rcases rV hR hS f with ⟨g,e2⟩|⟨g,e2⟩|⟨g,e2⟩|⟨g,e2⟩;have h1:=hS.last1 r f g;have h2:=hH.has r f g;omega;exact I e2 h;have hl:=Yb hR hH hS f e2;by_cases z:T r<a\/T r=a/\(F r<T r\/(r:Y)<last\/last<0);omega;have:=hS.right r f g o (u g) z;omega;simp only[e,e2];simp;exact a8 fZ hc _ hn
end
end Xr
end Go.Proofs.YtadahlbndbmdeaaGreat
namespace Go.Proofs.YtadahlbndbmdeaaGreat
open Go Go.Gm
namespace Xr
structure Ht (i:E) (n:Y):Prop where
 W2:0<=i.span.qG/\i.span.qG<=i.span.to/\i.span.to<=n
 up: ∀(k:Z)(x:C),i.stops.l[k]? =X x-> -1<=x.up/\x.up<(k:Z)
 le: ∀(k:Z)(x:C),i.stops.l[k]? =X x->x.span.qG<=x.span.to
 top: ∀(k:Z)(x:C),i.stops.l[k]? =X x->x.up= -1->i.span.qG<=x.span.qG/\x.span.to<=i.span.to
 nest: ∀(k:Z)(x:C),i.stops.l[k]? =X x-> ∀(p:Z)(y:C),x.up=p->i.stops.l[p]? =X y->y.span.qG<=x.span.qG/\x.span.to<=y.span.to
 C3: ∀(k:Z)(x:C),i.stops.l[k]? =X x-> ∀(j:Z)(y:C),j<k->i.stops.l[j]? =X y->y.up=x.up->y.span.to<=x.span.qG
 pre: ∀(k:Z)(x:C),i.stops.l[k]? =X x-> ∀(q:Z)(y:C),q<k->x.up<q->i.stops.l[q]? =X y->x.up<=y.up
theorem Ht.inside{i:E}{n:Y}(h:Ht i n): ∀(k:Z)(x:C),i.stops.l[k]? =X x->i.span.qG<=x.span.qG/\x.span.to<=i.span.to:=by intro k;induction k using s? with|_ k c=>intro x a;have hu:=h.up k x a;by_cases e:x.up= -1;exact h.top k x a e;obtain⟨p,d⟩: ∃p:Z,x.up=p:=⟨x.up.toNat,o?⟩;have hk:=(qK a).1;have b:i.stops.l[p]? =X i.stops.l[p]:=yc o?;have h1:=h.nest k x a p _ d b;have h2:=c p o? _ b;omega
structure eE (is:V E) (n:Y):Prop where
 may: ∀(a:Z)(i:E),is[a]? =X i->Ht i n
 Fq: ∀(a b:Z)(i j:E),a<b->is[a]? =X i->is[b]? =X j->i.span.to<=j.span.qG
theorem eE.tail{i:E}{is:V E}{n:Y}(h:eE (i::is) n):eE is n:=
 ⟨λa j c=>h.may (a+1) j (by simpa using c),λa b j k fZ c d=>h.Fq (a+1) (b+1) j k o? (by simpa using c) (by simpa using d)⟩
abbrev J5:=Y×Y×Y
def oJ(b:Z)(i:E):V J5:=(i.span.qG,i.span.to,-1)::i.stops.l.map (λx=>(x.span.qG,x.span.to,b+1+x.up))
def mA(b:Z):V E->V J5
 |[]=>[]
 |i::is=>oJ b i++mA (b+1+i.stops.l.length) is
theorem QK(b:Z)(i:E):(oJ b i).length=1+i.stops.l.length:=by simp[oJ];omega
structure RowB (b:Z) (l:V J5) (lo n:Y):Prop where
 W2: ∀(r:Z)(x:J5),l[r]? =X x->0<=x.1/\x.1<=x.2.1/\x.2.1<=n
 lo: ∀(r:Z)(x:J5),l[r]? =X x->x.2.2= -1->lo<=x.1
 up: ∀(r:Z)(x:J5),l[r]? =X x->x.2.2= -1\/(b:Y)<=x.2.2/\x.2.2<b+r
 nest: ∀(r:Z)(x:J5),l[r]? =X x-> ∀(p:Z)(y:J5),x.2.2=b+p->l[p]? =X y->y.1<=x.1/\x.2.1<=y.2.1
 C3: ∀(r:Z)(x:J5),l[r]? =X x-> ∀(q:Z)(y:J5),q<r->l[q]? =X y->y.2.2=x.2.2->y.2.1<=x.1
 pre: ∀(r:Z)(x:J5),l[r]? =X x-> ∀(q:Z)(y:J5),q<r->x.2.2<b+q->l[q]? =X y->x.2.2<=y.2.2
theorem rT{b:Z}{i:E}{r:Z}{x:J5}(h:(oJ b i)[r]? =X x):(r=0/\x=(i.span.qG,i.span.to,-1))\/ ∃k s,r=k+1/\i.stops.l[k]? =X s/\x=(s.span.qG,s.span.to,b+1+s.up):=by cases r with|zero=>left;simpa[oJ,eq_comm]using h|succ k=>right;simp only[oJ,Q?,V.getElem?_map,gD]at h;obtain⟨s,c,a⟩:=h;exact⟨k,s,rfl,c,a.symm⟩
theorem rowS_ok(n:Y): ∀(is:V E)(b:Z)(lo:Y),eE is n->(∀(a:Z)(i:E),is[a]? =X i->lo<=i.span.qG)->RowB b (mA b is) lo n:=by intro is;induction is with|nil=>intro b lo _ _;constructor<;>intro r x h<;>simp[mA]at h|cons i is ih=>(intro b lo h P;have g:=h.may 0 i rfl;have hi:=ih (b+1+i.stops.l.length) i.span.to h.tail (λa j hj=>h.Fq 0 (a+1) i j o? rfl (by simpa using hj));have B:=P 0 i rfl;have Q:=g.W2;have hL:=QK b i;have split: ∀(r:Z)(x:J5),(mA b (i::is))[r]? =X x->(r<1+i.stops.l.length/\(oJ b i)[r]? =X x)\/ ∃q,r=1+i.stops.l.length+q/\(mA (b+1+i.stops.l.length) is)[q]? =X x:=by intro r x c;rw[mA]at c;by_cases o:r<1+i.stops.l.length;rw[c? o?]at c;exact .inl ⟨o,c⟩;rw[J? o?,hL]at c;exact .inr ⟨r-(1+i.stops.l.length),o?,c⟩);have t: ∀(k:Z)(s:C),i.stops.l[k]? =X s->k<i.stops.l.length:=λk s hs=>(qK hs).1;refine⟨?_, ?_, ?_, ?_, ?_, ?_⟩;intro r x c;rcases split r x c with ⟨_,c⟩|⟨q,_,c⟩;rcases rT c with ⟨_,rfl⟩|⟨k,s,_,hs,rfl⟩;exact Q;have:=g.inside k s hs;have:=g.le k s hs;simp only;omega;exact hi.W2 q x c;intro r x c hu;rcases split r x c with ⟨_,c⟩|⟨q,_,c⟩;rcases rT c with ⟨_,rfl⟩|⟨k,s,_,hs,rfl⟩;exact B;have:=g.inside k s hs;simp only;omega;have:=hi.lo q x c hu;omega;intro r x c;rcases split r x c with ⟨o,c⟩|⟨q,o,c⟩;rcases rT c with ⟨_,rfl⟩|⟨k,s,F,hs,rfl⟩;exact .inl rfl;have:=g.up k s hs;right;simp only;omega;rcases hi.up q x c with e|e;exact .inl e;right;omega;intro r x c p y W d;rcases split r x c with ⟨o,c⟩|⟨q,o,c⟩;rcases rT c with ⟨_,rfl⟩|⟨k,s,F,hs,rfl⟩;simp only at W;omega;have hu:=g.up k s hs;have U:=t k s hs;simp only at W |-;rcases split p y d with ⟨_,d⟩|⟨m,f,d⟩;rcases rT d with ⟨_,rfl⟩|⟨z,w,Ka,H,rfl⟩;exact g.inside k s hs;exact g.nest k s hs z w o? H;omega;have hu:=hi.up q x c;rcases split p y d with ⟨hp',d⟩|⟨m,f,d⟩;omega;exact hi.nest q x c m y o? d;intro r x c q y hq d hu;rcases split r x c with ⟨o,c⟩|⟨v,o,c⟩;rcases rT c with ⟨L,rfl⟩|⟨k,s,F,hs,rfl⟩;omega;have u:=g.up k s hs;have U:=t k s hs;rcases split q y d with ⟨_,d⟩|⟨m,f,d⟩;rcases rT d with ⟨_,rfl⟩|⟨z,w,Ka,H,rfl⟩;simp only at hu;omega;simp only at hu |-;exact g.C3 k s hs z w o? H o?;omega;rcases split q y d with ⟨f,d⟩|⟨m,f,d⟩;have T:=hi.up v x c;rcases rT d with ⟨L,rfl⟩|⟨k,s,F,hs,rfl⟩;simp only at hu |-;have:=hi.lo v x c hu.symm;omega;have u:=g.up k s hs;have U:=t k s hs;simp only at hu;omega;exact hi.C3 v x c m y o? d hu;intro r x c q y hq hu d;rcases split r x c with ⟨o,c⟩|⟨v,o,c⟩;rcases split q y d with ⟨_,d⟩|⟨m,f,d⟩;rcases rT c with ⟨L,rfl⟩|⟨k,s,F,hs,rfl⟩;omega;have u:=g.up k s hs;rcases rT d with ⟨L,rfl⟩|⟨z,w,Ka,H,rfl⟩;simp only at hu;omega;simp only at hu |-;have:=g.pre k s hs z w o? o? H;omega;omega;have T:=hi.up v x c;rcases split q y d with ⟨f,d⟩|⟨m,f,d⟩;rcases T with e|e;rcases rT d with ⟨L,rfl⟩|⟨k,s,F,hs,rfl⟩;simp only;omega;have u:=g.up k s hs;simp only;omega;omega;have huy:=hi.up m y d;rcases T with e|e;omega;exact hi.pre v x c m y o? o? d
def Fof(l:V J5)(r:Z):Y:=(l.getD r (0,0,-1)).1
def Tof(l:V J5)(r:Z):Y:=(l.getD r (0,0,-1)).2.1
def Iv(l:V J5)(r:Z):Y:=(l.getD r (0,0,-1)).2.2
theorem lM{l:V J5}{r:Z}{x:J5}(h:l[r]? =X x):Fof l r=x.1/\Tof l r=x.2.1/\Iv l r=x.2.2:=by simp[Fof,Tof,Iv,h]
theorem RowB.row{l:V J5}{lo n:Y}(h:RowB 0 l lo n):Row l.length (Fof l) (Tof l) (Iv l) n:=by
 have g: ∀r,r<l.length-> ∃x,l[r]? =X x/\Fof l r=x.1/\Tof l r=x.2.1/\Iv l r=x.2.2:=by intro r a;exact⟨l[r],yc a,lM (yc a)⟩
 refine⟨?_, ?_, ?_, ?_, ?_⟩;intro r a;obtain⟨x,b,e1,e2,e3⟩:=g r a;rw[e1,e2];exact h.W2 r x b;intro r a;obtain⟨x,b,e1,e2,e3⟩:=g r a;have:=h.up r x b;omega;intro r a p hp;obtain⟨x,b,e1,e2,e3⟩:=g r a;have hu:=h.up r x b;obtain⟨y,c,f1,f2,f3⟩:=g p o?;have:=h.nest r x b p y o? c;omega;intro r a q d hu;obtain⟨x,b,e1,e2,e3⟩:=g r a;obtain⟨y,c,f1,f2,f3⟩:=g q o?;have:=h.C3 r x b q y d c o?;omega;intro r a q d hu;obtain⟨x,b,e1,e2,e3⟩:=g r a;obtain⟨y,c,f1,f2,f3⟩:=g q o?;have:=h.pre r x b q y d o? c;omega
end Xr
namespace Xr
def Dz(a b c:Y)(side:Y)(p:qg):qg:=if side=0 then⟨p.qG,p.to+(c-(b-a))⟩else⟨mv a b c (decide (side=3)) p.qG,mv a b c (decide (side=3)) p.to⟩
def XU(s:Z->Y)(b:Z):Z->Z
 |0=>0
 |k+1=>XU s b k+if s (b+k)=1 then 0 else 1
def Ld(a b c:Y)(s:Z->Y)(d k:Z)(x:C):C:={ x with span:=Dz a b c (s (d+k)) x.span,up:=if 0<=x.up then(XU s d x.up.toNat:Y)else x.up }
def dT(a b c:Y)(s:Z->Y)(d:Z):Z->V C->V C
 |_,[]=>[]
 |k,x::r=>if s (d+k)=1 then dT a b c s d (k+1) r else Ld a b c s d k x::dT a b c s d (k+1) r
def Wy(a b c:Y)(s:Z->Y)(d:Z)(i:E):E:=⟨Dz a b c (s d) i.span,⟨(dT a b c s (d+1) 0 i.stops.l).isEmpty,dT a b c s (d+1) 0 i.stops.l⟩⟩
def rk(a b c:Y)(s:Z->Y):Z->V E->V E
 |_,[]=>[]
 |b0,i::is=>if s b0=1 then rk a b c s (b0+1+i.stops.l.length) is else Wy a b c s b0 i::rk a b c s (b0+1+i.stops.l.length) is
theorem UJ(s:Z->Y)(b:Z): ∀{k k' :Z},k<=k' ->XU s b k<=XU s b k' :=by intro k k' h;induction k' with|zero=>obtain rfl:k=0:=o?;exact ke _|succ k' a=>by_cases e:k=k' +1;subst e;exact ke _;have:=a o?;rw[XU];omega
theorem DQ(s:Z->Y)(b:Z){k k' :Z}(h:k<k')(a:s (b+k)≠1):XU s b k<XU s b k' :=by
 have h1:XU s b (k+1)=XU s b k+1:=by rw[XU,R a]
 have h2:=UJ s b (show k+1<=k' by omega);omega
theorem Ef(s:Z->Y)(b:Z){k k' :Z}(a:s (b+k)≠1)(c:s (b+k')≠1)(h:XU s b k=XU s b k'):k=k' :=by rcases n_ k k' with h1|h1|h1;have:=DQ s b h1 a;omega;exact h1;have:=DQ s b h1 c;omega
theorem Mj(s:Z->Y)(b:Z){k k' :Z}(h:XU s b k<XU s b k'):k<k' :=by by_cases e:k<k';exact e;have:=UJ s b (show k' <=k by omega);omega
section
variable {a b c:Y} {s:Z->Y}
theorem Bg(f:Z): ∀(st:V C)(d j:Z)(y:C),(dT a b c s f d st)[j]? =X y-> ∃(k:Z)(x:C),st[k]? =X x/\s (f+(d+k))≠1/\y=Ld a b c s f (d+k) x/\XU s f (d+k)=XU s f d+j:=by intro st;induction st with|nil=>intro d j y h;simp[dT]at h|cons x r n=>intro d j y h;rw[dT]at h;split at h;rename_i e;obtain⟨k,z,m,l,i,g⟩:=n (d+1) j y h;refine⟨k+1,z,by simpa using m, ?_, ?_, ?_⟩;rw[show d+(k+1)=d+1+k by omega];exact l;rw[show d+(k+1)=d+1+k by omega];exact i;rw[show d+(k+1)=d+1+k by omega,g,XU,N e];omega;rename_i e;cases j with|zero=>simp only[i?,wO]at h;exact⟨0,x,z?,by simpa using e,by simpa using h.symm,z?⟩|succ j=>simp only[Q?]at h;obtain⟨k,z,m,l,i,g⟩:=n (d+1) j y h;refine⟨k+1,z,by simpa using m, ?_, ?_, ?_⟩;rw[show d+(k+1)=d+1+k by omega];exact l;rw[show d+(k+1)=d+1+k by omega];exact i;rw[show d+(k+1)=d+1+k by omega,g,XU,R e];omega
theorem L8(f:Z): ∀(st:V C)(d:Z),(dT a b c s f d st).length<=st.length:=by intro st;induction st with|nil=>intro d;simp[dT]|cons x r e=>intro d;have:=e (d+1);rw[dT];split<;>simp<;>omega
theorem L9(d:Z)(st:V C)(e:Z)(y:C)(h:y∈dT a b c s d e st): ∃x∈st,∃ k,y=Ld a b c s d k x:=by obtain⟨j,f⟩:=kS h;obtain⟨k,x,i,_,g,_⟩:=Bg d st e j y f;exact⟨x,zj i,_,g⟩
theorem DA(r:Z)(F:Z->Y)(p:qg)(h:F r=p.qG):(Dz a b c (s r) p).qG=Aw a b c F s r:=by unfold Dz Aw;rw[h];split<;>rfl
theorem DB(r:Z)(p:qg)(W:Z->Y)(h:W r=p.to):(Dz a b c (s r) p).to=Il a b c W s r:=by unfold Dz Il;rw[h];split<;>rfl
variable {l:V J5} {n:Y} {H:Z->Prop} {last:Y}
variable (hR:Row l.length (Fof l) (Tof l) (Iv l) n) (hH:PB l.length (Fof l) (Tof l) (Iv l) H a b) (hS:Side l.length (Fof l) (Tof l) (Iv l) H a b last s) (ha:0<=a) (fZ:a<=b) (hb:b<=n) (hc:0<=c)
include hR hH hS ha fZ hb hc in
theorem newI_may{i:E}{b0:Z}(hi: ∀(r:Z)(x:J5),(oJ b0 i)[r]? =X x->l[b0+r]? =X x)(hm:Ht i n)(h0:s b0≠1):Ht (Wy a b c s b0 i) (n+(c-(b-a))):=by
 have hh:l[b0]? =X (i.span.qG,i.span.to,-1):=by simpa using hi 0 _ rfl
 have Vb:b0<l.length:=(qK hh).1;have gh:=lM hh;have hk: ∀(k:Z)(x:C),i.stops.l[k]? =X x->l[b0+1+k]? =X (x.span.qG,x.span.to,(b0:Y)+1+x.up):=by intro k x m;have:=hi (k+1) (x.span.qG,x.span.to,b0+1+x.up) (by simp[oJ,m]);rwa[show b0+(k+1)=b0+1+k by omega]at this
 have F: ∀(k:Z)(x:C),i.stops.l[k]? =X x->b0+1+k<l.length:=λk x m=>(qK (hk k x m)).1;have w:=λ(k:Z)(x:C) m=>lM (hk k x m);have get: ∀(j:Z)(y:C),(Wy a b c s b0 i).stops.l[j]? =X y-> ∃(k:Z)(x:C),i.stops.l[k]? =X x/\s (b0+1+k)≠1/\y=Ld a b c s (b0+1) k x/\XU s (b0+1) k=j:=by intro j y t;obtain⟨k,x,d,o,h3,v⟩:=Bg (b0+1) i.stops.l 0 j y t;simp only[x!,XU]at o h3 v;exact⟨k,x,d,o,h3,v⟩
 have Q: ∀(k:Z)(x:C),i.stops.l[k]? =X x->(Ld a b c s (b0+1) k x).span.qG=Aw a b c (Fof l) s (b0+1+k):=λk x m=>DA _ _ _ (w k x m).1;have to: ∀(k:Z)(x:C),i.stops.l[k]? =X x->(Ld a b c s (b0+1) k x).span.to=Il a b c (Tof l) s (b0+1+k):=λk x m=>DB _ _ _ (w k x m).2.1;have P:(Wy a b c s b0 i).span.qG=Aw a b c (Fof l) s b0:=DA _ _ _ gh.1;have B:(Wy a b c s b0 i).span.to=Il a b c (Tof l) s b0:=DB _ _ _ gh.2.1;have par: ∀(k:Z)(x:C),i.stops.l[k]? =X x->s (b0+1+k)≠1-> ∀p:Z,x.up=p->p<k/\s (b0+1+p)≠1/\ ∃y,i.stops.l[p]? =X y:=by intro k x m h p hp;have hu:=hm.up k x m;have VL:=(qK m).1;refine⟨o?,ie hR hH hS (F k x m) h (p:=b0+1+p) (by rw[(w k x m).2.2,hp];simp),_,yc o?⟩
 have g: ∀(k:Z)(x:C),i.stops.l[k]? =X x->(x.up= -1/\(Ld a b c s (b0+1) k x).up= -1)\/ ∃p:Z,x.up=p/\(Ld a b c s (b0+1) k x).up=(XU s (b0+1) p:Z):=by intro k x m;have hu:=hm.up k x m;unfold Ld;by_cases e:0<=x.up;right;exact⟨x.up.toNat,o?,by simp only[N e]⟩;left;simp only[R e];omega
 refine⟨?_, ?_, ?_, ?_, ?_, ?_, ?_⟩;rw[P,B];exact BQ hR hH hS ha fZ hb hc Vb h0;intro j y t;obtain⟨k,x,d,o,rfl,v⟩:=get j y t;rcases g k x d with ⟨_,e⟩|⟨p,e1,e2⟩;omega;obtain⟨q1,L,_⟩:=par k x d o p e1;have:=DQ s (b0+1) q1 L;omega;intro j y t;obtain⟨k,x,d,o,rfl,v⟩:=get j y t;rw[Q k x d,to k x d];exact(BQ hR hH hS ha fZ hb hc (F k x d) o).2.1;intro j y t hu;obtain⟨k,x,d,o,rfl,v⟩:=get j y t;rcases g k x d with ⟨e,_⟩|⟨p,e1,e2⟩;rw[Q k x d,to k x d,P,B];exact UT hR hH hS fZ hc (F k x d) o (p:=b0) (by rw[(w k x d).2.2,e];simp only;omega);omega;intro j y t p z hp T;obtain⟨k,x,d,o,rfl,v⟩:=get j y t;obtain⟨k2,u,g1,g2,rfl,g4⟩:=get p z T;rcases g k x d with ⟨e,e'⟩|⟨q,e1,e2⟩;omega;obtain⟨q1,L,_⟩:=par k x d o q e1;obtain rfl:q=k2:=Ef s (b0+1) L g2 o?;rw[Q k x d,to k x d,Q q u g1,to q u g1];exact UT hR hH hS fZ hc (F k x d) o (p:=b0+1+q) (by rw[(w k x d).2.2,e1];simp);(intro j y t j2 z hj T hu;obtain⟨k,x,d,o,rfl,v⟩:=get j y t;obtain⟨k2,u,g1,g2,rfl,g4⟩:=get j2 z T;have VL:k2<k:=Mj s (b0+1) o?;have he:u.up=x.up:=by rcases g k x d with ⟨e,e'⟩|⟨q,e1,e2⟩<;>rcases g k2 u g1 with ⟨f,f'⟩|⟨U,f1,f2⟩;omega;omega;omega;obtain⟨_,L,_⟩:=par k x d o q e1;obtain⟨_,W,_⟩:=par k2 u g1 g2 U f1;have:=Ef s (b0+1) L W o?;omega);rw[Q k x d,to k2 u g1];exact BR hR hH hS fZ hc (F k x d) o (q:=b0+1+k2) o? g2 (by rw[(w k x d).2.2,(w k2 u g1).2.2,he]);intro j y t q z hq hu T;obtain⟨k,x,d,o,rfl,v⟩:=get j y t;obtain⟨k2,u,g1,g2,rfl,g4⟩:=get q z T;have VL:k2<k:=Mj s (b0+1) o?;rcases g k x d with ⟨e,e'⟩|⟨p,e1,e2⟩;rcases g k2 u g1 with ⟨f,f'⟩|⟨U,f1,f2⟩<;>omega;have hpk:p<k2:=Mj s (b0+1) o?;have:=hm.pre k x d k2 u VL o? g1;rcases g k2 u g1 with ⟨f,f'⟩|⟨U,f1,f2⟩;omega;have:=UJ s (b0+1) (show p<=U by omega);omega
theorem Wz: ∀(is:V E)(f:Z),(∀(r:Z)(x:J5),(mA f is)[r]? =X x->l[f+r]? =X x)-> ∀(j:Z)(y:E),(rk a b c s f is)[j]? =X y->
  ∃(k:Z)(i:E)(d:Z),is[k]? =X i/\f<=d/\s d≠1/\y=Wy a b c s d i/\(∀(r:Z)(x:J5),(oJ d i)[r]? =X x->l[d+r]? =X x):=by intro is;induction is with|nil=>intro f _ j y h;simp[rk]at h|cons i is o=>(intro f hl j y h;have q:=QK f i;have u: ∀(r:Z)(x:J5),(oJ f i)[r]? =X x->l[f+r]? =X x:=by intro r x m;have p:=(qK m).1;exact hl r x (by rw[mA,c? p];exact m));(have t: ∀(r:Z)(x:J5),(mA (f+1+i.stops.l.length) is)[r]? =X x->l[f+1+i.stops.l.length+r]? =X x:=by intro r x m;have:=hl (1+i.stops.l.length+r) x (by rw[mA,J? o?,q,show 1+i.stops.l.length+r-(1+i.stops.l.length)=r by omega];exact m);rwa[show f+(1+i.stops.l.length+r)=f+1+i.stops.l.length+r by omega]at this);(have again: ∀(j:Z)(y:E),(rk a b c s (f+1+i.stops.l.length) is)[j]? =X y-> ∃(k:Z)(g :E)(d:Z),(i::is)[k]? =X g /\f<d/\s d≠1/\y=Wy a b c s d g /\(∀(r:Z)(x:J5),(oJ d g)[r]? =X x->l[d+r]? =X x):=by intro j y h;obtain⟨k,g,d,g1,g2,g3⟩:=o (f+1+i.stops.l.length) t j y h;exact⟨k+1,g,d,by simpa using g1,o?,g3⟩);rw[rk]at h;split at h;obtain⟨k,g,d,g1,g2,g3⟩:=again j y h;exact⟨k,g,d,g1,o?,g3⟩;rename_i e;cases j with|zero=>simp only[i?,wO]at h;exact⟨0,i,f,rfl,ke _,e,h.symm,u⟩|succ j=>simp only[Q?]at h;obtain⟨k,g,d,g1,g2,g3⟩:=again j y h;exact⟨k,g,d,g1,o?,g3⟩
theorem Dx: ∀(is:V E)(d:Z),(∀(r:Z)(x:J5),(mA d is)[r]? =X x->l[d+r]? =X x)-> ∀(j f :Z)(y o :E),j<f ->(rk a b c s d is)[j]? =X y->(rk a b c s d is)[f]? =X o ->
  ∃(i t :E)(m b2:Z),d<=m/\m<b2/\s m≠1/\s b2≠1/\y=Wy a b c s m i/\o =Wy a b c s b2 t /\l[m]? =X (i.span.qG,i.span.to,-1)/\l[b2]? =X (t.span.qG,t.span.to,-1):=by intro is;induction is with|nil=>intro d _ j f y o _ h;simp[rk]at h|cons i is v=>(intro d hl j f y o z h p;have B:=QK d i;have F:l[d]? =X (i.span.qG,i.span.to,-1):=by simpa using hl 0 _ (by rw[mA,c? o?];rfl));(have u: ∀(r:Z)(x:J5),(mA (d+1+i.stops.l.length) is)[r]? =X x->l[d+1+i.stops.l.length+r]? =X x:=by intro r x w;have:=hl (1+i.stops.l.length+r) x (by rw[mA,J? o?,B,show 1+i.stops.l.length+r-(1+i.stops.l.length)=r by omega];exact w);rwa[show d+(1+i.stops.l.length+r)=d+1+i.stops.l.length+r by omega]at this);rw[rk]at h p;split at h;rename_i e;rw[N e]at p;obtain⟨i1,i2,m,b2,g1,g⟩:=v (d+1+i.stops.l.length) u j f y o z h p;exact⟨i1,i2,m,b2,o?,g⟩;rename_i e;rw[R e]at p;obtain⟨f,rfl⟩: ∃q,f =q+1:=⟨f -1,o?⟩;simp only[Q?]at p;cases j with|zero=>simp only[i?,wO]at h;obtain⟨k,t,b2,g1,g2,g3,g4,g5⟩:=Wz is (d+1+i.stops.l.length) u f o p;exact⟨i,t,d,b2,ke _,o?,e,g3,h.symm,g4,F,by simpa using g5 0 _ rfl⟩|succ j=>simp only[Q?]at h;obtain⟨i1,i2,m,b2,g1,g⟩:=v (d+1+i.stops.l.length) u j f y o o? h p;exact⟨i1,i2,m,b2,o?,g⟩
include hR hH hS ha fZ hb hc in
theorem L7{is:V E}(hl:l=mA 0 is)(q:eE is n):eE (rk a b c s 0 is) (n+(c-(b-a))):=by
 have f: ∀(r:Z)(x:J5),(mA 0 is)[r]? =X x->l[0+r]? =X x:=λr x h=>by rw[hl,x!];exact h
 constructor;intro j y d;obtain⟨k,i,g,g1,_,g3,rfl,g5⟩:=Wz is 0 f j y d;exact newI_may hR hH hS ha fZ hb hc g5 (q.may k i g1) g3;intro j o y m t d u;obtain⟨i,p,g,b2,_,g2,g3,g4,rfl,rfl,g7,g8⟩:=Dx is 0 f j o y m t d u;have e1:=lM g7;have e2:=lM g8;have e:=(qK g8).1;show(Dz a b c (s g) i.span).to<=(Dz a b c (s b2) p.span).qG;rw[DB _ _ _ e1.2.1,DA _ _ _ e2.1];exact BR hR hH hS fZ hc e g4 g2 g3 (by rw[e1.2.2,e2.2.2])
end
end Xr
def qL{α:Type}(o:D α)(Q:α->Prop):Prop:= ∃r,o=X r/\Q r
theorem qL.ret{α:Type}{a:α}{Q:α->Prop}(h:Q a):qL (X a) Q:=⟨a,rfl,h⟩
theorem qL.bind{α β:Type}{o:D α}{f:α->D β}{P:α->Prop}{Q:β->Prop}(h:qL o P)(k: ∀x,P x->qL (f x) Q):qL (o>>=f) Q:=by obtain⟨x,rfl,a⟩:=h;exact k x a
theorem qL.go{α β:Type}{o:D α}{f:α->D β}{a:α}{Q:β->Prop}(h:o=X a)(k:qL (f a) Q):qL (o>>=f) Q:=by subst h;exact k
theorem qL.ite{α:Type}{c:Prop}[Decidable c]{a b:D α}{Q:α->Prop}(e:c->qL a Q)(d: ¬c->qL b Q):qL (if c then a else b) Q:=by split;exact e (by assumption);exact d (by assumption)
theorem qL.zY{α:Type}{c:Prop}[Decidable c]{a:D α}{Q:α->Prop}(b:c)(h:qL a Q):qL (if c then a else none) Q:=by rw[N b];exact h
theorem qL.mono{α:Type}{o:D α}{P Q:α->Prop}(h:qL o P)(k: ∀x,P x->Q x):qL o Q:=by obtain⟨x,b,a⟩:=h;exact⟨x,b,k x a⟩
theorem qL.get{α:Type}{l:List α}{i:Int}(h1:0<=i:=by omega)(h2:i<(l.length:Int):=by omega):qL (qk l i) (λx=>l[i.toNat]? =some x/\x∈l):=by have h3:i.toNat<l.length:=o?;refine⟨l[i.toNat], ?_,by simp[h3],List.getElem_mem h3⟩;unfold qk;rw[if_pos h1];simp[h3]
theorem qL.wz{α:Type}{l:List α}{lo hi:Int}(h1:0<=lo:=by omega)(h2:lo<=hi:=by omega)(h3:hi<=(l.length:Int):=by omega):qL (Gm.wz l lo hi) (λr=>r=(l.take hi.toNat).drop lo.toNat/\(r.length:Int)=hi-lo):=by refine⟨(l.take hi.toNat).drop lo.toNat, ?_,rfl, ?_⟩;unfold Gm.wz;rw[if_pos ⟨⟨h1,o?⟩,o?,o?⟩];simp only[List.length_drop,List.length_take];omega
theorem qL.nR{α:Type}{l:List α}{lo:Int}(h1:0<=lo:=by omega)(h2:lo<=(l.length:Int):=by omega):qL (Gm.nR l lo) (λr=>r=l.drop lo.toNat/\(r.length:Int)=l.length-lo):=by refine⟨l.drop lo.toNat, ?_,rfl, ?_⟩;unfold Gm.nR;rw[if_pos ⟨h1,o?⟩];simp only[List.length_drop];omega
theorem qL.wo{α:Type}{l:List α}{hi:Int}(h1:0<=hi:=by omega)(h2:hi<=(l.length:Int):=by omega):qL (Gm.wo l hi) (λr=>r=l.take hi.toNat/\(r.length:Int)=hi):=by refine⟨l.take hi.toNat, ?_,rfl, ?_⟩;unfold Gm.wo;rw[if_pos ⟨h1,o?⟩];simp only[List.length_take];omega
theorem qC{n k:Nat}(h:n<=2^30:=by omega)(hk:k<=2^16:=by omega):ql n k=true:=by have h1:n*k<=2^30*2^16:=Nat.mul_le_mul h hk;unfold ql;simp only[xn,decide_eq_true_eq];refine⟨⟨by simpa using h1,o?⟩,o?⟩
theorem jy{n:Y}(b:0<=n)(a:n<=255):D?.wrap n=n:=IntWalk.u8_in n ⟨b,a⟩
theorem ge0{a b:Y}:(a>=b)=(b<=a):=rfl
theorem gt0{a b:Y}:(a>b)=(b<a):=rfl
def tfx:=PLift.up (A @decide_eq_true_eq (A @xn (A @Bool.or_eq_true (A @b_ (A @Bool.not_eq_true (A @Bool.and_eq_false_iff (A @Bool.or_eq_false_iff (A @decide_eq_false_iff_not
 (A @beq_iff_eq.{0} (A @bne_iff_ne.{0} (A @beq_eq_false_iff_ne.{0} (A @bne_eq_false_iff_eq.{0} (A @not_and (A @not_or (A @ge0 (A @gt0 (A @Bool.not_eq_false' (A @Bool.not_eq_false (A @Int.not_lt (A @Int.not_le
 (A @ne_eq.{1} @q2l)))))))))))))))))))))
def BN:Z:=8192
theorem qL.tI{α:Type}{c:Prop}[Decidable c]{a b:Option α}{Q:α->Prop}{p n:Prop}(f:p->qL a Q)(g:n->qL b Q)
  (hp:c->p:=by(intro hT;(try simp(disch:=omega) only[tfx.down,qy,jy]at hT);exact hT)) (hn: ¬c->n:=by(intro hT;(try simp(disch:=omega) only[tfx.down,qy,jy]at hT);exact hT)):qL (if c then a else b) Q:=
 qL.ite (λh=>f (hp h)) (λh=>g (hn h))
theorem tW{P:Prop}(h:P:=by
 (try intros)
 (try simp only[BN]at *)
 repeat' (first
  |refine qL.zY (qC (by first|omega|grind) (by omega)) ?_
  |refine qL.zY (by (try simp only[Bool.and_eq_true,decide_eq_true_eq,List.length_append,List.length_cons,List.length_nil]);first|omega|grind) ?_
  |(refine qL.tI ?_ ?_<;>intro _)
  |(rw [qy];rotate_left;(first|omega|grind);(first|omega|grind))
  |(rw [jy];rotate_left;(first|omega|grind);(first|omega|grind))
  |refine qL.bind (qL.get (by first|omega|grind) (by first|omega|grind)) λ_ _=>?_
  |refine qL.bind (qL.wz (by first|omega|grind) (by first|omega|grind) (by first|omega|grind)) λ_ _=>?_
  |refine qL.bind (qL.wo (by first|omega|grind) (by first|omega|grind)) λ_ _=>?_
  |refine qL.bind (qL.nR (by first|omega|grind) (by first|omega|grind)) λ_ _=>?_
  |refine qL.bind (by (apply_assumption;(try any_goals rfl);all_goals (first|assumption|omega|grind))) λ_ _=>?_
  |refine .ret ?_
  |(refine qL.mono (by (apply_assumption;(try any_goals rfl);all_goals (first|assumption|omega|grind))) ?_;intros)
  |(rintro _ ⟨⟩))
 all_goals (first|omega|(simp only[List.length_append,List.length_cons,List.length_nil]at *; first|omega|grind)|grind|((repeat' (refine And.intro ?_ ?_))<;>first|rfl|omega|(simp only[List.length_append,List.length_cons,List.length_nil]at *; omega)|grind)|(split<;>refine .ret ?_<;>first|omega|grind))):P:=h
theorem tR(c:UInt8):qL (wX c) (λv=>v=K->48<=c.toNat/\c.toNat<=57):=by unfold wX;refine .tI ?_ ?_<;>intro hT;exact .ret v?;exact .ret z?
theorem cA(c:UInt8):qL (yD c) (λ_=>True):=by unfold yD;refine .tI ?_ ?_<;>intro a;exact .ret trivial;refine .tI ?_ ?_<;>intro a;exact .ret trivial;exact .ret trivial
theorem G1(s:qa)(hs:s.length<=BN)(qp:Y)(ha:0<=qp)(oG:qp<=s.length): ∀(m:Z)(n e:Y),m=(s.length-e).toNat->qp<=e->e<=s.length->0<=n->
  (e=qp/\n<1\/e=qp+1/\n<10\/e=qp+2/\n<100\/e=qp+3/\n<1000\/e=qp+4/\n<10000)->
  qL (bY (s,qp,n,e)) (λr=>0<=r.1/\r.1<=9999/\e<=r.2/\r.2<=s.length):=by unfold BN at hs;intro m;induction m using s? with|_ m c=>intro n e hm h1 h2 h4 h5;rw[bY.eq_1];refine .tI ?_ ?_<;>intro a;{(repeat (first|(rw [qy];rotate_left;omega;omega)|(rw [jy];rotate_left;omega;omega)));refine .bind .get λb hb=>?_;refine .bind (tR b) λv d=>?_;refine .tI ?_ ?_<;>intro a;{have f:=a;have hv2:=d f;(try simp(disch:=omega) only[qy,jy]);exact(c _ o? _ _ rfl o? o? o? o?).mono λr hr=>o?};exact .ret u?};exact .ret u?
theorem ix(s:qa)(hs:s.length<=BN)(qp:Y)(e:0<=qp)(c:qp<=s.length):
  qL (pI s qp) (λr=>0<=r.1/\r.1<=9999/\(r.2.2=K->qp<r.2.1/\r.2.1<=s.length)):=by unfold pI;refine .bind (G1 s hs qp e c _ 0 qp rfl o? c o? o?) λv a=>?_;refine .tI ?_ ?_<;>intro d;exact .ret z?;refine .tI ?_ ?_<;>intro d;refine .bind .get λb hb=>?_;refine .bind (tR b) λw hw=>?_;refine .tI ?_ ?_<;>intro d;exact .ret z?;exact .ret ⟨a.1,a.2.1,λ_=>u?⟩;exact .ret ⟨a.1,a.2.1,λ_=>u?⟩
theorem Rn(s:qa)(hs:s.length<=BN): ∀(m:Z)(i:Y),m=(s.length-i).toNat->0<=i->qL (jL (s,i)) (λ_=>True):=by unfold BN at hs;intro m;induction m using s? with|_ m c=>intro i hm h1;rw[jL.eq_1];refine .tI ?_ ?_<;>intro a;{(repeat (first|(rw [qy];rotate_left;omega;omega)|(rw [jy];rotate_left;omega;omega)));refine .bind .get λb hb=>?_;refine .bind (cA b) λv hv=>?_;have h:=c _ o? (i+1) rfl o?;refine .tI ?_ ?_<;>intro a;refine .tI ?_ ?_<;>intro a;refine .tI ?_ ?_<;>intro a;exact .ret trivial;refine .bind (tR b) λw hw=>?_;refine .tI ?_ ?_<;>intro a;exact .ret trivial;exact h;exact h;exact h};exact .ret trivial
theorem Uz(s:qa)(hs:s.length<=BN):qL (kh s) (λ_=>True):=by unfold kh;refine .tI ?_ ?_<;>intro hT;exact .ret trivial;refine .bind (Rn s hs _ 0 rfl o?) λv hv=>?_;rcases v with v|v<;>exact .ret trivial
theorem MA(s:qa)(hs:s.length<=BN)(w:V qF)(es:V Y)(qp:Y)(ha:0<=qp): ∀(m:Z)(e:Y),m=(s.length-e).toNat->qp<=e->e<=s.length->
  qL (jP (qp,e,s,w,es)) (λr=>e<=r/\r<=s.length):=by unfold BN at hs;intro m;induction m using s? with|_ m c=>intro e hm h1 h2;rw[jP.eq_1];refine .tI ?_ ?_<;>intro a;{(repeat (first|(rw [qy];rotate_left;omega;omega)|(rw [jy];rotate_left;omega;omega)));refine .bind .get λb hb=>?_;refine .bind (cA b) λv hv=>?_;have h:=(c _ o? (e+1) rfl o? o?).mono (Q:=λr=>e<=r/\r<=s.length) λr hr=>o?;refine .tI ?_ ?_<;>intro a;exact h;refine .tI ?_ ?_<;>intro a;exact h;refine .tI ?_ ?_<;>intro a;refine .bind (tR b) λw hw=>?_;refine .tI ?_ ?_<;>intro a;exact h;exact .ret o?;exact .ret o?};exact .ret o?
theorem q0b(s:qa)(hs:s.length<=BN)(w:List qF)(es:List Int)(qp:Int)(ha:0<=qp)(oG:qp<=s.length):
  qL (nH qp s w es) (λr=>qp<=r.2.1/\r.2.1<=s.length/\(r.1.length:Int)=r.2.1-qp/\(r.2.2=true->qp<r.2.1)):=by unfold nH;refine .bind (MA s hs w es qp ha _ qp rfl o? oG) λv hv=>?_;refine .bind (qL.wz ha hv.1 hv.2) λx hx=>?_;have hn:=Uz x o?;by_cases he:x.length=0;(have:x=[]:=by simpa using he);subst this;refine .bind (o:=kh []) (P:=λw=>w=false) ⟨false,by unfold kh;simp,rfl⟩ λw hw=>?_;subst hw;exact .ret ⟨hv.1,hv.2,hx.2,z?⟩;refine .bind hn λw hw=>?_;exact .ret ⟨hv.1,hv.2,hx.2,λ_=>u?⟩
namespace Xr
theorem gi{α:Type}{l:V α}{k:Z}{x:α}(h:l[k]? =X x):qk l (k:Y)=X x:=by have a:=(qK h).1;rw[xQ a];rw[yc a]at h;exact h
theorem gl{α:Type}{l:V α}{k:Z}(h:k<l.length): ∃x,l[k]? =X x:=⟨l[k],yc h⟩
theorem ws{k:Z}(h:k<2^60):q?.wrap ((k:Y)+1)=((k+1:Z):Y):=sj o?
def xK(a b:qg):Prop:=b.qG<=a.qG/\a.to<=b.to
instance(a b:qg):Decidable (xK a b):=by unfold xK;infer_instance
theorem i7(a b:qg):ja a b=X (decide (xK a b)):=by unfold ja xK;by_cases h:b.qG<=a.qG;rw[N (by simpa using h)];simp[h];rw[R (by simpa using h)];simp[h]
theorem zx{α:Type}{l:V α}{k:Z}{x:α}{r:V α}(h:l.drop k=x::r):l[k]? =X x/\l.drop (k+1)=r/\k<l.length:=by
 have a:k<l.length:=by rcases Z.lt_or_ge k l.length with h1|h1;exact h1;rw[V.drop_eq_nil_of_le h1]at h;cases h
 rw[V.drop_eq_getElem_cons a]at h;simp only[V.cons.injEq]at h;exact⟨by rw[yc a,h.1],h.2,a⟩
theorem zd{α:Type}{l:V α}{k:Z}(h:l.drop k=[]):l.length<=k:=by simpa using h
def isN(n:Y)(x:C):J:= !x.qR&&x.n==n
def lx(n:Y)(l:V C):V qg:=(l.filter (isN n)).map (·.span)
def yY(n:Y)(is:V E):V qg:=is.flatMap λi=>lx n i.stops.l
def many(is:V E):Z:=(is.map λi=>i.stops.l.length).sum
theorem WM(n:Y)(l:V C):(lx n l).length<=l.length:=by unfold lx;rw[V.length_map];exact V.length_filter_le _ _
theorem spans_L2(n:Y)(is:Sl E)(a:Z)(i:E)(hi:is.l[a]? =X i)(hl:i.stops.l.length<=2^20): ∀(r:V C)(k:Z)(out:V qg),i.stops.l.drop k=r->out.length+r.length<=2^29->
  vQ (n,is,(a:Y),(k:Y),out)=X (out++lx n r):=by intro r;induction r with|nil=>intro k out h _;have:=zd h;rw[vQ.eq_1,gi hi];simp only[zl,qM];rw[R v?];simp[lx]|cons x r c=>intro k out h e;obtain⟨f,d,h3⟩:=zx h;simp only[b?]at e;rw[vQ.eq_1,gi hi];simp only[zl,qM];rw[N v?,gi f,ws o?];simp only[qM];have e1:=c (k+1) out d o?;have e2:=c (k+1) (out++[x.span]) d v?;generalize ((k+1:Z):Y)=q at e1 e2 |-;cases b:x.qR with|true=>simp[e1,lx,isN,b]|false=>by_cases hn:x.n=n;simp[e2,lx,isN,b,hn,qC (show out.length+1<=2^30 by omega) (show 16<=2^16 by omega)];simp[e1,lx,isN,b,hn]
theorem spans_L0(n:Y)(is:Sl E)(e: ∀i∈is.l,i.stops.l.length<=2^20)(hL:is.l.length<=2^20): ∀(r:V E)(a:Z)(out:V qg),is.l.drop a=r->out.length+many r<=2^29->
  bq (n,is,(a:Y),out)=X (out++yY n r):=by intro r;induction r with|nil=>intro a out h _;have:=zd h;rw[bq.eq_1,R v?];simp[yY]|cons i r c=>intro a out h d;obtain⟨b,f,h3⟩:=zx h;have hi:=zj b;simp only[many,e?,g!]at d;have hs:=WM n i.stops.l;rw[bq.eq_1,N v?,show(0:Y)=((0:Z):Y)from rfl,spans_L2 n is a i b (e i hi) i.stops.l 0 out rfl o?,ws o?];simp only[zl,qM];rw[c (a+1) _ f (by simp only[many,p?];omega)];simp[yY]
theorem XT{is:V E}{B:Z}(h: ∀i∈is,i.stops.l.length<=B):many is<=is.length*B:=by induction is with|nil=>simp[many]|cons i is a=>have h1:=h i z?;have h2:=a λj b=>h j (by simp[b]);simp only[many,e?,g!,b?]at*;rw[T?];omega
theorem KV(n:Y)(is:Sl E)(a: ∀i∈is.l,i.stops.l.length<=2^12)(b:is.l.length<=2^12):vY n is=X ⟨(yY n is.l).isEmpty,yY n is.l⟩:=by have h1:=XT a;have h2:is.l.length*2^12<=2^12*2^12:=w_ b (ke _);unfold vY;rw[show (0:Y)=((0:Z):Y)from rfl,spans_L0 n is (λi hi=>by have:=a i hi;omega) o? is.l 0 [] rfl v?];simp
theorem E1(s:qg)(l:Sl qg)(hL:l.l.length<2^60): ∀(r:V qg)(k:Z),l.l.drop k=r->mh (l,(k:Y),s)=X (if r.any (λp=>decide (xK s p))=K then .inl K else .inr ()):=by intro r;induction r with|nil=>intro k h;have:=zd h;rw[mh.eq_1,R v?];simp|cons p r a=>intro k h;obtain⟨c,b,h3⟩:=zx h;rw[mh.eq_1,N v?,gi c,ws o?];simp only[zl,qM,i7,a (k+1) b];by_cases e:xK s p<;>simp[e]
def lI(s:qg)(l:V qg):Prop:= ∃p∈l,xK s p
theorem lies_ok(s:qg)(l:Sl qg)(a:l.l.length<2^60): ∃t:J,mg s l=X t/\(t=K↔lI s l.l):=by unfold mg;rw[show (0:Y)=((0:Z):Y)from rfl,E1 s l a l.l 0 rfl];simp only[zl,qM,lI];cases h:l.l.any (λp=>decide (xK s p))with|true=>exact⟨K,rfl,by simpa using h⟩|false=>exact⟨M,rfl,by simpa using h⟩
def Yo(s:qb)(qp:qg)(a k:Y):Prop:= ∃(c b :Z)(i:E)(x:C),a=c /\k=b /\s.insts.l[c]? =X i/\i.stops.l[b]? =X x/\x.n=s.cur/\x.qR=M/\xK qp x.span
theorem owner_L2(s:qb)(qp:qg)(a:Z)(i:E)(hi:s.insts.l[a]? =X i)(hl:i.stops.l.length<2^60): ∀(r:V C)(k:Z),i.stops.l.drop k=r->
  qL (yS ((a:Y),(k:Y),s,qp)) (λv=>v= .inr ()\/ ∃j,v= .inl j/\Yo s qp a j):=by intro r;induction r with|nil=>intro k h;have:=zd h;rw[yS.eq_1,gi hi];simp only[zl,qM];rw[R v?];exact .ret (.inl rfl)|cons x r d=>intro k h;obtain⟨c,f,h3⟩:=zx h;rw[yS.eq_1,gi hi];simp only[zl,qM];rw[N v?,gi c,ws o?];simp only[qM,i7];have b:=d (k+1) f;by_cases e:((x.n==s.cur)&&(!x.qR))=K;rw[N e];simp only[xn,beq_iff_eq,b_]at e;by_cases w:xK qp x.span;rw[N (by simpa using w)];exact .ret (.inr ⟨_,rfl,a,k,i,x,rfl,rfl,hi,c,e.1,e.2,w⟩);rw[R (by simpa using w)];exact b;rw[R e];exact b
def jY(s:qb):Prop:=s.insts.l.length<=2^12/\ ∀i∈s.insts.l,i.stops.l.length<=2^12
theorem owner_L0(s:qb)(qp:qg)(hs:jY s): ∀(r:V E)(a:Z),s.insts.l.drop a=r->
  qL (bx ((a:Y),s,qp)) (λv=>v= .inr ()\/ ∃j k,v= .inl (j,k)/\Yo s qp j k):=by intro r;have tv:=hs.1;induction r with|nil=>intro a h;have:=zd h;rw[bx.eq_1,R v?];exact .ret (.inl rfl)|cons i r c=>intro a h;obtain⟨b,f,h3⟩:=zx h;have hi:=hs.2 i (zj b);rw[bx.eq_1,N v?,ws o?];refine .bind (owner_L2 s qp a i b o? i.stops.l 0 rfl) λv d=>?_;rcases d with rfl|⟨j,rfl,e⟩;exact c (a+1) f;exact .ret (.inr ⟨_,_,rfl,e⟩)
theorem WI(s:qb)(qp:qg)(hs:jY s):qL (nK s qp) (λv=>v=(-1,-1)\/Yo s qp v.1 v.2):=by unfold nK;refine .bind (owner_L0 s qp hs s.insts.l 0 rfl) λv a=>?_;rcases a with rfl|⟨j,k,rfl,b⟩;exact .ret (.inl rfl);exact .ret (.inr b)
theorem Yo.nat{s:qb}{qp:qg}{a k:Y}(h:Yo s qp a k):0<=a/\0<=k:=by obtain⟨a',k',_,_,rfl,rfl,_⟩:=h;omega
theorem stays_L0(s:qb)(es:Sl qf)(hs:jY s)(he:es.l.length<2^60): ∀(r:V qf)(k:Z),es.l.drop k=r->
  qL (bA (es,(k:Y),s)) (λv=>(∃ b,v= .inl b/\b=M)\/v= .inr ()/\ ∀e∈r,∃ a k,nK s e.span=X (a,k)/\Yo s e.span a k):=by intro r;induction r with|nil=>intro k h;have:=zd h;rw[bA.eq_1,R v?];exact .ret (.inr ⟨rfl,z?⟩)|cons e r f=>intro k h;obtain⟨m,j,h3⟩:=zx h;rw[bA.eq_1,N v?,gi m,ws o?];obtain⟨v,d,hq⟩:=WI s e.span hs;refine .go rfl ?_;refine .go d ?_;rcases hq with rfl|hq;rw[N (by decide)];exact .ret (.inl ⟨_,rfl,rfl⟩);have:=hq.nat;rw[R v?];refine(f (k+1) j).mono λw c=>?_;rcases c with c|⟨i,g⟩;exact .inl c;refine .inr ⟨i,λn HU=>?_⟩;rcases V.mem_cons.1 HU with rfl|HU;exact⟨_,_,d,hq⟩;exact g n HU
theorem q0r(s:qb)(es:Sl qf)(hs:jY s)(d:es.l.length<2^60):qL (aM s es) (λb=>b=K-> ∀e∈es.l,∃ a k,nK s e.span=X (a,k)/\Yo s e.span a k):=by unfold aM;refine .bind (stays_L0 s es hs d es.l 0 rfl) λv c=>?_;rcases c with ⟨b,rfl,rfl⟩|⟨rfl,c⟩;exact .ret z?;exact .ret λ_=>c
end Xr
namespace Xr
abbrev TS:=qE
def strOf(x:TS):J5:=(x.span.qG,x.span.to,x.up)
structure uX (e:qf) (n:Y):Prop where
 a0:0<=e.span.qG
 ab:e.span.qG<=e.span.to
 bn:e.span.to<=n
 len:(e.text.length:Y)<=2^40
 nn:n<=2^40
theorem DI(e:qf)(n:Y)(a:uX e n)(qp:Y)(h0:0<=qp)(h1:qp<=n)(right:J):oc qp right e=X (mv e.span.qG e.span.to e.text.length right qp):=by
 have:=a.a0;have:=a.ab;have:=a.bn;have:=a.len;have:=a.nn;unfold oc mv;rw[qy (n:=qp+(e.text.length:Y)) o? o?,qy (n:=e.span.to-e.span.qG) o? o?,qy (n:=e.span.qG+(e.text.length:Y)) o? o?,
  qy (n:=qp+(e.text.length:Y)-(e.span.to-e.span.qG)) o? o?]
 by_cases b:qp<e.span.qG;simp[b];by_cases c:qp>e.span.to;simp[b,c];omega;cases right<;>simp[b,c]
theorem Rl(e:qf)(n:Y)(a:uX e n)(p:qg)(h0:0<=p.qG)(h1:p.qG<=p.to)(h2:p.to<=n)(side:Y):cU p side e=X (Dz e.span.qG e.span.to e.text.length side p):=by
 have:=a.a0;have:=a.ab;have:=a.bn;have:=a.len;have:=a.nn;unfold cU Dz;by_cases h:side=0;rw[qy (n:=p.to+(e.text.length:Y)) o? o?,qy (n:=e.span.to-e.span.qG) o? o?,qy (n:=p.to+(e.text.length:Y)-(e.span.to-e.span.qG)) o? o?];simp[h];omega;rw[R (by simpa using h),DI e n a p.qG o? o?,DI e n a p.to o? o?,R h];have:(side==3)=decide (side=3):=by by_cases h:side=3<;>simp[h]
 rw[this];rfl
theorem row_L2(s:qb)(a:Z)(i:E)(hi:s.insts.l[a]? =X i)(b:Z)(hb:b<=2^26)(hl:i.stops.l.length<=2^12)(hu: ∀x∈i.stops.l,-1<=x.up/\x.up<=2^20)(z:V TS):
  ∀(r:V C)(k:Z)(l:V TS),i.stops.l.drop k=r->l.length+r.length<=2^29->
  ∃m:V TS,pP ((a:Y),(b:Y),(k:Y),s,l,z)=X (l++m)/\m.map strOf=r.map (λx=>(x.span.qG,x.span.to,(b:Y)+1+x.up)):=by intro r;induction r with|nil=>intro k l h _;have:=zd h;rw[pP.eq_1,gi hi];simp only[zl,qM];rw[R v?];exact⟨[],z?,rfl⟩|cons x r d=>intro k l h e;obtain⟨c,f,h3⟩:=zx h;have hx:=hu x (zj c);simp only[b?]at e;rw[pP.eq_1,gi hi];simp only[zl,qM];rw[N v?,gi c,ws o?];simp only[qM];rw[qy (n:=(b:Y)+1) o? o?,qy (n:=(b:Y)+1+x.up) o? o?];rw[N qC];obtain⟨m,e1,e2⟩:=d (k+1) (l++[qE.mk x.span ((b:Y)+1+x.up)]) f v?;exact⟨qE.mk x.span ((b:Y)+1+x.up)::m,by rw[e1];simp,by simp[e2,strOf]⟩
theorem row_L0(s:qb)(hs:jY s)(hu: ∀i∈s.insts.l,∀ x∈i.stops.l,-1<=x.up/\x.up<=2^20): ∀(r:V E)(a:Z)(l:V TS),s.insts.l.drop a=r->l.length+r.length+many r<=2^25->
  ∃m:V TS,pO ((a:Y),s,l)=X (l++m)/\m.map strOf=mA l.length r:=by intro r;have tv:=hs.1;induction r with|nil=>intro a l h _;have:=zd h;rw[pO.eq_1,R v?];exact⟨[],z?,rfl⟩|cons i r e=>(intro a l h f;obtain⟨b,g,h3⟩:=zx h;have c:=zj b;have hi:=hs.2 i c;simp only[b?,many,e?,g!]at f;rw[pO.eq_1,N v?,gi b,ws o?];simp only[zl,qM];rw[N qC];obtain⟨m,e1,e2⟩:=row_L2 s a i b l.length o? hi (hu i c) [qE.mk i.span (-1)] i.stops.l 0 (l++[qE.mk i.span (-1)]) rfl v?;rw[show ((0:Z):Y)=0 from rfl]at e1;rw[e1];simp only[qM];have j:m.length=i.stops.l.length:=by simpa using congrArg V.length e2);obtain⟨d,f1,f2⟩:=e (a+1) (l++[qE.mk i.span (-1)]++m) g (by simp only[many,p?,u!];omega);refine⟨qE.mk i.span (-1)::(m++d),by rw[f1];simp, ?_⟩;simp only[e?,V.map_append,e2,f2,mA,oJ,p?,u!,j,strOf,V.cons_append]
theorem row_ok(s:qb)(hs:jY s)(hu: ∀i∈s.insts.l,∀ x∈i.stops.l,-1<=x.up/\x.up<=2^20): ∃l:V TS,QB s=X ⟨l.isEmpty,l⟩/\l.map strOf=mA 0 s.insts.l:=by have h1:=XT hs.2;have h2:s.insts.l.length*2^12<=2^12*2^12:=w_ hs.1 (ke _);have h3:=hs.1;obtain⟨m,e1,e2⟩:=row_L0 s hs hu s.insts.l 0 [] rfl v?;refine⟨m, ?_,by simpa using e2⟩;unfold QB;rw[show (0:Y)=((0:Z):Y)from rfl,e1];simp
def zO(is:V E)(a:Z):Z:=((is.take a).map λi=>1+i.stops.l.length).sum
theorem Rw(s:qb)(hs:jY s)(inst:Z)(e8:inst<=s.insts.l.length): ∀(d a qp:Z),a+d=inst->qp+d*(2^12+1)<=2^40->
  bC ((inst:Y),(qp:Y),(a:Y),s)=X ((qp+(zO s.insts.l inst-zO s.insts.l a):Z):Y):=by have tv:=hs.1;intro d;induction d with|zero=>intro a qp h _;obtain rfl:a=inst:=o?;rw[bC.eq_1,R z?];simp|succ d e=>(intro a qp h f;have c:a<s.insts.l.length:=o?;have b:s.insts.l[a]? =X s.insts.l[a]:=yc c;have j:=hs.2 _ (V.getElem_mem c);generalize s.insts.l[a]=i at b j;rw[T?]at f;rw[bC.eq_1,N v?,gi b,ws (k:=a) o?];simp only[zl,qM];rw[qy (n:=(qp:Y)+1) o? o?,qy (n:=(qp:Y)+1+(i.stops.l.length:Y)) o? o?];rw[show (qp:Y)+1+(i.stops.l.length:Y)=((qp+1+i.stops.l.length:Z):Y) by omega,e (a+1) (qp+1+i.stops.l.length) o? o?];have GR:zO s.insts.l (a+1)=zO s.insts.l a+(1+i.stops.l.length):=by unfold zO;rw[V.take_add_one,b];simp);(have hb2:zO s.insts.l (a+1)<=zO s.insts.l inst:=by (unfold zO;have:(s.insts.l.take (a+1)).map (λi=>1+i.stops.l.length)=((s.insts.l.take inst).map (λi=>1+i.stops.l.length)).take (a+1):=by rw[<- V.map_take,V.take_take,Z.min_eq_left o?]);rw[this];generalize (s.insts.l.take inst).map (λi=>1+i.stops.l.length)=L;have:=V.take_append_drop (a+1) L;have g:=congrArg V.sum this;rw[V.sum_append]at g;omega);congr 2;omega
theorem Rx(s:qb)(hs:jY s)(qp:qg)(a k:Y)(h:(a= -1/\k= -1)\/Yo s qp a k): ∃o:Y,rQ s a k=X o/\((a= -1/\o= -1)\/ ∃(b c :Z),a=b /\k=c /\o=((zO s.insts.l b +1+c :Z):Y)):=by
 unfold rQ;rcases h with ⟨rfl,rfl⟩|⟨b,c,i,x,rfl,rfl,d,e,_⟩;rw[N z?];exact⟨-1,rfl,.inl ⟨rfl,rfl⟩⟩
 have GQ:=(qK d).1;have s9:=(qK e).1;have tv:=hs.1;have D9:=hs.2 i (zj d);rw[R v?,gi d];simp only[zl,qM];rw[R v?,ws o?,show(0:Y)=((0:Z):Y)from rfl,Rw s hs b o? b 0 (c +1) o? (by
  have:b *(2^12+1)<=2^12*(2^12+1):=w_ o? (ke _)
  omega)]
 refine⟨_,rfl,.inr ⟨b,c,rfl,rfl, ?_⟩⟩;have:zO s.insts.l 0=0:=by simp[zO]
 rw[this];congr 1;omega
end Xr
namespace Xr
inductive lY (U:Z->Y) (c:Z):Z->Prop
 |self:lY U c c
 |up (x p:Z):lY U c x->U x=p->lY U c p
theorem Gp{U:Z->Y}{c r:Z}(h:lY U c r):r=c\/ ∃p:Z,U c=p/\lY U p r:=by induction h with|self=>exact .inl rfl|up x p hx a d=>rcases d with rfl|⟨b,f,e⟩;exact .inr ⟨p,a,.self⟩;exact .inr ⟨b,f,.up x p e a⟩
theorem Gq{U:Z->Y}{c p r:Z}(d:U c=p)(h:lY U p r):lY U c r:=by induction h with|self=>exact .up c p .self d|up x q _ b a=>exact .up x q a b
section
variable {m:Z} {F W U:Z->Y} {n:Y}
theorem Wc(a:Row m F W U n){c q:Z}(hc:c<m)(h:lY U c q):q<=c:=by induction h with|self=>exact ke _|up x p _ hp ih=>have:=a.up x o?;omega
theorem T2(a:Row m F W U n){c q:Z}(f:c<m)(h:lY U c q): ∀y,q<y->y<=c->(q:Y)<=U y:=by induction h with|self=>intro y g b;omega|up x p e hp d=>intro y g b;have hxc:=Wc a f e;have OM:=a.up x o?;rcases n_ y x with h3|h3|h3;have:=a.pre x o? y h3 o?;omega;subst h3;omega;have:=d y h3 b;omega
theorem anc_has(e:Row m F W U n){a b:Y}{c q:Z}(i:c<m)(d:F c<=a/\b<=W c)(h:lY U c q):F q<=a/\b<=W q:=by induction h with|self=>exact d|up x p f g ih=>have hxc:=Wc e i f;have:=e.nest x o? p g;omega
def PF(F W:Z->Y)(a b:Y)(r:Z):Prop:=F r<a/\b<W r\/a<b/\F r<=a/\b<=W r
structure HI (m:Z) (F W U:Z->Y) (a b:Y) (o r:Z) (h i:V J):Prop where
 hl:h.length=m
 il:i.length=m
 hs: ∀y,h[y]? =X K->lY U o y\/(o<y/\y<r/\(o:Y)<=U y/\(∀ p:Z,U y=p->h[p]? =X K)/\PF F W a b y)
 anc: ∀y,lY U o y->h[y]? =X K
 is: ∀y,i[y]? =X K->o<y
 hi: ∀y,h[y]? =X K->o<y->i[y]? =X K
 bw: ∀y,y<r->o<y->(o:Y)<=U y->(∀ p:Z,U y=p->h[p]? =X K)->PF F W a b y->h[y]? =X K
structure HE (m:Z) (F W U:Z->Y) (a b:Y) (o:Z) (H:Z->Prop):Prop where
 fw: ∀y,H y->lY U o y\/(o<y/\(o:Y)<=U y/\(∀ p:Z,U y=p->H p)/\PF F W a b y)
 anc: ∀y,lY U o y->H y
 bw: ∀y,y<m->o<y->(o:Y)<=U y->(∀ p:Z,U y=p->H p)->PF F W a b y->H y
theorem HI.hold(d:Row m F W U n){a b:Y}{o:Z}(j:o<m)(s:F o<=a/\b<=W o)(fZ:a<=b){h i:V J}{r:Z}(H:HI m F W U a b o r h i):PB m F W U (λy=>h[y]? =X K) a b:=by refine⟨?_, ?_, ?_⟩;intro y l e p t;rcases H.hs y e with c|⟨_,_,_,c,_⟩;exact H.anc p (.up y p c t);exact c p t;intro y l e;rcases H.hs y e with c|⟨_,_,_,_,c⟩;exact anc_has d j s c;unfold PF at c;omega;intro y l q f hu e c;rcases H.hs y c with u|⟨u,_,h4,_,v⟩;have k:=Wc d j u;rcases H.hs q e with g|⟨g,_⟩;have:=T2 d j g y f k;have:=d.up q o?;omega;omega;have hq:=d.up q o?;rcases H.hs q e with g|⟨_,_,_,_,g⟩;have:=Wc d j g;omega;have:=d.C3 y l q f hu;unfold PF at v g;omega
end
theorem jo{α:Type}(l:V α)(k:Z)(v:α)(j:Z):(l.set k v)[j]? =if k=j/\j<l.length then X v else l[j]? :=by rw[V.getElem?_set];by_cases h:k=j;subst h;by_cases a:k<l.length;simp[a];simp[a];simp[h]
section
variable (L:V TS) (e:qf) (deep:J) (ow:Y)
theorem hold_L0{n:Int}(hR:Row (L.map strOf).length (Fof (L.map strOf)) (Tof (L.map strOf)) (Iv (L.map strOf)) n)(z:Bool)(i_:List Bool): ∀(c:Nat)(h:List Bool),c<L.length->h.length=L.length->
  ∃h' :List Bool,gx (⟨z,L⟩,ow,deep,(c:Int),e,h,i_)=some h' /\h'.length=L.length/\ ∀y,h'[y]? =some true↔h[y]? =some true\/lY (Iv (L.map strOf)) c y:=by intro c;induction c using Nat.strongRecOn with|_ c ih=>(intro h hc hl;have hx:L[c]? =some L[c]:=yc hc;generalize L[c]=x at hx;obtain⟨w,hw⟩:=gl (l:=h) (k:=c) o?;have hu:=hR.up c (by simpa using hc);have OM:Iv (L.map strOf) c=x.up:=by (have:(L.map strOf)[c]? =some (strOf x):=by simp[hx]);rw[(lM this).2.2];rfl);(have sa: ∀y,(h.set c true)[y]? =some true↔h[y]? =some true\/y=c:=by intro y;rw[jo];by_cases e1:c=y;subst e1;simp[hl,hc];simp[e1];omega);rw[gx.eq_1,if_pos z?,gi hw,gi hx];simp only[zl,qM,Int.toNat_natCast];by_cases hp:0<=x.up;obtain⟨p,hp⟩: ∃p:Nat,x.up=p:=⟨x.up.toNat,o?⟩;obtain⟨h',g1,g2,g3⟩:=ih p o? (h.set c true) o? (by simp[hl]);refine⟨h',by rw[hp,g1],g2,λy=>?_⟩;rw[g3,sa];constructor;rintro((k|rfl)|k);exact .inl k;exact .inr .self;exact .inr (Gq (by rw[OM,hp]) k);rintro(k|k);exact .inl (.inl k);rcases Gp k with rfl|⟨q,hq,k⟩;exact .inl (.inr rfl);obtain rfl:q=p:=o?;exact .inr k;rw[gx.eq_1,if_neg (by simpa using hp)];refine⟨_,rfl,by simp[hl],λy=>?_⟩;rw[sa];constructor;rintro(k|rfl);exact .inl k;exact .inr .self;rintro(k|k);exact .inl k;rcases Gp k with rfl|⟨q,hq,_⟩;exact .inr rfl;omega
def inW(o:Y)(x:TS)(a:V J):J:=decide (0<=x.up)&&(decide (x.up=o) || (a.getD x.up.toNat M))
def Sx(e:qf)(x:TS):J:=(decide (x.span.qG<e.span.qG)&&decide (x.span.to>e.span.to)) || (decide (e.span.qG<e.span.to)&&decide (xK e.span x.span))
def Uc(o:Y)(e:qf)(x:TS)(h a:V J):J:=inW o x a&&(h.getD x.up.toNat M&&Sx e x)
theorem OI(z:J)(m:0<=ow)(r:Z)(x:TS)(j:L[r]? =X x)(n:r<2^60)(hu:x.up<(r:Z))(h a:V J)(hl:h.length=L.length)(hi:a.length=L.length):
  qJ (⟨z,L⟩,ow,K,(r:Y),e,h,a)=qJ (⟨z,L⟩,ow,K,((r+1:Z):Y),e,h.set r (Uc ow e x h a),a.set r (inW ow x a)):=by have y:=(qK j).1;obtain⟨w1,u⟩:=gl (l:=h) (k:=r) o?;obtain⟨w2,w⟩:=gl (l:=a) (k:=r) o?;have gs: ∀v,qk (a.set r v) (r:Y)=X v:=λv=>gi (by rw[jo];simp[hi,y]);rw[qJ.eq_1,N (by simp[m];omega),gi j,ws n,gi u,gi w];simp only[zl,qM,gs,i7,X?];generalize ((r+1:Z):Y)=q;by_cases i:0<=x.up;(obtain⟨p,d⟩: ∃p:Z,x.up=p:=⟨x.up.toNat,o?⟩;obtain⟨hb,c⟩:=gl (l:=h) (k:=p) o?;obtain⟨ib,b⟩:=gl (l:=a) (k:=p) o?;have d1:h.getD x.up.toNat M=hb:=by rw[d];simp[c]);(have d2:a.getD x.up.toNat M=ib:=by rw[d];simp[b]);(have e1:qk h x.up=X hb:=by rw[d];exact gi c);(have e2:qk a x.up=X ib:=by rw[d];exact gi b);simp only[Uc,inW,Sx,d1,d2,e1,e2,qM];by_cases t:x.up=ow<;>by_cases g:x.span.qG<e.span.qG<;>by_cases f:e.span.qG<e.span.to<;>by_cases s:x.span.to>e.span.to<;>by_cases o:xK e.span x.span<;>cases hb<;>cases ib<;>simp[i,t,g,f,s,o,m];simp only[Uc,inW,i,decide_false,J.false_and];by_cases g:x.span.qG<e.span.qG<;>by_cases f:e.span.qG<e.span.to<;>simp[i,g,f]
end
end Xr
namespace Xr
abbrev FL(L:V TS):=Fof (L.map strOf)
abbrev TL(L:V TS):=Tof (L.map strOf)
abbrev UL(L:V TS):=Iv (L.map strOf)
abbrev RowL(L:V TS)(n:Y):=Row (L.map strOf).length (FL L) (TL L) (UL L) n
section
variable (L:V TS) (e:qf) {n:Y}
variable (hR:RowL L n) (hLl:L.length<2^30)
theorem at_L{L:V TS}{r:Z}{x:TS}(h:L[r]? =X x):FL L r=x.span.qG/\TL L r=x.span.to/\UL L r=x.up:=by
 have:(L.map strOf)[r]? =X (strOf x):=by simp[h]
 exact lM this
theorem HI.next(hR:RowL L n)(he:uX e n){o r:Nat}(hor:o<r){x:TS}(hx:L[r]? =some x){h i_:List Bool}(H:HI L.length (FL L) (TL L) (UL L) e.span.qG e.span.to o r h i_):
  HI L.length (FL L) (TL L) (UL L) e.span.qG e.span.to o (r+1) (h.set r (Uc o e x h i_)) (i_.set r (inW o x i_)):=by
 have AL:=(qK hx).1;obtain⟨a1,a2,a3⟩:=at_L hx;have hu:=hR.up r (by simpa using AL);have hnot: ¬lY (UL L) o r:=λk=>by have:=Wc hR (by simpa using(show o<L.length by omega)) k;omega
 have e8:inW o x i_=true->(o:Int)<=x.up:=by intro k;simp only[inW,xn,Bool.or_eq_true,decide_eq_true_eq]at k;rcases k.2 with k1|k1;omega;(have:i_[x.up.toNat]? =some true:=by cases h1:i_[x.up.toNat]? with|none=>simp[h1]at k1|some v=>simp[h1]at k1;rw[k1]);have:=H.is _ this;omega
 have lG:=H.il;have hhl:=H.hl;refine⟨by simp[H.hl],by simp[H.il], ?_, ?_, ?_, ?_, ?_⟩;intro y hy;rw[jo]at hy;split at hy;rename_i c;obtain⟨rfl,_⟩:=c;right;simp only[wO]at hy;simp only[Uc,xn]at hy;obtain⟨k1,k2,k3⟩:=hy;have k4:=e8 k1;refine⟨hor,o?,o?, ?_, ?_⟩;(intro p hp;have hpx:x.up=p:=o?;have hpr:p<r:=o?;rw[jo,if_neg o?];rw[hpx]at k2;cases h1:h[p]? with|none=>simp[h1]at k2|some v=>simp[h1]at k2;rw[k2]);simp only[Sx,Bool.or_eq_true,xn,decide_eq_true_eq]at k3;unfold xK at k3;unfold PF;rw[a1,a2];omega;rcases H.hs y hy with k|⟨k1,k2,k3,k4,k5⟩;exact .inl k;refine .inr ⟨k1,o?,k3,λp hp=>?_,k5⟩;have:=k4 p hp;rw[jo];have ee:=(qK this).1;have W1:=hR.up y (by simp;have:=(qK hy).1;have:=H.hl;omega);rw[if_neg o?];exact this;intro y hy;rw[jo,if_neg (λc=>hnot (by rw[c.1];exact hy))];exact H.anc y hy;intro y hy;rw[jo]at hy;split at hy;rename_i c;omega;exact H.is y hy;intro y hy hoy;rw[jo]at hy |-;split at hy;rename_i c;obtain⟨rfl,_⟩:=c;simp only[wO,Uc,xn]at hy;rw[if_pos ⟨rfl,o?⟩,hy.1];rename_i c;rw[if_neg (λc2=>c ⟨c2.1,o?⟩)];exact H.hi y hy hoy;intro y hyr hoy huy hp hw;have hpp: ∀p:Nat,UL L y=p->p<y->h[p]? =some true:=λp h1 h2=>by have:=hp p h1;rwa[jo,if_neg o?]at this
 have hyu:=hR.up y v?;obtain⟨p,hpe⟩: ∃p:Nat,UL L y=p:=⟨(UL L y).toNat,o?⟩;have hpv:=hpp p hpe o?;by_cases c:y=r;(subst c;rw[jo,if_pos ⟨rfl,o?⟩];have hxp:x.up.toNat=p:=o?;have k1:inW o x i_=true:=by simp only[inW,xn,Bool.or_eq_true,decide_eq_true_eq];refine⟨o?, ?_⟩;by_cases c1:x.up=(o:Int);exact .inl c1;right;have:=H.hi p hpv o?;rw[hxp];simp[this]);(have k2:h.getD x.up.toNat false=true:=by rw[hxp];simp[hpv]);(have k3:Sx e x=true:=by simp only[Sx,Bool.or_eq_true,xn,decide_eq_true_eq];unfold PF at hw;rw[a1,a2]at hw;unfold xK;omega);simp only[Uc,k1,k2,k3,Bool.and_self];rw[jo,if_neg o?];exact H.bw y o? hoy huy (λp' h1=>hpp p' h1 o?) hw
include hR hLl in
theorem hold_L2(j:uX e n)(z:J)(o:Z): ∀(d r:Z)(h a:V J),r+d=L.length->o<r->HI L.length (FL L) (TL L) (UL L) e.span.qG e.span.to o r h a->
  ∃f i',qJ (⟨z,L⟩,(o:Y),K,(r:Y),e,h,a)=X (f,i')/\HI L.length (FL L) (TL L) (UL L) e.span.qG e.span.to o L.length f i' :=by intro d;induction d with|zero=>intro r h a i _ H;obtain rfl:r=L.length:=o?;rw[qJ.eq_1,R z?];exact⟨h,a,rfl,H⟩|succ d g=>intro r h a i c H;obtain⟨x,b⟩:=gl (l:=L) (k:=r) o?;have hu:=hR.up r v?;obtain⟨_,_,ha⟩:=at_L b;rw[OI L e (o:Y) z o? r x b o? o? h a H.hl H.il];exact g (r+1) _ _ o? o? (HI.next L e hR j c b H)
include hR hLl in
theorem hold_ok(w:uX e n)(z deep:J)(i:Y)(p:i= -1\/ ∃o:Z,i=o/\o<L.length/\FL L o<=e.span.qG/\e.span.to<=TL L o):
  ∃h:V J,o4 ⟨z,L⟩ i e deep=X ⟨M,h⟩/\h.length=L.length/\PB (L.map strOf).length (FL L) (TL L) (UL L) (λy=>h[y]? =X K) e.span.qG e.span.to/\(∀ o:Z,i=o->h[o]? =X K)/\
   (i= -1-> ∀y:Z,h[y]? ≠X K)/\(deep=K-> ∀o:Z,i=o->HE L.length (FL L) (TL L) (UL L) e.span.qG e.span.to o (λy=>h[y]? =X K)):=by
 have B:=w.ab;have l: ∀(k:Z),(f? L.length M)[k]? ≠X K:=by
  intro k;rw[V.getElem?_replicate];split<;>simp
 unfold o4;rw[N z?,N (qC v? o?),N z?,N (qC v? o?)];simp only[X?];rcases p with rfl|⟨o,rfl,g,t⟩
 ·rw[gx.eq_1,R z?];simp only[zl,qM];rw[qJ.eq_1,R z?];refine⟨_,rfl,z?,⟨λr v s=>I s (l r),λr v s=>I s (l r),λr v q hq hu s=>I s (l q)⟩,λo p=>o?,λ_=>l,λ_ o p=>o?⟩
 obtain⟨u,g1,g2,g3⟩:=hold_L0 L e deep (o:Y) hR z (f? L.length M) o (f? L.length M) g z?;rw[g1];simp only[zl,qM];have H:HI L.length (FL L) (TL L) (UL L) e.span.qG e.span.to o (o+1) u (f? L.length M):=by
  have x: ∀y:Z,u[y]? =X K->lY (UL L) o y:=λy b=>((g3 y).1 b).resolve_left (l y);refine⟨g2,z?,λy b=> .inl (x y b),λy b=>(g3 y).2 (.inr b),λy b=>I b (l y),λy b p=>?_,λy b p=>o?⟩;have:=Wc hR (by simpa using g) (x y b);omega
 have f:o<(L.map strOf).length:=by simpa using g
 cases deep with
 |false=>
  rw[qJ.eq_1,R z?];have:=HI.hold hR f t B (by simpa using H);exact⟨u,rfl,g2,this,λo' m =>by
   have e1:o=o' :=o?
   rw[<- e1]
   exact H.anc o .self,λc=>o?,λc=>by cases c⟩
 |true=>
  obtain⟨P,i',F,j⟩:=hold_L2 L e hR hLl w z o (L.length-(o+1)) (o+1) u _ o? o? H;rw[ws o?,F];have:=HI.hold hR f t B (by simpa using j);exact⟨P,rfl,j.hl,this,λo' m =>by
   have e1:o=o' :=o?
   rw[<- e1]
   exact j.anc o .self,λc=>o?,λ_ o' m =>by
   obtain rfl:o=o' :=o?
   exact⟨λy b=>(j.hs y b).imp id λ⟨a,_,c,d,e⟩=>⟨a,c,d,e⟩,j.anc,λy b=>j.bw y b⟩⟩
theorem last_L0(z:J)(h:V J)(hl:h.length=L.length)(hLl:L.length<2^30): ∀(d r:Z)(last:Y),r+d=L.length->((last= -1/\ ∀y,y<r->h[y]? ≠X K)\/ ∃q:Z,last=q/\h[q]? =X K/\ ∀y,y<r->h[y]? =X K->y<=q)->
  ∃a :Y,yU (⟨z,L⟩,⟨M,h⟩,last,(r:Y),e)=X a /\((a = -1/\ ∀y:Z,h[y]? ≠X K)\/ ∃q:Z,a =q/\h[q]? =X K/\ ∀y:Z,h[y]? =X K->y<=q):=by intro d;induction d with|zero=>(intro r last p m;obtain rfl:r=L.length:=o?;rw[yU.eq_1,R z?];have lt: ∀y:Z,h[y]? =X K->y<L.length:=λy b=>by have:=(qK b).1;omega);refine⟨last,rfl, ?_⟩;rcases m with ⟨f,c⟩|⟨q,f,c,i⟩;exact .inl ⟨f,λy b=>c y (lt y b) b⟩;exact .inr ⟨q,f,c,λy b=>i y (lt y b) b⟩|succ d o=>intro r last p m;obtain⟨w,j⟩:=gl (l:=h) (k:=r) o?;rw[yU.eq_1,N v?,gi j,ws o?];simp only[zl,qM];cases w with|true=>rw[N rfl];exact o (r+1) (r:Y) o? (.inr ⟨r,rfl,j,λy b _=>o?⟩)|false=>(rw[R z?];refine o (r+1) last o? ?_;have ne: ∀y:Z,h[y]? =X K->y≠r:=λy b e=>by subst e;rw[j]at b;cases b);rcases m with ⟨f,c⟩|⟨q,f,c,i⟩;exact .inl ⟨f,λy b g=>c y (by have:=ne y g;omega) g⟩;exact .inr ⟨q,f,c,λy b g=>i y (by have:=ne y g;omega) g⟩
def ov(e:qf)(last:Y)(r:Z)(x:TS)(h:V J)(out:V Y):Y:=
 if h.getD r M=K then 0
 else if 0<=x.up/\out.getD x.up.toNat 0=1 then 1
 else if x.span.qG<e.span.to/\e.span.qG<x.span.to then 1
 else if 0<=x.up/\h.getD x.up.toNat M=M then out.getD x.up.toNat 0
 else if x.span.to<e.span.qG\/x.span.to=e.span.qG/\(x.span.qG<x.span.to\/(r:Y)<last\/last<0)then 2 else 3
theorem q0g(z:J)(h:V J)(last:Y)(r:Z)(x:TS)(v:L[r]? =X x)(w:r<2^60)(hu:x.up<(r:Z))(out:V Y)(hl:h.length=L.length)(ho:out.length=L.length):
  xO (⟨z,L⟩,⟨M,h⟩,last,(r:Y),e,out)=xO (⟨z,L⟩,⟨M,h⟩,last,((r+1:Z):Y),e,out.set r (ov e last r x h out)):=by
 have AL:=(qK v).1;obtain⟨hw,b⟩:=gl (l:=h) (k:=r) o?;obtain⟨ow,f⟩:=gl (l:=out) (k:=r) o?;have d0:h.getD r M=hw:=by simp[b]
 rw[xO.eq_1,N v?,gi v,ws w,gi b,gi f];simp only[zl,qM,X?,ov,d0];generalize ((r+1:Z):Y)=q;cases hw with|true=>simp|false=>by_cases u:0<=x.up;(obtain⟨p,d⟩: ∃p:Z,x.up=p:=⟨x.up.toNat,o?⟩;obtain⟨hb,c⟩:=gl (l:=h) (k:=p) o?;obtain⟨ob,a⟩:=gl (l:=out) (k:=p) o?;have d1:h.getD x.up.toNat M=hb:=by rw[d];simp[c]);(have d2:out.getD x.up.toNat 0=ob:=by rw[d];simp[a]);(have e1:qk h x.up=X hb:=by rw[d];exact gi c);(have e2:qk out x.up=X ob:=by rw[d];exact gi a);simp only[d1,d2,e1,e2,qM];by_cases y:ob=1<;>by_cases t:x.span.qG<e.span.to<;>by_cases s:e.span.qG<x.span.to<;>by_cases o:x.span.to<e.span.qG<;>by_cases m:x.span.to=e.span.qG<;>by_cases j:x.span.qG<x.span.to<;>by_cases i:(r:Y)<last<;>by_cases g:last<0<;>cases hb<;>simp[u,y,t,s,o,m,j,i,g]<;>split<;>rfl;have: ¬(0<=x.up/\out.getD x.up.toNat 0=1):=λk=>u k.1;by_cases t:x.span.qG<e.span.to<;>by_cases s:e.span.qG<x.span.to<;>by_cases o:x.span.to<e.span.qG<;>by_cases m:x.span.to=e.span.qG<;>by_cases j:x.span.qG<x.span.to<;>by_cases i:(r:Y)<last<;>by_cases g:last<0<;>simp[u,t,s,o,m,j,i,g]<;>split<;>rfl
end
end Xr
namespace Xr
section
variable (L:V TS) (e:qf) {n:Y}
variable (hR:RowL L n) (hLl:L.length<2^30)
theorem TF(l:V Y)(k:Z)(v:Y)(j:Z):(l.set k v).getD j 0=if k=j/\j<l.length then v else l.getD j 0:=by rw[V.getD_eq_getElem?_getD,jo];split<;>simp[*]
include hR in
theorem sides_L2(z:J)(h:V J)(last:Y)(hl:h.length=L.length)(hLl:L.length<2^30): ∀(d r:Z)(out:V Y),r+d=L.length->out.length=L.length->
  (∀ y x,y<r->L[y]? =X x->out.getD y 0=ov e last y x h out)->
  ∃out' :V Y,xO (⟨z,L⟩,⟨M,h⟩,last,(r:Y),e,out)=X out' /\out'.length=L.length/\ ∀y x,L[y]? =X x->out'.getD y 0=ov e last y x h out' :=by intro d;induction d with|zero=>intro r out p f H;obtain rfl:r=L.length:=o?;rw[xO.eq_1,R z?];exact⟨out,rfl,f,λy x a=>H y x (qK a).1 a⟩|succ d o=>(intro r out p f H;obtain⟨x,a⟩:=gl (l:=L) (k:=r) o?;have b: ∀(y:Z)(x:TS),L[y]? =X x->x.up<y:=by intro y x a;have j:=(qK a).1;have q:=hR.up y (by simpa using j);obtain⟨_,_,h2⟩:=at_L a;omega);(have hu:=b r x a;rw[q0g L e z h last r x a o? hu out hl f];have wV: ∀(y:Z)(x:TS),y<=r->L[y]? =X x-> ∀v,ov e last y x h (out.set r v)=ov e last y x h out:=by intro y x j a v;have q:=b y x a;by_cases c:0<=x.up;(have g:(out.set r v).getD x.up.toNat 0=out.getD x.up.toNat 0:=by rw[TF,R o?]);unfold ov;rw[g];unfold ov;simp[c]);refine o (r+1) _ o? (by simp[f]) λy m j i=>?_;rw[TF,wV y m o? i];by_cases c:r=y;subst c;rw[N ⟨rfl,o?⟩];rw[a]at i;cases i;rfl;rw[R o?];exact H y m o? i
include hR in
theorem sides_ok(z:J)(h:V J)(hl:h.length=L.length)(hLl:L.length<2^30): ∃(sd:V Y)(last:Y),aN ⟨z,L⟩ ⟨M,h⟩ e=X ⟨M,sd⟩/\sd.length=L.length/\
  Side (L.map strOf).length (FL L) (TL L) (UL L) (λy=>h[y]? =X K) e.span.qG e.span.to last (λr=>sd.getD r 0):=by
 obtain⟨last,Q,H⟩:=last_L0 L e z h hl hLl L.length 0 (-1) o? (.inl ⟨rfl,λy P=>o?⟩);unfold aN;rw[show ((0:Z):Y)=0 from rfl]at Q;rw[Q];simp only[zl,qM];rw[N z?,N (qC v? o?)];obtain⟨sd,g1,g2,g3⟩:=sides_L2 L e hR z h last hl hLl L.length 0 (f? L.length 0) o? z? λy x P=>o?;simp only[X?];rw[show ((0:Z):Y)=0 from rfl]at g1;rw[g1];refine⟨sd,last,rfl,g2, ?_⟩;have f: ∀y:Z,y<L.length->(h.getD y M=K↔h[y]? =X K):=by intro y P;obtain⟨v,U⟩:=gl (l:=h) (k:=y) o?;simp[U]
 have qp: ∀r,r<(L.map strOf).length-> ∃x,L[r]? =X x/\FL L r=x.span.qG/\TL L r=x.span.to/\UL L r=x.up/\sd.getD r 0=ov e last r x h sd:=by intro r a;obtain⟨x,d⟩:=gl (l:=L) (k:=r) (by simpa using a);obtain⟨j,a2,a3⟩:=at_L d;exact⟨x,d,j,a2,a3,g3 r x d⟩
 have Ub:(L.map strOf).length=L.length:=z?;have i: ∀(r:Z)(p:Z),r<(L.map strOf).length->UL L r=p->p<L.length:=by intro r p a w;have:=hR.up r a;omega
 constructor;intro r a c;obtain⟨x,d,j,a2,a3,a4⟩:=qp r a;rw[a4];unfold ov;rw[N ((f r o?).2 c)];intro r a c p w hs;obtain⟨x,d,j,a2,a3,a4⟩:=qp r a;rw[a4];unfold ov;rw[R (λk=>c ((f r o?).1 k)),N ⟨o?,by rw[show x.up.toNat=p by omega];exact hs⟩];intro r a c hs hf ht;obtain⟨x,d,j,a2,a3,a4⟩:=qp r a;rw[a4];unfold ov;rw[R (λk=>c ((f r o?).1 k)),R (λk=>hs x.up.toNat o? k.2),N ⟨o?,o?⟩];(intro r a c hs m p w B;obtain⟨x,d,j,a2,a3,a4⟩:=qp r a;have o:=i r p a w;have u:x.up.toNat=p:=o?;have t:h.getD p M=M:=by cases W:h.getD p M with|false=>rfl|true=>exact I ((f p o).1 W) B);rw[a4];unfold ov;rw[R (λk=>c ((f r o?).1 k)),R (λk=>hs x.up.toNat o? k.2),R (λk=>m ⟨o?,o?⟩),u,N ⟨o?,t⟩];intro r a c hs m T;obtain⟨x,d,j,a2,a3,a4⟩:=qp r a;rw[a4];unfold ov;rw[R (λk=>c ((f r o?).1 k)),R (λk=>(hs x.up.toNat o?).1 k.2),R (λk=>m ⟨o?,o?⟩),R,N o?];rintro⟨g,b⟩;have F:=(hs x.up.toNat o?).2;have o:=i r x.up.toNat a o?;rw[(f _ o).2 F]at b;cases b;intro r a c hs m T;obtain⟨x,d,j,a2,a3,a4⟩:=qp r a;rw[a4];unfold ov;rw[R (λk=>c ((f r o?).1 k)),R (λk=>(hs x.up.toNat o?).1 k.2),R (λk=>m ⟨o?,o?⟩),R,R o?];rintro⟨g,b⟩;have F:=(hs x.up.toNat o?).2;have o:=i r x.up.toNat a o?;rw[(f _ o).2 F]at b;cases b;intro r a c;rcases H with ⟨g,b⟩|⟨q,g,b,s⟩;exact I c (b r);have:=s r c;omega;intro AG;rcases H with ⟨g,b⟩|⟨q,g,b,s⟩;omega;exact⟨q,g,by have:=(qK b).1;omega,b⟩;rcases H with ⟨g,b⟩|⟨q,g,b,s⟩<;>omega
end
end Xr
namespace Xr
structure e9 (is:V E) (fl:Sl (Sl Y)):Prop where
 len:fl.l.length=is.length
 nn:is≠[]->fl.nil=M
 each: ∀(a:Z)(i:E)(f:Sl Y),is[a]? =X i->fl.l[a]? =X f->f.l.length=i.stops.l.length/\(i.stops.l≠[]->f.nil=M)/\ ∀v∈f.l,0<=v/\v<=3
section
variable (e:qf) (n:Y) (he:uX e n) (mark:J) (sd:V Y) (s:qb) (bR:qb) (cur:Y) (flags:Sl (Sl Y)) (r6:V E) (i1 i2:Y)
abbrev JV(sd:V Y):Z->Y:=λr=>sd.getD r 0
abbrev NS(e:qf)(sd:V Y):=dT e.span.qG e.span.to e.text.length (JV sd)
theorem tmod2(v:Y)(h:0<=v/\v<=3)(c:v.tmod 2=0):v<=2:=by rcases(show v=0\/v=1\/v=2\/v=3 by omega)with rfl|rfl|rfl|rfl<;>simp_all (config:={ decide:=K })
include he in
theorem shift_L2(a b:Z)(al:J)(i:E)(hi:s.insts.l[a]? =X i)(hb:b+1+i.stops.l.length<=sd.length)(hsd:sd.length<=2^30)(hL:i.stops.l.length<=2^12)
  (H: ∀x∈i.stops.l,0<=x.span.qG/\x.span.qG<=x.span.to/\x.span.to<=n)
  (U: ∀(k:Z)(x:C),i.stops.l[k]? =X x-> -1<=x.up/\ ∀p:Z,x.up=p->p<k/\(JV sd (b+1+k)≠1->JV sd (b+1+p)≠1))
  (f0:Sl Y) (hf0:f0.l.length=i.stops.l.length) (hfn:i.stops.l≠[]->f0.nil=M) (hfb: ∀v∈f0.l,0<=v/\v<=3):
  ∀(r:V C)(k:Z)(fl:Sl (Sl Y))(zw f:V Y)(out:V C),i.stops.l.drop k=r->k<=i.stops.l.length->fl.l[a]? =X f0->fl.nil=M->zw.length=i.stops.l.length->
  (∀ j,j<k->JV sd (b+1+j)≠1->zw[j]? =X ((XU (JV sd) (b+1) j:Z):Y))->out.length=XU (JV sd) (b+1) k->out.length<=k->f.length<=k->(∀ v∈f,0<=v/\v<=3)->
  ∃(m y :V Y),ka (mark,⟨M,sd⟩,((b+1+k:Z):Y),(a:Y),al,(k:Y),fl,s,e,bR,cur,flags,r6,i1,i2,zw,f,out)=
   X (((b+1+i.stops.l.length:Z):Y),fl,m,y,out++NS e sd (b+1) k r)/\y.length=f.length+(NS e sd (b+1) k r).length/\ ∀v∈y,0<=v/\v<=3:=by
 intro r;induction r with
  |nil=>intro k fl zw f out h s9 _ _ _ _ _ ed _ w;have h1:=zd h;rw[ka.eq_1,gi hi];simp only[zl,qM];rw[R v?];obtain rfl:k=i.stops.l.length:=o?;exact⟨zw,f,by simp[NS,dT],by simp[NS,dT],w⟩
  |cons x r ih=>
   (intro k fl zw f out h s9 Kv d ee o Wo ed hfk w;obtain⟨h1,h2,h3⟩:=zx h;have hx:=H x (zj h1);have hp:=U k x h1;obtain⟨sv,F⟩:=gl (l:=sd) (k:=b+1+k) o?;have g:JV sd (b+1+k)=sv:=by simp[JV,F]);(obtain⟨fv,q⟩:=gl (l:=f0.l) (k:=k) o?;have t:=hfb fv (zj q);obtain⟨pv,L⟩:=gl (l:=zw) (k:=k) o?;have kN:i.stops.l≠[]:=λc=>by rw[c]at h3;simp at h3);have hwr:q?.wrap (((b+1+k:Z):Y)+1)=((b+1+(k+1):Z):Y):=ws o?;rw[ka.eq_1,gi hi];simp only[zl,qM];rw[N v?,gi h1,gi F,hwr,ws (k:=k) o?];simp only[qM];by_cases B:sv=1;(rw[N (by simpa using B)];have e1:NS e sd (b+1) k (x::r)=NS e sd (b+1) (k+1) r:=by show dT _ _ _ _ _ _ (x::r)=_;rw[dT,N (by rw[g];exact B)]);rw[e1];refine ih (k+1) fl zw f out h2 o? Kv d ee (λj hj hs=>?_) ?_ o? o? w;by_cases c:j=k;subst c;exact I (g.trans B) hs;exact o j o? hs;rw[XU,N (by rw[g];exact B)];simpa using Wo;(rw[R (by simpa using B),Rl e n he x.span hx.1 hx.2.1 hx.2.2 sv];simp only[qM];have e1:NS e sd (b+1) k (x::r)=Ld e.span.qG e.span.to e.text.length (JV sd) (b+1) k x::NS e sd (b+1) (k+1) r:=by show dT _ _ _ _ _ _ (x::r)=_;rw[dT,R (by rw[g];exact B)]);(have W: ∀up:Y,(if 0<=x.up then((XU (JV sd) (b+1) x.up.toNat:Z):Y)else x.up)=up->C.mk (Dz e.span.qG e.span.to e.text.length sv x.span) x.n up x.first x.qR x.qZ x.opts=Ld e.span.qG e.span.to e.text.length (JV sd) (b+1) k x:=by intro up hu;unfold Ld;rw[hu,g]);(have T:XU (JV sd) (b+1) (k+1)=XU (JV sd) (b+1) k+1:=by rw[XU,R (by rw[g];exact B)]);have sa: ∀j,j<k+1->JV sd (b+1+j)≠1->(zw.set k (out.length:Y))[j]? =X ((XU (JV sd) (b+1) j:Z):Y):=by intro j hj hs;rw[jo];by_cases c:k=j;subst c;rw[N ⟨rfl,o?⟩,Wo];rw[R o?];exact o j o? hs
   have JF: ∀(up u :Y),(if 0<=x.up then((XU (JV sd) (b+1) x.up.toNat:Z):Y)else x.up)=up->0<=u /\u <=3->
     ∃(m y :V Y),ka (mark,⟨M,sd⟩,((b+1+(k+1):Z):Y),(a:Y),al,((k+1:Z):Y),fl,s,e,bR,cur,flags,r6,i1,i2,zw.set k (out.length:Y),f++[u],out++[C.mk (Dz e.span.qG e.span.to e.text.length sv x.span) x.n up x.first x.qR x.qZ x.opts])=
      X (((b+1+i.stops.l.length:Z):Y),fl,m,y,out++NS e sd (b+1) k (x::r))/\y.length=f.length+(NS e sd (b+1) k (x::r)).length/\ ∀v∈y,0<=v/\v<=3:=by
    intro up u hu hfv';rw[W up hu,e1];obtain⟨m,y,g1,g2,g3⟩:=ih (k+1) fl (zw.set k (out.length:Y)) (f++[u]) (out++[Ld e.span.qG e.span.to e.text.length (JV sd) (b+1) k x]) h2 o? Kv d (by simp[ee]) sa (by rw[T];simp[Wo]) v? v? (by
     intro v hv
     rcases V.mem_append.1 hv with hv|hv
     ·exact w v hv
     simp only[V.mem_singleton]at hv
     subst hv
     exact hfv')
    refine⟨m,y,by rw[g1];simp,by simp only[p?,b?,V.length_nil]at g2 |-; omega,g3⟩
   (have z:(⟨M,fl.l⟩:Sl (Sl Y))=fl:=by rw[<- d]);(have hz:f0.nil=M:=hfn kN;have w3:(mark&&((sv==0)&&(fv.tmod 2==0)))=K->0<=q?.wrap (fv+1)/\q?.wrap (fv+1)<=3:=by intro c;simp only[xn,beq_iff_eq]at c;have:=tmod2 fv t c.2.2;rw[qy o? o?];omega);by_cases c2:0<=x.up;(obtain⟨p,Q⟩: ∃p:Z,x.up=p:=⟨x.up.toNat,o?⟩;obtain⟨q1,q2⟩:=hp.2 p Q;have P:=o p q1 (q2 (by rw[g];exact B));have W1:(if 0<=x.up then((XU (JV sd) (b+1) x.up.toNat:Z):Y)else x.up)=((XU (JV sd) (b+1) p:Z):Y):=by rw[N c2,show x.up.toNat=p by omega]);rw[N (by simpa using c2),show x.up=((p:Z):Y)from Q,gi P,gi L];simp only[qM];rw[N qC,d,R z?,gi Kv];simp only[qM];rw[hz,R z?,gi q];simp only[qM,X?];rw[N qC,N qC,z];split;rename_i c3;exact JF _ _ W1 (w3 c3);exact JF _ _ W1 t;(have W1:(if 0<=x.up then((XU (JV sd) (b+1) x.up.toNat:Z):Y)else x.up)=x.up:=by rw[R c2]);rw[R (by simpa using c2),gi L];simp only[qM];rw[N qC,d,R z?,gi Kv];simp only[qM];rw[hz,R z?,gi q];simp only[qM,X?];rw[N qC,N qC,z];split;rename_i c3;exact JF _ _ W1 (w3 c3);exact JF _ _ W1 t
end
end Xr
end Go.Proofs.YtadahlbndbmdeaaGreat
