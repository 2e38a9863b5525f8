/-
  Matches of an expression, case, formats, transforms: they end.
-/
import Derived.Test.YtadahlbndbmdeaaGreatQau
open Bool renaming false->W,true->V
open Go.Gm renaming qa->I,Sl->E,qy->A
open Go.Proofs.YtadahlbndbmdeaaGreat renaming qL->N,qS->L,qI->K,qF->C
open _root_ renaming Int->Z,List->Y,if_neg->X,Nat->U,if_pos->R,decide_eq_true_eq->M,Option->J,Bool->F,UInt8->D,absurd->B
open Go.IntKind renaming i64->q?
open Go.Proofs.YtadahlbndbmdeaaGreat.qL renaming get->V_,bind->Y'
open Int renaming le_refl->y!,le_trans->q05
open List renaming length_cons->b?,length_append->p?,mem_append->t?,length_nil->r?,mem_singleton->d?,replicate->f?,map_cons->e?,mem_cons->K?,map_nil->k!,countP_cons->S!,map_append->z_,length_eq_one_iff->V'
open Nat renaming strongRecOn->s?,lt_succ_self->I_
open Option renaming bind_eq_some_iff->J!,some->T
set_option linter.unusedSimpArgs false
set_option linter.unusedVariables false
namespace Go.Proofs.YtadahlbndbmdeaaGreat
open Go Go.Gm
def PatQ(cs:E I)(a:Z)(r:K×Z×qd):Prop:=
 r.2.2.cs=cs/\(r.2.1=0->a<=r.2.2.qp/\r.2.2.qp<=cs.l.length/\(cW r.1:Z)<=1000*(r.2.2.qp-a)+2)
def Ae(cs:E I)(a:Z)(r:K×Z×qd):Prop:=
 r.2.2.cs=cs/\(r.2.1=0->a<r.2.2.qp/\r.2.2.qp<=cs.l.length/\(cW r.1:Z)<=1000*(r.2.2.qp-a))
theorem YF(k:Z):cW (K.mk k ([]:I) W (⟨V,([]:Y zf)⟩:(E zf)) (0:Z) (0:Z) W (⟨V,([]:Y K)⟩:(E K)))=1:=by rw[uR];simp[L,eN,JX]
theorem kid_W(k:Z)(x:K):cW (K.mk k ([]:I) W (⟨V,[]⟩:(E zf)) (0:Z) (0:Z) W (⟨W,[x]⟩:(E K)))=1+cW x:=by rw[uR];simp[L,eN,JX]
section
variable {cs:E I} (hc:Kc cs) (a0:Z) (ha0:0<=a0)
 (H: ∀(deep:Z)(b:qd),0<=deep->deep<=16->b.cs=cs->a0<b.qp->b.qp<=cs.l.length->N (xk (deep,b)) (PatQ cs b.qp))
include hc ha0 H
theorem atom_tot(deep:Z)(d0:0<=deep)(d1:deep<=16)(b:qd)(h:b.cs=cs)(h0:a0<=b.qp)(Q:b.qp<=cs.l.length):N (wx (deep,b)) (Ae cs b.qp):=by
 have hm:=hc.many;rw[wx.eq_1];refine .bind (wb hc _ b h o? Q) λv j=>?_;refine .tI ?_ ?_<;>intro a;have g:=a;have:=j.2.2.2.1 g;exact .ret ⟨j.1,λ_=>⟨u?,u?,by simp only[YF];omega⟩⟩
 have g:=a;have Kz:=j.2.2.2.2 g;refine .bind (wb hc _ v.2 j.1 o? o?) λw f=>?_;have i: ∀(k:Z)(u:qd),u.cs=cs->b.qp<u.qp->u.qp<=cs.l.length->deep<16->N (xk ((q?.wrap (deep+(1:Z))),u)>>=λe=>
       if(e.2.1 != (0:Z))then
        T ((K.mk (0:Z) ([]:I) W (⟨V,([]:Y zf)⟩:(E zf)) (0:Z) (0:Z) W (⟨V,([]:Y K)⟩:(E K))),e.2.1,e.2.2)
       else
        qO ([41]:I) e.2.2>>=λq=>
        if(!q.1)then
         T ((K.mk (0:Z) ([]:I) W (⟨V,([]:Y zf)⟩:(E zf)) (0:Z) (0:Z) W (⟨V,([]:Y K)⟩:(E K))),(10:Z),q.2)
        else
         T ((K.mk k ([]:I) W (⟨V,[]⟩:(E zf)) (0:Z) (0:Z) W (⟨W,[e.1]⟩:(E K))),(0:Z),q.2)) (Ae cs b.qp):=by
  intro k u g1 g2 g3 g4
  (repeat (first|(rw [A];rotate_left;omega;omega)|(rw [jy];rotate_left;omega;omega)))
  refine .bind (H (deep+1) u o? o? g1 o? g3) λy d=>?_;refine .tI ?_ ?_<;>intro a
  ·have t:=a;exact .ret ⟨d.1,λh=>B h t⟩
  have t:=a;have Wr:=d.2 t;refine .bind (wb hc _ y.2.2 d.1 o? o?) λz c=>?_;refine .tI ?_ ?_<;>intro a
  ·exact .ret ⟨c.1,z?⟩
  have Hj:=a;have:=c.2.2.2.1 Hj;exact .ret ⟨c.1,λ_=>⟨u?,u?,by simp only[kid_W];omega⟩⟩
 refine .tI ?_ ?_<;>intro a;have g:=a;have VP:=f.2.2.2.1 g;refine .tI ?_ ?_<;>intro a;exact .ret ⟨f.1,z?⟩;refine .bind (wb hc _ w.2 f.1 o? o?) λy d=>?_;refine .tI ?_ ?_<;>intro a;refine .bind (wb hc _ y.2 d.1 o? o?) λz c=>?_;refine .tI ?_ ?_<;>intro a;exact .ret ⟨c.1,z?⟩;exact i 6 z.2 c.1 o? o? o?;exact i 5 y.2 d.1 o? o? o?;have g:=a;have VP:=f.2.2.2.2 g;refine .bind (wb hc _ w.2 f.1 o? o?) λy d=>?_;refine .tI ?_ ?_<;>intro a;have g:=a;have n:=d.2.2.2.1 g;refine .bind (IZ hc y.2 d.1 o? o?) λz c=>?_;refine .ret ⟨c.1,λh=>?_⟩;have:=c.2 h;simp only;omega;have g:=a;have n:=d.2.2.2.2 g;refine .bind (wb hc _ y.2 d.1 o? o?) λz c=>?_;refine .tI ?_ ?_<;>intro a;have g:=a;have m:=c.2.2.2.1 g;refine .bind (Cs hc z.2 c.1 o? o?) λu hu=>?_;refine .ret ⟨hu.1,λh=>?_⟩;have:=hu.2 h;simp only;omega;have g:=a;have m:=c.2.2.2.2 g;refine .bind (eM hc z.2 c.1 o?) λs hs=>?_;refine .tI ?_ ?_<;>intro a;exact .ret ⟨c.1,z?⟩;by_cases hn:s=[];refine .bind (o:=kr s) (P:=λr=>r=W) ⟨W,by rw[hn];unfold kr;simp,rfl⟩ λp x=>?_;subst x;exact .ret ⟨c.1,z?⟩;refine .bind (JO s (by unfold BN;omega)) λp x=>?_;refine .tI ?_ ?_<;>intro a;exact .ret ⟨c.1,z?⟩;have:=hs.2 hn;(repeat (first|(rw [A];rotate_left;omega;omega)|(rw [jy];rotate_left;omega;omega)));refine .ret ⟨c.1,λ_=>⟨u?,u?, ?_⟩⟩;simp only[uR,eN,JX,VY,k!,L];omega
theorem term_tot(deep:Z)(d0:0<=deep)(d1:deep<=16)(b:qd)(h:b.cs=cs)(h0:a0<=b.qp)(m:b.qp<=cs.l.length):N (uj (deep,b)) (Ae cs b.qp):=by
 have hm:=hc.many;rw[uj.eq_1];refine .bind (wb hc _ b h o? m) λv f=>?_;refine .tI ?_ ?_<;>intro a;have g:=a;have:=f.2.2.2.1 g;exact .ret ⟨f.1,λ_=>⟨u?,u?,by simp only[YF];omega⟩⟩;have g:=a;have Kz:=f.2.2.2.2 g;refine .bind (wb hc _ v.2 f.1 o? o?) λw d=>?_;refine .tI ?_ ?_<;>intro a;have g:=a;have:=d.2.2.2.1 g;exact .ret ⟨d.1,λ_=>⟨u?,u?,by simp only[YF];omega⟩⟩
 have g:=a;have VP:=d.2.2.2.2 g;have e:N (wx (deep,w.2)>>=λv26=>
     if(v26.2.1 != (0:Z))then
      T ((K.mk (0:Z) ([]:I) W (⟨V,([]:Y zf)⟩:(E zf)) (0:Z) (0:Z) W (⟨V,([]:Y K)⟩:(E K))),v26.2.1,v26.2.2)
     else
      wP v26.1 v26.2.2>>=λv29=>
      T (v29.1,v29.2.1,v29.2.2)) (Ae cs b.qp):=by
  refine .bind (atom_tot hc a0 ha0 H deep d0 d1 w.2 d.1 o? o?) λy i=>?_;refine .tI ?_ ?_<;>intro a
  ·have j:=a;exact .ret ⟨i.1,λh=>B h j⟩
  have j:=a;have Wr:=i.2 j;refine .bind (q0B hc y.1 y.2.2 i.1 o? o?) λz k=>?_;refine .ret ⟨k.1,λh=>?_⟩;have:=k.2 h;simp only;omega
 refine .bind (eM hc w.2 d.1 o?) λs hs=>?_;rw[d.1];refine .tI ?_ ?_<;>intro a;{(repeat (first|(rw [A];rotate_left;omega;omega)|(rw [jy];rotate_left;omega;omega)));refine .bind .get λc Hj=>?_;refine .tI ?_ ?_<;>intro a;exact .ret ⟨rfl,λ_=>⟨u?,u?,by simp only[YF];omega⟩⟩;refine .tI ?_ ?_<;>intro a;exact .ret ⟨rfl,λ_=>⟨u?,u?,by simp only[YF];omega⟩⟩;exact e};exact e
end
section
variable {cs:E I} (hc:Kc cs) (a0:Z) (ha0:0<=a0)
 (H: ∀(deep:Z)(b:qd),0<=deep->deep<=16->b.cs=cs->a0<b.qp->b.qp<=cs.l.length->N (xk (deep,b)) (PatQ cs b.qp))
include hc ha0 H
theorem DM(deep:Z)(d0:0<=deep)(d1:deep<=16)(t:K)(alts:Y K)(f:Z)(ZB:0<=f): ∀(m:U)(b:qd)(e:Y K),m=(cs.l.length-b.qp).toNat->b.cs=cs->a0<=b.qp->f<=b.qp->b.qp<=cs.l.length->
  (L (e.map cW):Z)<=1000*(b.qp-f)->N (jl (deep,b,t,alts,e)) (λr=>(∀ y,r= .inl y->y.1≠0/\y.2.1.cs=cs)/\
   ∀y,r= .inr y->y.1.cs=cs/\b.qp<=y.1.qp/\y.1.qp<=cs.l.length/\(L (y.2.map cW):Z)<=1000*(y.1.qp-f)):=by
 have hm:=hc.many;intro m;induction m using s? with
  |_ m k=>
   intro b e hmm h o h1 j n;have hl:=xP lq e;rw[jl.eq_1];have stop:N (T (Sum.inr (b,e):(Z×qd×K×(Y K))⊕(qd×(Y K)))) (λr=>(∀ y,r= .inl y->y.1≠0/\y.2.1.cs=cs)/\
     ∀y,r= .inr y->y.1.cs=cs/\b.qp<=y.1.qp/\y.1.qp<=cs.l.length/\(L (y.2.map cW):Z)<=1000*(y.1.qp-f)):=by
    refine .ret ⟨λy a=>(by cases a),λy a=>?_⟩;cases a;exact⟨h,z?,j,n⟩
   rw[h];refine .tI ?_ ?_<;>intro d;refine .bind (eM hc b h o?) λs hs=>?_;refine .tI ?_ ?_<;>intro d;refine .tI ?_ ?_<;>intro d;refine .bind (term_tot hc a0 ha0 H deep d0 d1 b h o j) λy a=>?_;refine .tI ?_ ?_<;>intro d;have g:=d;refine .ret ⟨λz c=>?_,λz c=>by cases c⟩;cases c;exact⟨g,a.1⟩;have g:=d;have Wr:=a.2 g;refine .zY qC ?_;refine(k _ o? y.2.2 _ rfl a.1 o? o? o? (by rw[wB];omega)).mono λr i=>⟨i.1,λz c=>?_⟩;have:=i.2 z c;exact⟨this.1,o?,this.2.2.1,this.2.2.2⟩;exact stop;exact stop;exact stop
theorem DL(deep:Z)(d0:0<=deep)(d1:deep<=16)(t:K): ∀(m:U)(b:qd)(alts:Y K),m=(cs.l.length-b.qp).toNat->b.cs=cs->a0<=b.qp->b.qp<=cs.l.length->
  (L (alts.map cW):Z)<=1000*(b.qp-a0)->N (jk (deep,b,t,alts)) (λr=>(∀ y,r= .inl y->y.1≠0/\y.2.1.cs=cs)/\
   ∀y,r= .inr y->y.2.1.cs=cs/\a0<=y.2.1.qp/\y.2.1.qp<=cs.l.length/\(cW y.2.2:Z)<=1000*(y.2.1.qp-a0)+2):=by have hm:=hc.many;intro m;induction m using s? with|_ m i=>intro b alts hmm h k j hw;have hl:=xP lq alts;rw[jk.eq_1];refine .bind (DM hc a0 ha0 H deep d0 d1 t alts b.qp o? _ b [] rfl h k o? j (by simp[L])) λv f=>?_;rcases v with y|y;have:=f.1 y rfl;refine .ret ⟨λz a=>?_,λz a=>by cases a⟩;cases a;exact this;obtain⟨g1,g2,g3,g4⟩:=f.2 y rfl;refine .bind (seq_tot (⟨y.2.isEmpty,y.2⟩:E K) u?) λw n=>?_;simp only at n;refine .zY qC ?_;refine .bind (wb hc _ y.1 g1 o? g3) λz a=>?_;refine .tI ?_ ?_<;>intro g;have e:=g;have c:=a.2.2.2.2 e;refine .bind (alt_tot (⟨W,(alts++[w])⟩:E K) (by simp only[wB];omega)) λu hu=>?_;simp only[wB]at hu;refine .ret ⟨λx d=>(by cases d),λx d=>?_⟩;cases d;exact⟨a.1,u?,u?,u?⟩;have e:=g;have c:=a.2.2.2.1 e;exact i _ o? z.2 _ rfl a.1 o? o? (by rw[wB];omega)
end
theorem pat_tot{cs:E I}(d:Kc cs): ∀(m:U)(deep:Z)(b:qd),m=(cs.l.length-b.qp).toNat->0<=deep->deep<=16->b.cs=cs->0<=b.qp->b.qp<=cs.l.length->N (xk (deep,b)) (PatQ cs b.qp):=by intro m;induction m using s? with|_ m c=>intro deep b hmm d0 d1 h f e;rw[xk.eq_1];refine .bind (DL d b.qp f (λd2 b2 e1 e2 e3 e4 g=>c _ o? d2 b2 rfl e1 e2 e3 o? g) deep d0 d1 _ _ b [] rfl h o? e (by simp[L])) λv a=>?_;rcases v with y|y;have:=a.1 y rfl;exact .ret ⟨this.2,λh=>B h this.1⟩;obtain⟨g1,g2,g3,g4⟩:=a.2 y rfl;exact .ret ⟨g1,λ_=>⟨g2,g3,g4⟩⟩
theorem DW(s:I):N (iF s) (λr=>r.2=0->s.length<=256/\cW r.1<=1000*s.length+1002):=by unfold iF;refine .tI ?_ ?_<;>intro a;exact .ret z?;refine .bind (BV s (by unfold BN;omega)) λv d=>?_;have e:Kc v:=⟨o?,λc h=>by have:=d.2 c h;omega⟩;refine .bind (pat_tot e _ 0 (qd.mk v 0) rfl o? o? rfl z? z?) λw b=>?_;refine .tI ?_ ?_<;>intro a;exact .ret z?;refine .tI ?_ ?_<;>intro a;have h:=a;exact .ret λf=>B f h;have h:=a;have:=b.2 h;refine .ret λ_=>⟨o?, ?_⟩;simp only at this |-;omega
def uf(f:zG):U:=cW f.rx+L (f.yg.l.map Zf)+Jt f.yg
theorem Mn(s:I)(hs:s.length<=BN)(t:zG): ∀(m:U)(k:Z)(b:Y D),m=(s.length-k).toNat->0<=k->k<=s.length->(b.length:Z)<=k->
  N (yP (s,k,t,b)) (λr=>k<=r.1/\r.1<=s.length/\(r.2.length:Z)<=b.length+(r.1-k)):=by have hB:s.length<=8192:=hs;intro m;induction m using s? with|_ m d=>intro k b hm h0 f hb;rw[yP.eq_1];refine .tI ?_ ?_<;>intro e;{refine .bind .get λc hc=>?_;refine .tI ?_ ?_<;>intro e;{refine .tI ?_ ?_<;>intro e;{(repeat (first|(rw [A];rotate_left;omega;omega)|(rw [jy];rotate_left;omega;omega)));refine .bind .get λc2 Hj=>?_;refine .tI ?_ ?_<;>intro e;(refine .zY qC ?_;refine .zY (qC v? o?) ?_;exact(d _ o? (k+1+1) _ rfl o? o? v?).mono λr a=>by simp only[p?,b?,r?]at a;omega);refine .zY qC ?_;exact(d _ o? (k+1+1) _ rfl o? o? v?).mono λr a=>by simp only[p?,b?,r?]at a;omega};refine .zY qC ?_;(repeat (first|(rw [A];rotate_left;omega;omega)|(rw [jy];rotate_left;omega;omega)));exact(d _ o? (k+1) _ rfl o? o? v?).mono λr a=>by simp only[p?,b?,r?]at a;omega};exact .ret ⟨z?,f,u?⟩};exact .ret ⟨z?,f,u?⟩
theorem Mo(s:I)(hs:s.length<=BN)(t:zG)(l:Y D)(x:K): ∀(m:U)(e:Z)(f:zG),m=(s.length-e).toNat->0<=e->
  N (yQ (s,e,t,l,x,f)) (λr=>(∀ y,r= .inl y->y.2.1=W)/\ ∀y,r= .inr y->e<=y.1/\uf y.2=uf f):=by have hB:s.length<=8192:=hs;intro m;induction m using s? with|_ m g=>(intro e f hm h0;rw[yQ.eq_1];have stop:N (T (Sum.inr (e,f):(Z×F×Z×zG×zG)⊕(Z×zG))) (λr=>(∀ y,r= .inl y->y.2.1=W)/\ ∀y,r= .inr y->e<=y.1/\uf y.2=uf f):=by refine .ret ⟨λy a=>(by cases a),λy a=>?_⟩;cases a;exact⟨z?,rfl⟩);(have go: ∀f2:zG,e<s.length->uf f2=uf f->N (yQ (s,e+1,t,l,x,f2)) (λr=>(∀ y,r= .inl y->y.2.1=W)/\ ∀y,r= .inr y->e<=y.1/\uf y.2=uf f):=by intro f2 he h;exact(g _ o? (e+1) f2 rfl o?).mono λr d=>⟨d.1,λy a=>by have:=d.2 y a;exact⟨o?,this.2.trans h⟩⟩);refine .tI ?_ ?_<;>intro b;{refine .bind .get λc hc=>?_;(repeat (first|(rw [A];rotate_left;omega;omega)|(rw [jy];rotate_left;omega;omega)));refine .tI ?_ ?_<;>intro b;{refine .tI ?_ ?_<;>intro b;exact go _ o? rfl;(repeat (first|(rw [A];rotate_left;omega;omega)|(rw [jy];rotate_left;omega;omega)));refine .tI ?_ ?_<;>intro b;exact go _ o? rfl;refine .ret ⟨λy a=>?_,λy a=>by cases a⟩;cases a;rfl};exact stop};exact stop
theorem RJ(s:I)(hs:s.length<=BN)(qp:Z):
  N (aI s qp) (λr=>r.2.2=V->0<=qp/\qp<r.2.1/\r.2.1<s.length/\(uf r.1:Z)<=1000*(r.2.1-qp)):=by have hB:s.length<=8192:=hs;unfold aI;refine .tI ?_ ?_<;>intro a;exact .ret z?;refine .bind .get λc hc=>?_;refine .tI ?_ ?_<;>intro a;exact .ret z?;(repeat (first|(rw [A];rotate_left;omega;omega)|(rw [jy];rotate_left;omega;omega)));refine .bind (Mn s hs _ _ (qp+1) [] rfl o? o? v?) λv f=>?_;simp only[r?]at f;refine .tI ?_ ?_<;>intro a;exact .ret z?;refine .bind (DW v.2) λw e=>?_;refine .tI ?_ ?_<;>intro a;exact .ret z?;have g:=a;have P9:=e g;(repeat (first|(rw [A];rotate_left;omega;omega)|(rw [jy];rotate_left;omega;omega)));refine .bind (DX s hs (v.1+1)) λy d=>?_;refine .tI ?_ ?_<;>intro a;exact .ret z?;have i:=a;have Wr:=d i;(repeat (first|(rw [A];rotate_left;omega;omega)|(rw [jy];rotate_left;omega;omega)));refine .bind (Mo s hs _ _ _ _ (y.2.1+1) _ rfl o?) λz b=>?_;rcases z with z|z;(have:=b.1 z rfl;exact .ret λh=>by simp only[this]at h;cases h);obtain⟨g1,g2⟩:=b.2 z rfl;refine .tI ?_ ?_<;>intro a;exact .ret z?;refine .ret λ_=>?_;simp only[g2];simp only[uf];omega
def opW(s:I):U:=1+s.length
mutual
def sJ:C->U
 |⟨_,t,_,_,_,f,o,qB⟩=>1+t.length+uf f+L (o.l.map opW)+snWS qB
def snWS:E C->U
 |⟨_,l⟩=>snWL l
def snWL:Y C->U
 |[]=>0
 |x::r=>sJ x+snWL r
end
theorem Sd: ∀l:Y C,snWL l=L (l.map sJ)
 |[]=>by simp[snWL,L]
 |x::r=>by simp[snWL,L,Sd r]
theorem tu(x:C):sJ x=1+x.text.length+uf x.qZ+L (x.opts.l.map opW)+L (x.qB.l.map sJ):=by cases x with|mk a b c d e f g h=>cases h;simp[sJ,snWS,Sd]
theorem ag(x:C):1<=sJ x:=by rw[tu];omega
theorem M7(x:I):1<=opW x:=by unfold opW;omega
theorem JA(s:I)(hs:s.length<=BN)(qp:Z)(e:0<=qp)(d:qp<s.length)(c:F):N (cD s qp c) (λr=>r=V->qp+1<s.length):=by have hB:s.length<=8192:=hs;unfold cD;refine .bind (V_ e d) λb hb=>?_;refine .tI ?_ ?_<;>intro a;exact .ret z?;(repeat (first|(rw [A];rotate_left;omega;omega)|(rw [jy];rotate_left;omega;omega)));refine .bind .get λb2 hb2=>?_;repeat' (first|(refine .tI ?_ ?_<;>intro a)|exact .ret (λ_=>by omega))
theorem Rs(s:I)(hs:s.length<=BN)(w:Y C)(es:Y Z)(d:Z)(ZB:0<=d): ∀(m:U)(qp:Z)(l:Y I)(t:Y D),m=(s.length-qp).toNat->d<=qp->qp<=s.length->(L (l.map opW)+t.length:Z)<=qp-d->
  N (jQ (qp,s,w,es,l,t)) (λr=>qp<=r.1/\r.1<=s.length/\(L (r.2.1.map opW)+r.2.2.length:Z)<=r.1-d):=by have hB:s.length<=8192:=hs;intro m;induction m using s? with|_ m e=>intro qp l t hm h0 g f;have hl:=xP M7 l;rw[jQ.eq_1];refine .tI ?_ ?_<;>intro b;{refine .bind .get λc hc=>?_;refine .tI ?_ ?_<;>intro b;{refine .tI ?_ ?_<;>intro b;{refine .zY qC ?_;(repeat (first|(rw [A];rotate_left;omega;omega)|(rw [jy];rotate_left;omega;omega)));exact(e _ o? (qp+1) _ _ rfl o? o? (by rw[wB];simp only[opW,r?];omega)).mono λr a=>⟨o?,a.2.1,a.2.2⟩};refine .bind (JA s hs qp o? o? V) λv h=>?_;refine .tI ?_ ?_<;>intro b;{have i:=b;have:=h i;(repeat (first|(rw [A];rotate_left;omega;omega)|(rw [jy];rotate_left;omega;omega)));refine .bind .get λc2 Hj=>?_;refine .zY qC ?_;(repeat (first|(rw [A];rotate_left;omega;omega)|(rw [jy];rotate_left;omega;omega)));exact(e _ o? (qp+1+1) _ _ rfl o? o? v?).mono λr a=>⟨o?,a.2.1,a.2.2⟩};refine .zY qC ?_;(repeat (first|(rw [A];rotate_left;omega;omega)|(rw [jy];rotate_left;omega;omega)));exact(e _ o? (qp+1) _ _ rfl o? o? v?).mono λr a=>⟨o?,a.2.1,a.2.2⟩};exact .ret ⟨z?,g,f⟩};exact .ret ⟨z?,g,f⟩
theorem opts_tot(s:I)(hs:s.length<=BN)(w:Y C)(es:Y Z)(qp:Z)(b:0<=qp)(a:qp<=s.length):
  N (nI qp s w es) (λr=>r.2>=0->qp<=r.2/\r.2<s.length/\(L (r.1.l.map opW):Z)<=r.2-qp+1):=by have hB:s.length<=8192:=hs;unfold nI;refine .bind (Rs s hs w es qp b _ qp [] [] rfl o? a (by simp[L])) λv hv=>?_;have hl:=xP M7 v.2.1;refine .tI ?_ ?_<;>intro hT;exact .ret z?;refine .zY qC ?_;refine .ret λ_=>⟨u?,u?, ?_⟩;simp only[wB,opW];omega
theorem R0(l:E C)(hw:L (l.l.map sJ)<=100000000): ∀(r:Y C)(k:U)(out:Y C),l.l.drop k=r->L (out.map sJ)+L (r.map sJ)<=L (l.l.map sJ)->
  N (kP (l,(k:Z),out)) (λt=>L (t.map sJ)<=L (l.l.map sJ)):=by have hl:=xP ag l.l;intro r;induction r with|nil=>intro k out c hs;rw[kP.eq_1];have:=u9 c;refine .tI ?_ ?_<;>intro a;omega;exact .ret (by simp[L]at hs;exact hs)|cons x r b=>(intro k out c hs;obtain⟨j,d,g⟩:=drop_cons c;have TO:=xP ag out;simp only[e?,L]at hs;rw[kP.eq_1];have e1:q?.wrap ((k:Z)+1)=((k+1:U):Z):=sj o?;rw[e1];have i:N (qk l.l (k:Z)) (λy=>y=x):=⟨x,by rw[xQ g];simpa[yc g]using j,rfl⟩;have put:N (if ql (out.length+1) 224=V then kP (l,((k+1:U):Z),(out++[x]))else none) (λt=>L (t.map sJ)<=L (l.l.map sJ)):=by refine .zY qC ?_;exact b (k+1) _ d (by rw[wB];omega));refine .tI ?_ ?_<;>intro a;refine .bind i λy h=>?_;subst h;refine .tI ?_ ?_<;>intro a;refine .tI ?_ ?_<;>intro a;exact b (k+1) _ d o?;refine .tI ?_ ?_<;>intro a;have e2:q?.wrap ((out.length:Z)-1)=(out.length:Z)-1:=A o? o?;rw[e2];refine .bind .get λz e=>?_;refine .tI ?_ ?_<;>intro a;have hz2:=jF (f:=sJ) e.2;have hzw:=tu z;have hyw:=tu y;refine .zY o? ?_;refine b (k+1) _ d ?_;have:=XB sJ out ((out.length:Z)-1).toNat (C.mk z.kind (z.text++y.text) z.n z.has z.qR z.qZ z.opts z.qB) z e.1;have e3:=tu (C.mk z.kind (z.text++y.text) z.n z.has z.qR z.qZ z.opts z.qB);simp only[p?]at e3;omega;exact put;exact put;exact put;omega
theorem join_tot(l:E C)(a:L (l.l.map sJ)<=100000000):N (iP l) (λt=>L (t.l.map sJ)<=L (l.l.map sJ)):=by unfold iP;have h:=R0 l a l.l 0 [] rfl (by simp[L]);rw[show ((0:U):Z)=0 from rfl]at h;refine .bind h λv b=>?_;exact .ret b
theorem FX(t:I):sJ (C.mk (0:Z) t (0:Z) W W (zG.mk (K.mk (0:Z) ([]:I) W (⟨V,[]⟩:(E zf)) (0:Z) (0:Z) W (⟨V,[]⟩:(E K))) (⟨V,[]⟩:(E zQ)) W W) (⟨V,[]⟩:(E I)) (⟨V,[]⟩:(E C)))=2+t.length:=by rw[tu];simp[uf,uR,eN,JX,L];omega
set_option maxHeartbeats 1000000
structure Ke (s:I) (w:Y C) (es:Y Z):Prop where
 lw:w.length=s.length
 le:es.length=s.length
 ok: ∀(p:U)(e:Z)(x:C),es[p]? =T e->0<e->w[p]? =T x->(p:Z)<e/\e<=s.length/\(sJ x+2:Z)<=1000*(e-p)
def W5(s:I)(a qp:Z)(r:Z×Y C×Y D):Prop:=qp<=r.1/\r.1<=s.length/\(L (r.2.1.map sJ)+r.2.2.length:Z)<=1000*(r.1-a)
theorem Mi(s:I)(hs:s.length<=BN)(w:Y C)(es:Y Z)(k:Ke s w es)(br:F)(b:Z)(ZB:0<=b): ∀(m:U)(qp:Z)(l:Y C)(t:Y D),m=(s.length-qp).toNat->b<=qp->qp<=s.length->(L (l.map sJ)+t.length:Z)<=1000*(qp-b)->
  N (zA (qp,br,s,w,es,l,t)) (W5 s b qp):=by
 have hB:s.length<=8192:=hs;intro m;induction m using s? with
  |_ m y=>
   intro qp l t hm h0 Q H;have hl:=xP ag l;have stop:N (T (qp,l,t)) (W5 s b qp):= .ret ⟨z?,Q,H⟩;have go: ∀(a2:Z)(j:Y C)(t2:Y D),qp<a2->a2<=s.length->(L (j.map sJ)+t2.length:Z)<=1000*(a2-b)->N (zA (a2,br,s,w,es,j,t2)) (W5 s b qp):=by intro a2 j t2 g1 g2 g3;exact(y _ o? a2 j t2 rfl o? g2 g3).mono λr o=>⟨by have:=o.1;omega,o.2.1,o.2.2⟩
   have two:qp<s.length-> ∀e:Z,es[qp.toNat]? =T e->0<e-> ∀f:C,sJ f=2+t.length->N (qk w qp>>=λJv=>
        if ql (l.length+2) 224=V then
         zA (e,br,s,w,es,(l++[f,Jv]),([]:Y D))
        else none) (W5 s b qp):=by
    intro d e g h f P;refine .bind (V_ o? (by have:=k.lw;omega)) λx z=>?_;obtain⟨g1,g2,g3⟩:=k.ok qp.toNat e x g h z.1;refine .zY qC ?_;refine go e _ _ o? g2 ?_;simp only[z_,e?,k!,pj,L,r?,P];omega
   have text:qp<s.length-> ∀c:D,N (if ql (t.length+1) 1=V then zA ((q?.wrap (qp+(1:Z))),br,s,w,es,l,(t++[c]))else none) (W5 s b qp):=by intro d c;refine .zY qC ?_;(repeat (first|(rw [A];rotate_left;omega;omega)|(rw [jy];rotate_left;omega;omega)));exact go (qp+1) _ _ o? o? v?
   have i:qp+1<s.length->N (qk s (q?.wrap (qp+(1:Z)))>>=λq=>
         if ql (t.length+1) 1=V then
          zA ((q?.wrap ((q?.wrap (qp+(1:Z)))+(1:Z))),br,s,w,es,l,(t++[q]))
         else none) (W5 s b qp):=by
    intro d
    (repeat (first|(rw [A];rotate_left;omega;omega)|(rw [jy];rotate_left;omega;omega)))
    refine .bind .get λc u=>?_;refine .zY qC ?_
    (repeat (first|(rw [A];rotate_left;omega;omega)|(rw [jy];rotate_left;omega;omega)))
    exact go (qp+1+1) _ _ o? o? v?
   rw[zA.eq_1];refine .tI ?_ ?_<;>intro a;have d:=a;refine .tI ?_ ?_<;>intro a;refine .bind .get λc u=>?_;refine .tI ?_ ?_<;>intro a;refine .bind (V_ o? (by have:=k.le;omega)) λe g=>?_;refine .tI ?_ ?_<;>intro a;have h:=a;exact two d e g.1 h _ (FX t);refine .bind (JA s hs qp o? o? W) λv n=>?_;refine .tI ?_ ?_<;>intro a;have p:=a;exact i (n p);exact text d c;exact stop;refine .bind (V_ o? (by have:=k.le;omega)) λe g=>?_;refine .tI ?_ ?_<;>intro a;have h:=a;exact two d e g.1 h _ (FX t);refine .bind (JA s hs qp o? o? W) λv n=>?_;refine .tI ?_ ?_<;>intro a;have p:=a;exact i (n p);refine .bind .get λc u=>?_;exact text d c;exact stop
theorem Bq(s:I)(hs:s.length<=BN)(w:Y C)(es:Y Z)(b:Ke s w es)(qp:Z)(d:0<=qp)(c:qp<=s.length)(br:F):
  N (yo qp br s w es) (λr=>(r.2>=0->qp<=r.2/\r.2<=s.length/\(br=V->r.2<s.length)/\(L (r.1.l.map sJ):Z)<=1000*(r.2-qp)+2)/\(br=W->0<=r.2)):=by have hB:s.length<=8192:=hs;unfold yo;refine .bind (Mi s hs w es b br qp d _ qp [] [] rfl o? c (by simp[L])) λv a=>?_;obtain⟨g1,g2,g3⟩:=a;have hl:=xP ag v.2.1;have:= @join_tot;have:= @wB;have:= @FX;exact tW
structure HeadQ (s:I) (qp:Z) (r:C×Z×F):Prop where
 lt:qp<r.2.1
 le:r.2.1<=s.length
 text:(r.1.text.length:Z)<=r.2.1-qp
 qZ:uf r.1.qZ=1
 opts:r.1.opts.l=[]
 qB:r.1.qB.l=[]
theorem TM(s:I)(hs:s.length<=BN)(w:Y C)(es:Y Z)(qp:Z)(d:0<=qp)(c:qp<=s.length):
  N (uo qp s w es) (λr=>r.2.2=V->HeadQ s qp r):=by unfold uo;refine .bind (ix s hs qp d c) λv f=>?_;refine .tI ?_ ?_<;>intro b;have a:=b;have:=f.2.2 a;exact .ret λ_=>⟨u?,u?,by simp only[r?];omega,by simp[uf,uR,eN,JX,L],rfl,rfl⟩;refine .bind (q0b s hs w es qp d c) λy e=>?_;refine .tI ?_ ?_<;>intro b;have a:=b;have:=e.2.2.2 a;exact .ret λ_=>⟨u?,u?,u?,by simp[uf,uR,eN,JX,L],rfl,rfl⟩;exact .ret z?
def W3(s:I)(qp:Z)(r:C×Z×F):Prop:=r.2.2=V->qp<r.2.1/\r.2.1<=s.length/\(sJ r.1+2:Z)<=1000*(r.2.1-qp)
theorem Ct(s:I)(hs:s.length<=BN)(w:Y C)(es:Y Z)(n:Ke s w es)(qp:Z)(h0:0<=qp)(h1:qp<s.length):N (uV qp s w es) (W3 s qp):=by have hB:s.length<=8192:=hs;unfold uV;(repeat (first|(rw [A];rotate_left;omega;omega)|(rw [jy];rotate_left;omega;omega)));refine .bind (TM s hs w es (qp+1) o? o?) λv g=>?_;refine .tI ?_ ?_<;>intro a;have j:=a;obtain⟨g1,g2,g3,g4,g5,g6⟩:=g j;refine .ret λ_=>⟨u?,g2, ?_⟩;simp only[tu,g4,g5,g6,k!,L];omega;refine .tI ?_ ?_<;>intro a;exact .ret (by simp[W3]);refine .bind .get λb hb=>?_;refine .tI ?_ ?_<;>intro a;exact .ret (by simp[W3]);(repeat (first|(rw [A];rotate_left;omega;omega)|(rw [jy];rotate_left;omega;omega)));refine .bind (TM s hs w es (qp+2) o? o?) λv g=>?_;refine .tI ?_ ?_<;>intro a;exact .ret (by simp[W3]);have j:=a;obtain⟨g1,g2,g3,g4,g5,g6⟩:=g j.1;refine .bind .get λc Hj=>?_;(repeat (first|(rw [A];rotate_left;omega;omega)|(rw [jy];rotate_left;omega;omega)));refine .tI ?_ ?_<;>intro a;refine .ret λ_=>⟨u?,u?, ?_⟩;simp only[tu,g4,g5,g6,k!,L];omega;(repeat (first|(rw [A];rotate_left;omega;omega)|(rw [jy];rotate_left;omega;omega)));refine .tI ?_ ?_<;>intro a;refine .bind (Bq s hs w es n (v.2.1+1) o? o? V) λy e=>?_;refine .ret λh=>?_;simp only[M]at h;obtain⟨l,k,f,m⟩:=e.1 h;have:=f rfl;simp only;rw[A o? o?];refine⟨o?,o?, ?_⟩;simp only[tu,g4,g5,k!,L];omega;refine .tI ?_ ?_<;>intro a;refine .bind (RJ s hs v.2.1) λy e=>?_;refine .ret λh=>?_;obtain⟨l,k,f,m⟩:=e h;simp only;rw[A o? o?];refine⟨o?,o?, ?_⟩;simp only[tu,g5,g6,k!,L];omega;(repeat (first|(rw [A];rotate_left;omega;omega)|(rw [jy];rotate_left;omega;omega)));refine .tI ?_ ?_<;>intro a;{refine .bind (opts_tot s hs w es (v.2.1+1) o? o?) λy e=>?_;refine .ite (λa=>?_) λa=>?_<;>(try simp only[tfx.down]at a)<;>(try simp(disch:=omega) only[A,jy]at a);{have i:=a;obtain⟨l,k,f⟩:=e i.1;(repeat (first|(rw [A];rotate_left;omega;omega)|(rw [jy];rotate_left;omega;omega)));refine .bind .get λd hd=>?_;refine .ret λh=>⟨u?,u?, ?_⟩;simp only[tu,g4,g6,k!,L];omega};exact .ret (by simp[W3])};exact .ret (by simp[W3])
theorem Ke.set{s:I}{w:Y C}{es:Y Z}(a:Ke s w es){qp:Z}(h0:0<=qp)(h1:qp<s.length){x:C}{e:Z}(h:qp<e/\e<=s.length/\(sJ x+2:Z)<=1000*(e-qp)):
  Ke s (w.set qp.toNat x) (es.set qp.toNat e) where
 lw:=by simpa using a.lw
 le:=by simpa using a.le
 ok:=by intro p e2 d c g b;rw[Y.getElem?_set]at c b;by_cases f:qp.toNat=p;exact tW;rw[X f]at c b;exact a.ok p e2 d c g b
theorem G5(s:I)(hs:s.length<=BN): ∀(m:U)(qp:Z)(w:Y C)(es:Y Z),m=(qp+1).toNat-> -1<=qp->qp<s.length->Ke s w es->
  N (gq (s,qp,w,es,s)) (λr=>Ke s r.1 r.2):=by have hB:s.length<=8192:=hs;intro m;induction m using s? with|_ m e=>intro qp w es hm h0 d a;rw[gq.eq_1];refine .tI ?_ ?_<;>intro b;{refine .bind .get λc hc=>?_;refine .tI ?_ ?_<;>intro b;{refine .bind (Ct s hs w es a qp o? d) λy f=>?_;refine .tI ?_ ?_<;>intro b;{have g:=b;refine .bind (V_ o? (by have:=a.lw;omega)) λp hp=>?_;refine .bind (V_ o? (by have:=a.le;omega)) λq hq=>?_;(repeat (first|(rw [A];rotate_left;omega;omega)|(rw [jy];rotate_left;omega;omega)));exact e _ o? (qp-1) _ _ rfl o? o? (a.set o? d (f g))};exact tW};exact tW};exact .ret a
theorem To: ∀(n:U)(l:E C),L (l.l.map sJ)<=n->n<=100000000->N (pJ l) (λr=>0<=r/\r<=n):=by
 intro n;induction n using s? with
 |_ n i=>
 intro l hl hn;have hlen:=xP ag l.l;have loop: ∀(r:Y C)(k:U)(d:Z),l.l.drop k=r->0<=d->d<=n->N (vE (l,d,(k:Z))) (λr=>0<=r/\r<=n):=by
  intro r;induction r with
  |nil=>
   intro k d a e c;rw[vE.eq_1];have:=u9 a;refine .tI ?_ ?_<;>intro b
   ·omega
   exact .ret ⟨e,c⟩
  |cons x r g=>
   intro k d a e c;obtain⟨e1,e2,e3⟩:=drop_cons a;have hx:=jF (f:=sJ) (zj e1);have hxw:=tu x;rw[vE.eq_1];have o:q?.wrap ((k:Z)+1)=((k+1:U):Z):=sj o?;rw[o];refine .tI ?_ ?_<;>intro b
   ·refine .bind (P:=λy=>y=x) ⟨x,by rw[xQ e3];simpa[yc e3]using e1,rfl⟩ λy j=>?_;subst j;refine .bind (i (n-1) o? y.qB o? o?) λz hz=>?_;refine .tI ?_ ?_<;>intro b
    ·(repeat (first|(rw [A];rotate_left;omega;omega)|(rw [jy];rotate_left;omega;omega)))
     exact g (k+1) _ e2 (by split<;>omega) (by split<;>omega)
    exact g (k+1) _ e2 (by split<;>omega) (by split<;>omega)
   omega
 have h:=loop l.l 0 0 rfl o? o?;rw[show ((0:U):Z)=0 from rfl]at h;rw[pJ.eq_1];first
 |exact h
 |(refine .bind h λv m=>?_;exact .ret m)
theorem seen_new(s:I)(x:C):Ke s (f? s.length x) (f? s.length (0:Z)) where
 lw:=z?
 le:=z?
 ok:=by (intro p e y a h2 h3;have:e=0:=by have:=zj a;exact(Y.mem_replicate.1 this).2);omega
theorem DY(s:I):N (iQ s) (λr=>L (r.1.l.map sJ)<=8192002/\(r.2=0->s.length<=BN)):=by
 unfold iQ;refine .tI ?_ ?_<;>intro b;exact .ret ⟨by simp[L],z?⟩;have hc:=b;have hs:s.length<=BN:=by unfold BN;omega
 have e:(s.length:Z).toNat=s.length:=z?;refine .zY o? ?_;rw[e];refine .zY qC ?_;refine .zY o? ?_;refine .zY qC ?_;(repeat (first|(rw [A];rotate_left;omega;omega)|(rw [jy];rotate_left;omega;omega)));refine .bind (G5 s hs _ ((s.length:Z)-1) _ _ rfl o? o? (seen_new s _)) λv c=>?_;refine .bind (Bq s hs v.1 v.2 c 0 o? o? W) λy a=>?_;obtain⟨k1,k2,_,k4⟩:=a.1 (a.2 rfl);refine .bind (To 8192002 y.1 o? o?) λz hz=>?_;refine .tI ?_ ?_<;>intro b;exact .ret ⟨by simp[L],λ_=>hs⟩;exact .ret ⟨u?,λ_=>hs⟩
theorem uU{α:Type}{a:Y α}{k:U}(h:a.drop k=[]): ¬((k:Z)<(a.length:Z)):=by have:=u9 h;omega
theorem yB{α:Type}{xs r:Y α}{x:α}{k:U}(h:xs.drop k=x::r):(k:Z)<(xs.length:Z)/\qk xs (k:Z)=T x/\xs.drop (k+1)=r/\x∈xs:=by obtain⟨a,b,c⟩:=drop_cons h;refine⟨o?, ?_,b,zj a⟩;rw[xQ c];exact tW
theorem ZX{α:Type}{a:Y α}{k:U}(hl:a.length<=9223372036854775807)(h:(k:Z)<(a.length:Z)):q?.wrap ((k:Z)+1)=((k+1:U):Z):=sj o?
theorem wr{n:Z}(h1: -(2^62)<=n)(h2:n<=2^62):q?.wrap n=n:=A o? o?
theorem JU{P:K->Prop}(h: ∀x,(∀ y∈x.qB.l,P y)->P x)(x:K):P x:=by
 have key: ∀n(x:K),cW x<n->P x:=by intro n;induction n with|zero=>intro x a;omega|succ n ih=>intro x a;have:= @jF;have:= @uR;exact tW
 exact key _ x (I_ _)
theorem ot(x:K):x.qB.l.length<cW x:=by have:=xP lq x.qB.l;rw[uR];omega
theorem ME{x y:K}(h:y∈x.qB.l):cW y<cW x:=by have:=jF (f:=cW) h;rw[uR x];omega
abbrev vi(x:K):Prop:=cW x<=1099511627776
theorem tU{x y:K}(h:vi x)(a:y∈x.qB.l):vi y:=by have:=ME a;unfold vi at *; omega
theorem RB: ∀x:K,vi x->N (nB x) (λ_=>True):=by
 apply JU (P:=λx=>vi x->N (nB x) (λ_=>True));intro x a c;have hk:=ot x;have key: ∀(r:Y K)(k:U)(n:Z),x.qB.l.drop k=r->N (vK (n,(k:Z),x)) (λ_=>True):=by intro r;induction r with|nil=>intro k n b;rw[vK.eq_1,X (by simpa using uU b)];exact .ret trivial|cons y r e=>intro k n b;obtain⟨d,a2,a3,a4⟩:=yB b;rw[vK.eq_1,R (by simpa using d),ZX (by unfold vi at c;omega) d];refine .go a2 ?_;exact .bind (a y a4 (tU c a4)) λv _=>e (k+1) _ a3
 rw[nB.eq_1];exact .bind (key x.qB.l 0 1 rfl) λv _=> .ret trivial
theorem CK: ∀x:K,vi x->N (pE x) (λ_=>True):=by
 apply JU (P:=λx=>vi x->N (pE x) (λ_=>True));intro x a c;have hk:=ot x;have key: ∀(r:Y K)(k:U)(n:Z),x.qB.l.drop k=r->N (yE (n,(k:Z),x)) (λ_=>True):=by intro r;induction r with|nil=>intro k n b;rw[yE.eq_1,X (by simpa using uU b)];exact .ret trivial|cons y r e=>intro k n b;obtain⟨d,a2,a3,a4⟩:=yB b;rw[yE.eq_1,R (by simpa using d),ZX (by unfold vi at c;omega) d];refine .go a2 ?_;exact .bind (a y a4 (tU c a4)) λv _=>e (k+1) _ a3
 rw[pE.eq_1];refine .bind (key x.qB.l 0 0 rfl) λv _=>?_;refine .tI ?_ ?_<;>intro hT;exact .ret trivial;exact .ret trivial
mutual
def aT:K->U
 |⟨k,_,_,_,_,_,_,s⟩=>(if k=5 then 1 else 0)+rxGS s
def rxGS:E K->U
 |⟨_,l⟩=>rxGL l
def rxGL:Y K->U
 |[]=>0
 |x::r=>aT x+rxGL r
end
theorem S3: ∀l:Y K,rxGL l=L (l.map aT)
 |[]=>by simp[rxGL,L]
 |x::r=>by simp[rxGL,L,S3 r]
theorem UP(x:K):aT x=(if x.kind=5 then 1 else 0)+L (x.qB.l.map aT):=by obtain⟨a,b,c,d,e,f,g,h⟩:=x;obtain⟨u,l⟩:=h;simp[aT,rxGS,S3]
theorem Ie{α:Type}{f g:α->U}: ∀{l:Y α},(∀ a∈l,f a<=g a)->L (l.map f)<=L (l.map g)
 |[],_=>by simp[L]
 |a::l,h=>by have h1:=h a z?;have h2:=Ie (l:=l) λb c=>h b (by simp[c]);simp only[e?,L];omega
theorem Fx: ∀x:K,aT x<=cW x:=by apply JU;intro x a;have:=Ie a;rw[UP,uR];split<;>omega
theorem Q3: ∀x:K,vi x->kY x=T (aT x:Z):=by
 apply JU (P:=λx=>vi x->kY x=T (aT x:Z));intro x c d;have hk:=ot x;have hp:=Fx x;have key: ∀(r:Y K)(k n:U),x.qB.l.drop k=r->n+L (r.map aT)<=1099511627776->kO ((n:Z),(k:Z),x)=T ((n+L (r.map aT):U):Z):=by intro r;induction r with|nil=>intro k n f _;rw[kO.eq_1,X (by simpa using uU f)];simp[L]|cons y r i=>(intro k n f hn;obtain⟨g,a2,a3,a4⟩:=yB f;simp only[e?,L]at hn;have e:q?.wrap ((n:Z)+(aT y:Z))=((n+aT y:U):Z):=by rw[wr o? o?];omega);rw[kO.eq_1];simp only[g,decide_true,if_true,a2,zl,qM,c y a4 (tU d a4),ZX (by unfold vi at d;omega) g,e];rw[i (k+1) (n+aT y) a3 o?];simp only[e?,L,wO,Z.natCast_inj];omega
 have a:=UP x;rw[kY.eq_1];unfold vi at d;by_cases b:x.kind=5;rw[R b]at a;have h:=key x.qB.l 0 1 rfl o?;rw[R (by simp[b]),show((1:Z),(0:Z),x)=(((1:U):Z),((0:U):Z),x)from rfl,h];simp[a];rw[X b]at a;have h:=key x.qB.l 0 0 rfl o?;rw[X (by simp[b]),show((0:Z),(0:Z),x)=(((0:U):Z),((0:U):Z),x)from rfl,h];simp[a]
inductive WF:K->Prop
 |mk (x:K) (hk: ∀y∈x.qB.l,WF y) (h1:x.kind=5\/x.kind=6\/x.kind=7-> ∃y,x.qB.l=[y]) (h7:x.kind=7-> ∀y∈x.qB.l,2<=y.kind/\y.kind<=6):WF x
theorem WF.qB{x:K}(h:WF x): ∀y∈x.qB.l,WF y:=by cases h;assumption
theorem WF.one{x:K}(h:WF x):x.kind=5\/x.kind=6\/x.kind=7-> ∃y,x.qB.l=[y]:=by cases h;assumption
theorem WF.rep{x:K}(h:WF x):x.kind=7-> ∀y∈x.qB.l,2<=y.kind/\y.kind<=6:=by cases h;assumption
theorem cu(x:K):N (gY x) (λ_=>True):=by unfold gY;refine .tI ?_ ?_<;>intro hT;exact .ret trivial;exact .ret trivial
def Vh(b:D):F:=decide ((b.toNat:Z)<128) || decide ((b.toNat:Z)>191)
theorem Ya(b:D):ur b=T (Vh b):=by unfold ur Vh;by_cases h:(b.toNat:Z)<128<;>simp[h]
theorem Sm(s:I)(hl:s.length<=1099511627776): ∀(r:I)(k f:U)(l:Y I),s.drop k=r->k<=s.length->f<=k->l.length<=k->
  ∃out,xp (s,(f:Z),(k:Z),l)=T out/\out.length=l.length+r.countP Vh+1:=by
 have UO: ∀n,n<=1099511627777->ql n 16=V:=by intro n hn;simp only[ql,xn,M];omega
 intro r;induction r with|nil=>(intro k f l d i j p;have h:=u9 d;obtain rfl:k=s.length:=o?;have hs:wz s (f:Z) (s.length:Z)=T (s.drop f):=by unfold wz;rw[R v?];simp);rw[xp.eq_1];simp only[y!,decide_true,if_true,beq_self_eq_true,hs,zl,qM,UO _ (show l.length+1<=_ by omega)];rw[xp.eq_1,X (by rw[wr o? o?];simp;omega)];exact⟨_,rfl,z?⟩|cons b r e=>(intro k f l d i j p;obtain⟨o,a2,a3,_⟩:=yB d;have h:((k:Z)<=(s.length:Z)):=o?;have m:((k:Z)==(s.length:Z))=W:=v?;have hs:wz s (f:Z) (k:Z)=T ((s.take k).drop f):=by unfold wz;rw[R v?];simp);rw[xp.eq_1];simp only[h,decide_true,if_true,m,vH,if_false,a2,zl,qM,Ya,ZX o? o];cases g:Vh b;obtain⟨out,c,a⟩:=e (k+1) f l a3 o? o? o?;exact⟨out,by simpa using c,by rw[a];simp[S!,g]⟩;obtain⟨out,c,a⟩:=e (k+1) k (l++[(s.take k).drop f]) a3 o? o? v?;refine⟨out, ?_,by rw[a];simp[S!,g];omega⟩;simp only[if_true,hs,qM,UO _ (show l.length+1<=_ by omega),c]
theorem Zm(c:I)(hl:c.length<=1099511627776):N (kr c) (λ_=>True):=by unfold kr gn;refine .tI ?_ ?_<;>intro d;refine .bind .get λb hb=>?_;refine .go (Ya b) ?_;refine .tI ?_ ?_<;>intro d;obtain⟨out,a,o2⟩:=Sm c hl (c.drop 1) 1 0 [] rfl o? o? z?;exact .go (J!.2 ⟨out,a,rfl⟩) (.ret trivial);exact .ret trivial;exact .ret trivial
theorem Fv(rows:E zf)(hw:L (rows.l.map nL)<=1099511627776):N (Qk rows) (λ_=>True):=by
 have OD:rows.l.length<=1099511627776:=by have:=xP dH rows.l;omega
 have key: ∀(r:Y zf)(k:U),rows.l.drop k=r->N (nA (rows,(k:Z))) (λ_=>True):=by intro r;induction r with|nil=>intro k c;rw[nA.eq_1,X (by simpa using uU c)];exact .ret trivial|cons x r a=>(intro k c;obtain⟨e,a2,a3,a4⟩:=yB c;have g:nL x<=1099511627776:=by have:=jF (f:=nL) a4;omega);have a:=a (k+1) a3;unfold nL at g;rw[nA.eq_1,R (by simpa using e),ZX o? e];refine .go a2 ?_;refine .bind (Zm x.qG o?) λv _=>?_;refine .tI ?_ ?_<;>intro d;exact .ret trivial;refine .bind (Zm x.to o?) λw _=>?_;refine .tI ?_ ?_<;>intro d;exact .ret trivial;refine .tI ?_ ?_<;>intro d;{(repeat (first|(rw [A];rotate_left;omega;omega)|(rw [jy];rotate_left;omega;omega)));refine .bind .get λb hb=>?_;refine .tI ?_ ?_<;>intro d;exact .ret trivial;exact a};exact a
 unfold Qk;refine .bind (key rows.l 0 rfl) λv _=>?_;rcases v with v|v<;>exact .ret trivial
theorem Dq{o:J (F⊕Unit)}{f:Unit->J F}{P:Prop}(h:N o (λv=>v= .inl V->False))(d:o=T (.inr ())->N (f ()) (λc=>c=V->P)):
  N (o>>=λv=>match v with| .inl y=>T y| .inr y=>f y) (λc=>c=V->P):=by obtain⟨v,rfl,a⟩:=h;rcases v with v|v;refine .go rfl (.ret λb=>?_);exact B (congrArg Sum.inl b) a;exact .go rfl (d rfl)
theorem NV(x:K)(hl:x.qB.l.length<=9223372036854775807): ∀(r:Y K)(k:U),x.qB.l.drop k=r->N (pF ((x.qB.l.length:Z),(k:Z),x)) (λv=>v= .inl V->False):=by intro r;induction r with|nil=>intro k a;rw[pF.eq_1,X (by simpa using uU a)];exact .ret z?|cons y r c=>intro k a;obtain⟨b,a2,a3,a4⟩:=yB a;rw[pF.eq_1,R (by simpa using b),ZX hl b];refine .go a2 ?_;refine .tI ?_ ?_<;>intro d;exact .ret z?;refine .tI ?_ ?_<;>intro d;exact .ret z?;exact c (k+1) a3
theorem NW(x:K)(hl:x.qB.l.length<=9223372036854775807): ∀(r:Y K)(k:U),x.qB.l.drop k=r->N (pG ((x.qB.l.length:Z),(k:Z),x)) (λv=>v= .inl V->False):=by intro r;induction r with|nil=>intro k a;rw[pG.eq_1,X (by simpa using uU a)];exact .ret z?|cons y r c=>intro k a;obtain⟨b,a2,a3,a4⟩:=yB a;rw[pG.eq_1,R (by simpa using b),ZX hl b];refine .go a2 ?_;refine .tI ?_ ?_<;>intro hT;exact .ret z?;exact c (k+1) a3
theorem Mz(x:K):N (dw x) (λc=>c=V-> ∃y,x.qB.l=[y]/\2<=y.kind/\y.kind<=6):=by unfold dw;refine .tI ?_ ?_<;>intro d;exact .ret z?;have e:x.qB.l.length=1:=o?;obtain⟨y,b⟩:=V'.1 e;refine .go (a:=y) (by rw[b];rfl) ?_;refine .bind (cu _) λv _=>?_;refine .tI ?_ ?_<;>intro d;refine .tI ?_ ?_<;>intro d;exact .ret λ_=>⟨y,b,o?,o?⟩;refine .ret λh=>⟨y,b, ?_⟩;simp only[beq_iff_eq]at h;omega;exact .ret z?
theorem MV{x:K}(a:x.qB.l=[])(h:x.kind≠5/\x.kind≠6/\x.kind≠7):WF x:= .mk x (by simp[a]) (λb=>o?) (λb=>o?)
theorem len_nil{α:Type}{l:Y α}(h:(l.length:Z)=0):l=[]:=by cases l with|nil=>rfl|cons _ _=>simp at h;omega
theorem OZ: ∀x:K,vi x->N (sb x) (λc=>c=V->WF x):=by
 apply JU (P:=λx=>vi x->N (sb x) (λc=>c=V->WF x));intro x f d;have hk:=ot x;have hx:=uR x;have hl:x.qB.l.length<=9223372036854775807:=by unfold vi at d;omega
 have key: ∀(r:Y K)(k:U),x.qB.l.drop k=r->N (hQ ((x.qB.l.length:Z),(k:Z),x)) (λv=>(v= .inl V->False)/\(v= .inr ()-> ∀y∈r,WF y)):=by intro r;induction r with|nil=>intro k i;rw[hQ.eq_1,X (by simpa using uU i)];exact .ret ⟨z?,z?⟩|cons y r s=>intro k i;obtain⟨o,a2,a3,a4⟩:=yB i;rw[hQ.eq_1,R (by simpa using o),ZX hl o];refine .go a2 ?_;refine .bind (f y a4 (tU d a4)) λv e=>?_;refine .tI ?_ ?_<;>intro a;exact .ret ⟨z?,z?⟩;have e:=e a;refine(s (k+1) a3).mono λw h=>⟨h.1,λd=>?_⟩;intro z hz;rcases K?.1 hz with rfl|hz;exact e;exact h.2 d z hz
 have key:=key x.qB.l 0 rfl;rw[show ((0:U):Z)=0 from rfl]at key;have e3:=NV x hl x.qB.l 0 rfl;have n:=NW x hl x.qB.l 0 rfl;rw[show ((0:U):Z)=0 from rfl]at e3 n;unfold vi at d;rw[sb.eq_1];refine Dq (key.mono λv h=>h.1) λt=>?_;obtain⟨v,p,g⟩:=key;rw[t]at p;cases p;have qB:=g.2 rfl;refine .tI ?_ ?_<;>intro a;have b:=a;refine Dq e3 λ_=>?_;refine .bind (cu _) λv _=>?_;refine .tI ?_ ?_<;>intro a;exact .ret λ_=> .mk x qB (λh=>o?) (λh=>o?);exact .ret z?;refine .tI ?_ ?_<;>intro a;have b:=a;refine Dq n λ_=>?_;refine .bind (cu _) λv _=>?_;refine .tI ?_ ?_<;>intro a;exact .ret λ_=> .mk x qB (λh=>o?) (λh=>o?);exact .ret z?;refine .tI ?_ ?_<;>intro a;have b:=a;refine .bind (cu _) λv _=>?_;refine .tI ?_ ?_<;>intro a;have j:=a;refine .bind (Zm x.char o?) λv _=>?_;exact .ret λ_=>MV (len_nil j.2) o?;exact .ret z?;refine .tI ?_ ?_<;>intro a;have b:=a;refine .bind (cu _) λv _=>?_;refine .tI ?_ ?_<;>intro a;refine .ret λh=>MV (len_nil (by simpa using h)) o?;exact .ret z?;refine .tI ?_ ?_<;>intro a;have b:=a;refine .bind (cu _) λv _=>?_;refine .tI ?_ ?_<;>intro a;have j:=a;refine .bind (Fv x.rows o?) λv _=>?_;exact .ret λ_=>MV (len_nil j.2) o?;exact .ret z?;refine .tI ?_ ?_<;>intro a;have b:=a;refine .bind (cu _) λv _=>?_;refine .tI ?_ ?_<;>intro a;refine .ret λh=> .mk x qB (λ_=>?_) (λh=>o?);exact V'.1 (by simp at h;omega);exact .ret z?;refine .tI ?_ ?_<;>intro a;have b:=a;refine .bind (Mz x) λv e=>?_;refine .ret λh=>?_;obtain⟨y,m,q⟩:=e h;refine .mk x qB (λ_=>⟨y,m⟩) (λ_ z hz=>?_);rw[m]at hz;simp only[d?]at hz;subst hz;exact q;exact .ret z?
theorem W4(x:K)(a:vi x):N (fD x) (λc=>c=V->WF x):=by unfold fD;refine .bind (RB x a) λv _=>?_;refine .tI ?_ ?_<;>intro d;refine .bind (CK x a) λv _=>?_;refine .tI ?_ ?_<;>intro d;refine .bind (OZ x a) λv b=>?_;exact .ret b;exact .ret z?;exact .ret z?
theorem Ba(a:E zQ)(hl:a.l.length<=1099511627776):N (eS a) (λc=>c=V-> ∀f∈a.l,0<=f.n):=by
 have key: ∀(r:Y zQ)(k:U),a.l.drop k=r->N (jB (a,(k:Z))) (λv=>(v= .inl V->False)/\(v= .inr ()-> ∀f∈r,0<=f.n)):=by intro r;induction r with|nil=>intro k d;rw[jB.eq_1,X (by simpa using uU d)];exact .ret ⟨z?,z?⟩|cons x r b=>(intro k d;obtain⟨e,a2,a3,a4⟩:=yB d;have b:=b (k+1) a3;have next:0<=x.n->N (jB (a,((k+1:U):Z))) (λv=>(v= .inl V->False)/\(v= .inr ()-> ∀f∈x::r,0<=f.n)):=by intro g;refine b.mono λv h=>⟨h.1,λi z hz=>?_⟩;rcases K?.1 hz with rfl|hz;exact g;exact h.2 i z hz);(have prev: ¬(k:Z)=0-> ∀{f:zQ->J (F⊕Unit)}{Q:F⊕Unit->Prop},(∀ y,N (f y) Q)->N (qk a.l (q?.wrap ((k:Z)-1))>>=f) Q:=by intro h f Q j;(repeat (first|(rw [A];rotate_left;omega;omega)|(rw [jy];rotate_left;omega;omega)));exact .bind V_ λy _=>j y);rw[jB.eq_1,R (by simpa using e),ZX o? e];refine .go a2 ?_;(repeat' (first|exact .ret ⟨by simp,by simp⟩|(refine .tI ?_ ?_<;>intro hT)|(refine prev ‹_› λy=>?_)|refine .bind (Uy _) λv _=>?_));all_goals exact next (by omega)
 unfold eS;exact tW
theorem Bb(f:zG)(a:uf f<=1099511627776):N (eT f) (λc=>c=V->WF f.rx):=by have hl:=xP Kr f.yg.l;unfold uf at a;unfold eT;have:= @W4;have:= @Ba;exact tW
def XG:K:=K.mk (0:Z) ([]:I) W (⟨V,[]⟩:(E zf)) (0:Z) (0:Z) W (⟨V,[]⟩:(E K))
def aZ:zG:=zG.mk XG (⟨V,([]:Y zQ)⟩:(E zQ)) W W
theorem q0c(x:K):N (rL (x,XG)) (λ_=>True):=by rw[rL.eq_1];refine .tI ?_ ?_<;>intro b;exact .ret trivial;have h:=b;simp only[XG,r?]at h;have d:x.rows.l.length=0:=o?;have c:x.qB.l.length=0:=o?;refine .go (a:= .inr ()) (by rw[sV.eq_1];simp[d]) ?_;refine .go (a:= .inr ()) (by rw[ma.eq_1];simp[c]) ?_;exact .ret trivial
theorem Wk(f:zG):N (bf f aZ) (λ_=>True):=by unfold bf;refine .bind (q0c f.rx) λv _=>?_;refine .tI ?_ ?_<;>intro b;exact .ret trivial;have h:=b;simp only[aZ,r?]at h;have c:f.yg.l.length=0:=o?;refine .go (a:= .inr ()) (by rw[nG.eq_1];simp[c]) ?_;exact .ret trivial
inductive WS:C->Prop
 |mk (x:C) (hk: ∀y∈x.qB.l,WS y) (h0:x.kind=0->x.qB.l=[]) (h2:x.kind=2->x.has=W/\x.qR=W/\x.qB.l=[]/\0<x.opts.l.length)
   (h1:x.kind=1\/x.kind=3->x.opts.l=[]/\(x.has=V->x.qR=W)/\(x.has=W->x.qB.l=[])) (hd:0<=x.kind/\x.kind<=3)
   (hn:x.kind=1\/x.kind=2->0<=x.n/\x.n<=9999):WS x
def Ym(l:E C):Prop:= ∀x∈l.l,WS x
theorem snS_ind{P:E C->Prop}(h: ∀l,(∀ x∈l.l,P x.qB)->P l): ∀l,P l:=by
 have key: ∀n(l:E C),L (l.l.map sJ)<n->P l:=by intro n;induction n with|zero=>intro l hl;omega|succ n ih=>intro l hl;have:= @jF;have:= @tu;exact tW
 exact λl=>key _ l (I_ _)
abbrev lB(l:E C):Prop:=L (l.l.map sJ)<=1099511627775
theorem Dl{l:E C}(h:lB l):l.l.length<=1099511627775:=by have:=xP ag l.l;unfold lB at h;omega
theorem Up{l:E C}(h:lB l){x:C}(a:x∈l.l):sJ x<=1099511627775:=by have:=jF (f:=sJ) a;unfold lB at h;omega
theorem Ra{l:E C}(h:lB l){x:C}(a:x∈l.l):lB x.qB:=by have:=Up h a;have:=tu x;unfold lB;omega
theorem G0(s:I)(hs:s.length<=1099511627776): ∀(r:I)(k:U),s.drop k=r->N (jL (s,(k:Z))) (λ_=>True):=by intro r;induction r with|nil=>intro k a;rw[jL.eq_1,X (by simpa using uU a)];exact .ret trivial|cons b r d=>intro k a;obtain⟨c,a2,a3,a4⟩:=yB a;have h:=d (k+1) a3;rw[jL.eq_1,R (by simpa using c),ZX o? c];refine .go a2 ?_;refine .bind (cA b) λv hv=>?_;repeat' (first|exact h|exact .ret trivial|(refine .tI ?_ ?_<;>intro hT)|refine .bind (tR b) λw _=>?_)
theorem Dv(s:I)(hs:s.length<=1099511627776):N (kh s) (λ_=>True):=by unfold kh;refine .tI ?_ ?_<;>intro hT;exact .ret trivial;refine .bind (G0 s hs s 0 rfl) λv hv=>?_;rcases v with v|v<;>exact .ret trivial
theorem FO(x:C)(hw:sJ x<=1099511627775)(i:N (mN x.qB) (λc=>c=V->Ym x.qB)):
  N (wR x) (λc=>c=V->x.opts.l=[]/\(x.has=V->x.qR=W)/\(x.has=W->x.qB.l=[])/\Ym x.qB):=by
 have hx:=tu x;rw[wR.eq_1];refine .tI ?_ ?_<;>intro a;exact .ret z?;have g:x.opts.l=[]:=len_nil o?;refine .tI ?_ ?_<;>intro a;have d:=a;refine .tI ?_ ?_<;>intro a;exact .ret z?;have k:=a;refine .bind (Wk x.qZ) λv _=>?_;refine .tI ?_ ?_<;>intro a;refine .bind i λv e=>?_;exact .ret λh=>⟨g,λ_=>k,λh=>(by rw[d]at h;cases h),e h⟩;exact .ret z?;have d:=a;refine .tI ?_ ?_<;>intro a;exact .ret z?;have f:x.qB.l=[]:=len_nil o?;have b:Ym x.qB:=λy j=>by rw[f]at j;cases j
 refine .tI ?_ ?_<;>intro a;refine .bind (Bb x.qZ o?) λv e=>?_;exact .ret λ_=>⟨g,λh=>(by rw[d]at h;cases h),λ_=>f,b⟩;refine .bind (Wk x.qZ) λv _=>?_;refine .tI ?_ ?_<;>intro a;refine .bind i λv e=>?_;exact .ret λ_=>⟨g,λh=>(by rw[d]at h;cases h),λ_=>f,b⟩;exact .ret z?
theorem L1: ∀l,lB l->N (mN l) (λc=>c=V->Ym l):=by
 apply snS_ind (P:=λl=>lB l->N (mN l) (λc=>c=V->Ym l));intro l m j;have hl:=Dl j;have key: ∀(r:Y C)(k:U),l.l.drop k=r->N (xb (l,(k:Z))) (λv=>(v= .inl V->False)/\(v= .inr ()-> ∀y∈r,WS y)):=by
  intro r;induction r with
   |nil=>intro k t;rw[xb.eq_1,X (by simpa using uU t)];exact .ret ⟨z?,z?⟩
   |cons x r o=>
    intro k t;obtain⟨w,a2,a3,a4⟩:=yB t;have u:=tu x;have p:=Up j a4;have Ky:=FO x p (m x a4 (Ra j a4));have o:=o (k+1) a3;have next:WS x->N (xb (l,((k+1:U):Z))) (λv=>(v= .inl V->False)/\(v= .inr ()-> ∀y∈x::r,WS y)):=by intro u;refine o.mono λv h=>⟨h.1,λj z hz=>?_⟩;rcases K?.1 hz with rfl|hz;exact u;exact h.2 j z hz
    have stop: ∀{f:F->J (F⊕Unit)},(∀ v,(v=V->x.opts.l=[]/\(x.has=V->x.qR=W)/\(x.has=W->x.qB.l=[])/\Ym x.qB)->N (f v) (λv=>(v= .inl V->False)/\(v= .inr ()-> ∀y∈x::r,WS y)))->
      N (wR x>>=f) (λv=>(v= .inl V->False)/\(v= .inr ()-> ∀y∈x::r,WS y)):=λs=>Y' Ky s
    have prev: ¬(k:Z)=0-> ∀{f:C->J (F⊕Unit)},(∀ y,N (f y) (λv=>(v= .inl V->False)/\(v= .inr ()-> ∀y∈x::r,WS y)))->N (qk l.l (q?.wrap ((k:Z)-1))>>=f) (λv=>(v= .inl V->False)/\(v= .inr ()-> ∀y∈x::r,WS y)):=by intro h f s;(repeat (first|(rw [A];rotate_left;omega;omega)|(rw [jy];rotate_left;omega;omega)));exact .bind V_ λy _=>s y
    have Q:x.kind=1->0<=x.n->x.n<=9999->(x.opts.l=[]/\(x.has=V->x.qR=W)/\(x.has=W->x.qB.l=[])/\Ym x.qB)->WS x:=λa b c d=>
     .mk x d.2.2.2 (λh=>o?) (λh=>o?) (λ_=>⟨d.1,d.2.1,d.2.2.1⟩) o? (λ_=>⟨b,c⟩)
    have H:x.kind=3->(x.opts.l=[]/\(x.has=V->x.qR=W)/\(x.has=W->x.qB.l=[])/\Ym x.qB)->WS x:=λa d=>
     .mk x d.2.2.2 (λh=>o?) (λh=>o?) (λ_=>⟨d.1,d.2.1,d.2.2.1⟩) o? (λh=>o?)
    have w0:x.kind=0->x.qB.l=[]->WS x:=λa b=>
     .mk x (by simp[b]) (λ_=>b) (λh=>o?) (λh=>o?) o? (λh=>o?)
    have w2:x.kind=2->x.qB.l=[]->x.has=W->x.qR=W->0<x.opts.l.length->0<=x.n->x.n<=9999->WS x:=λa b c d e f g=>
     .mk x (by simp[b]) (λh=>o?) (λ_=>⟨c,d,b,e⟩) (λh=>o?) o? (λ_=>⟨f,g⟩)
    have i:=Dv x.text o?;rw[xb.eq_1,R (by simpa using w),ZX o? w];refine .go a2 ?_;(repeat' (first|exact .ret ⟨by simp,by simp⟩|(refine .tI ?_ ?_<;>intro hT)|(refine prev ‹_› λy=>?_)|refine .bind (Wk x.qZ) λv _=>?_|refine .bind i λv _=>?_|refine stop λv q=>?_));(all_goals refine next ?_);all_goals first|exact Q (by omega) (by omega) (by omega) (by simp_all)|exact H (by omega) (by simp_all)|exact w0 (by omega) (len_nil (by omega))|exact w2 (by omega) (len_nil (by omega)) (by simp_all) (by simp_all) (by omega) (by omega) (by omega)
 rw[mN.eq_1];refine .bind (key l.l 0 rfl) λv q=>?_;rcases v with v|v;(exact .ret λh=>by subst h;exact B rfl q.1);exact .ret λ_=>q.2 rfl
theorem Gl(l:E C)(a:L (l.l.map sJ)<=100000000):N (eV l) (λc=>c=V->Ym l):=by unfold eV;refine .bind (To _ l (ke _) a) λv _=>?_;refine .tI ?_ ?_<;>intro hT;refine .bind (L1 l (by unfold lB;omega)) λv b=>?_;exact .ret b;exact .ret z?
theorem On: ∀(m:U)(i:Z)(b:Y D),m=(b.length-i).toNat->0<=i->b.length<=1099511627776->N (vC (i,b)) (λr=>r.length=b.length):=by intro m;induction m using s? with|_ m ih=>intro i b hm h0 hB;rw[vC.eq_1];exact tW
theorem JG(s:I)(hs:s.length<=1099511627776):N (m9 s) (λr=>r.length=s.length):=by unfold m9;have:= @On;exact tW
theorem A1: ∀(m:U)(i:Z)(b:Y D),m=(b.length-i).toNat->0<=i->b.length<=1099511627776->N (yO (i,b)) (λr=>r.length=b.length):=by intro m;induction m using s? with|_ m ih=>intro i b hm h0 hB;rw[yO.eq_1];exact tW
theorem Sv(s:I)(hs:s.length<=1099511627776):N (aD s) (λr=>r.length=s.length):=by unfold aD;have:= @A1;exact tW
theorem K2(c:I):N (cB c) (λ_=>True):=by unfold cB;refine .tI ?_ ?_<;>intro a;refine .bind .get λb hb=>?_;refine .bind (cA b) λv _=>?_;refine .tI ?_ ?_<;>intro a;exact .ret trivial;refine .bind (tR b) λv _=>?_;refine .tI ?_ ?_<;>intro a;exact .ret trivial;exact .ret trivial;exact .ret trivial
theorem Uh(rows:E zf)(hl:rows.l.length<=1099511627776)(c:I):N (iE rows c) (λ_=>True):=by
 have key: ∀(r:Y zf)(k:U),rows.l.drop k=r->N (pd (rows,c,(k:Z))) (λ_=>True):=by intro r;induction r with|nil=>intro k a;rw[pd.eq_1,X (by simpa using uU a)];exact .ret trivial|cons x r b=>intro k a;obtain⟨d,a2,a3,a4⟩:=yB a;have b:=b (k+1) a3;rw[pd.eq_1,R (by simpa using d),ZX o? d];exact tW
 unfold iE;refine .bind (key rows.l 0 rfl) λv _=>?_;rcases v with v|v<;>exact .ret trivial
theorem Ow(rows:E zf)(hl:rows.l.length<=1099511627776)(n f:F)(c:I)(a:c.length<=1099511627776):N (Qj rows n f c) (λ_=>True):=by unfold Qj;refine .bind (Uh rows hl c) λv _=>?_;refine .tI ?_ ?_<;>intro b;refine .bind (JG c a) λd _=>?_;refine .bind (Uh rows hl d) λw _=>?_;refine .tI ?_ ?_<;>intro b;exact .ret trivial;refine .bind (Sv c a) λd _=>?_;refine .bind (Uh rows hl d) λw _=>?_;refine .tI ?_ ?_<;>intro b;exact .ret trivial;exact .ret trivial;exact .ret trivial
structure rz (s:I) (n:U) (b:qj):Prop where
 hs:s.length<=1048576
 cs:b.cs.l.length=n
 clen: ∀c∈b.cs.l,c.length<=s.length
 yi:b.yi.l.length=n+1
 mono:b.yi.l.Pairwise (· < ·)
 W2: ∀x∈b.yi.l,0<=x/\x<=s.length
 fuel:0<=b.fuel/\b.fuel<=20000
 hn:n<=1048576
structure aj (b c:qj):Prop where
 cs:c.cs=b.cs
 yi:c.yi=b.yi
 fold:c.fold=b.fold
 fuel:c.fuel<=b.fuel
theorem aj.refl(b:qj):aj b b:=⟨rfl,rfl,rfl,y! _⟩
theorem aj.trans{a b c:qj}(e:aj a b)(d:aj b c):aj a c:=⟨d.cs.trans e.cs,d.yi.trans e.yi,d.fold.trans e.fold,q05 d.fuel e.fuel⟩
def N6(s:I)(x:qg):Prop:=x.qG= -1\/(0<=x.qG/\x.qG<=x.to/\x.to<=s.length)
structure rW (s:I) (g:U) (p:E qg):Prop where
 len:p.l.length=g
 ok: ∀x∈p.l,N6 s x
inductive PC (g:U) (j:Z):J qe->Prop
 |none:PC g j none
 |V0 (k:qe) (hk:k.kind=1) (g0:0<=k.g) (g1:k.g<g) (f0:0<=k.qG) (f1:k.qG<=j) (h:PC g j k.rest):PC g j (T k)
 |again (k:qe) (hk:k.kind=2) (hx:WF k.x) (hl:vi k.x) (h7:k.x.kind=7) (g0:0<=k.g) (g1:k.g+aT k.x<=g) (h:PC g j k.rest):PC g j (T k)
 |hold (k:qe) (hk:k.kind=0) (hx:WF k.x) (hl:vi k.x) (g0:0<=k.g) (g1:k.g+aT k.x<=g) (h:PC g j k.rest):PC g j (T k)
theorem PC.ZD{g:U}{i j:Z}(hij:i<=j){k:J qe}(h:PC g i k):PC g j k:=by induction h with|none=>exact .none|V0 k b g0 g1 f0 f1 _ a=>exact .V0 k b g0 g1 f0 o? a|again k b c hl d g0 g1 _ a=>exact .again k b c hl d g0 g1 a|hold k b c hl g0 g1 _ a=>exact .hold k b c hl g0 g1 a
mutual
def kW:qe->U
 |⟨a,x,_,_,_,r⟩=>(if a=0 then cW x else 1)+kWO r
def kWO:J qe->U
 |none=>0
 |some k=>kW k
end
theorem kW_eq(k:qe):kWO (T k)=(if k.kind=0 then cW k.x else 1)+kWO k.rest:=by cases k;simp[kW,kWO]
section
variable {s:I} {n:U}
theorem Yf{b:qj}(c:rz s n b){i:Z}(d:0<=i)(h1:i<=n):N (qk b.yi.l i) (λx=>b.yi.l[i.toNat]? =T x/\0<=x/\x<=s.length):=
 (V_ d (by have:=c.yi;omega)).mono λx a=>⟨a.1,c.W2 x a.2⟩
theorem DE{l:Y Z}(d:l.Pairwise (· < ·)){i j:U}{a c:Z}(hi:l[i]? =T a)(e:l[j]? =T c)(h:i<j):a<c:=by obtain⟨i1,rfl⟩:=qK hi;obtain⟨b,rfl⟩:=qK e;exact Y.pairwise_iff_getElem.1 d i j i1 b h
theorem WE{l:Y Z}(hm:l.Pairwise (· < ·)){i j:U}{a c:Z}(hi:l[i]? =T a)(hj:l[j]? =T c)(h:i<=j):a<=c:=by have:= @DE;exact tW
theorem q0x(x:K)(f:vi x)(i:Z)(h0:0<=i)(h1:i<=n)(b:qj)(d:rz s n b):N (tE x i b) (λr=>0<=r.1/\(r.2=V->i+r.1<=n)):=by have hc:=d.cs;have hn:=d.hn;have hs:=d.hs;have hxw:=uR x;have hrows:=xP dH x.rows.l;unfold vi at f;unfold tE;refine .tI ?_ ?_<;>intro a;exact .ret ⟨z?,λ_=>u?⟩;refine .tI ?_ ?_<;>intro a;exact .ret ⟨z?,λ_=>u?⟩;refine .tI ?_ ?_<;>intro a;{refine .tI ?_ ?_<;>intro a;{(repeat (first|(rw [A];rotate_left;omega;omega)|(rw [jy];rotate_left;omega;omega)));refine .bind .get λc _=>?_;refine .bind (K2 c) λv _=>?_;refine .tI ?_ ?_<;>intro a;refine .bind .get λc _=>?_;refine .bind (K2 c) λv _=>?_;exact .ret ⟨z?,λ_=>u?⟩;exact .ret ⟨z?,λ_=>u?⟩};refine .tI ?_ ?_<;>intro a;refine .bind .get λc _=>?_;refine .bind (K2 c) λv _=>?_;exact .ret ⟨z?,λ_=>u?⟩;exact .ret ⟨z?,λ_=>u?⟩};refine .tI ?_ ?_<;>intro a;exact .ret ⟨z?,z?⟩;refine .bind .get λc e=>?_;have W0:=d.clen c e.2;refine .tI ?_ ?_<;>intro a;exact .ret ⟨z?,λ_=>u?⟩;refine .tI ?_ ?_<;>intro a;refine .bind (Ow x.rows o? _ _ c o?) λv _=>?_;exact .ret ⟨z?,λ_=>u?⟩;refine .tI ?_ ?_<;>intro a;exact .ret ⟨z?,λ_=>u?⟩;refine .tI ?_ ?_<;>intro a;refine .bind (JG c o?) λv _=>?_;refine .bind (JG x.char o?) λv _=>?_;exact .ret ⟨z?,λ_=>u?⟩;exact .ret ⟨z?,z?⟩
end
abbrev OnR:=Z×E qg×F×qj
structure Cc (s:I) (n g:U) (i:Z) (b:qj) (r:OnR):Prop where
 run:rz s n r.2.2.2
 ZD:aj b r.2.2.2
 ok:r.2.2.1=V->i<=r.1/\r.1<=n/\rW s g r.2.1
theorem Cc.mono{s:I}{n g:U}{i j:Z}{b c:qj}{r:OnR}(h:Cc s n g j c r)(a:i<=j)(hl:aj b c):Cc s n g i b r:=
 ⟨h.run,hl.trans h.ZD,λk=>⟨q05 a (h.ok k).1,(h.ok k).2⟩⟩
theorem Cc.fail{s:I}{n g:U}{i:Z}{b:qj}(a:rz s n b){e:Z}{p:E qg}:Cc s n g i b (e,p,W,b):=⟨a,.refl b,z?⟩
section
variable {s:I} {n g:U}
structure N3 (s:I) (n g:U) (k:J qe) (i:Z) (parts:E qg) (b:qj):Prop where
 i0:0<=i
 i1:i<=n
 k:PC g i k
 p:rW s g parts
 run:rz s n b
 g:g<=1000000000
def PD(s:I)(n g:U)(k:J qe)(i:Z)(parts:E qg)(b:qj):Prop:=N (zp (k,i,parts,b)) (Cc s n g i b)
theorem BM{p:E qg}(h:p.l.length=g)(hg:g<=1000000000):ql p.l.length 16=V:=by simp only[ql,xn,M];omega
theorem rW.set{p:E qg}(h:rW s g p)(i:U){x:qg}(c:N6 s x)(b:F):rW s g (⟨b,p.l.set i x⟩:E qg) where
 len:=by simpa using h.len
 ok:=by intro y a;rcases Y.mem_or_eq_of_mem_set a with a|rfl;exact h.ok y a;exact c
theorem dq{o:J OnR}{Q:OnR->Prop}(h:N o Q):N (o>>=λv=>T (v.1,v.2.1,v.2.2.1,v.2.2.2)) Q:=Y' h λv a=> .ret a
theorem IK(k:qe)(i:Z)(parts:E qg)(b:qj)(h:N3 s n g (T k) i parts b)(hk:k.kind=0)(h7:k.x.kind≠7)
  (go: ∀k i parts c,N3 s n g k i parts c->c.fuel.toNat<b.fuel.toNat->PD s n g k i parts c):N (bV (T k,i,parts,b)) (Cc s n g i b):=by
 have hf:=h.run.fuel;have P:=h.g;have hn:=h.run.hn;obtain⟨q,hl,g0,g1,w⟩:WF k.x/\vi k.x/\0<=k.g/\k.g+aT k.x<=g/\PC g i k.rest:=by cases h.k with|V0 _ h1=>omega|again _ h1=>omega|hold _ _ a b c d e=>exact⟨a,b,c,d,e⟩
 rw[bV.eq_1];refine .tI ?_ ?_<;>intro o;exact .ret ⟨⟨h.run.hs,h.run.cs,h.run.clen,h.run.yi,h.run.mono,h.run.W2,hf,hn⟩,⟨rfl,rfl,rfl,y! _⟩,z?⟩
 have hf0:0<b.fuel:=o?;refine .go rfl ?_;have j:rz s n (qj.mk b.cs b.yi b.fold (q?.wrap (b.fuel-(1:Z))) b.out):=
  ⟨h.run.hs,h.run.cs,h.run.clen,h.run.yi,h.run.mono,h.run.W2,by simp only;rw[A o? o?];omega,hn⟩
 have u:aj b (qj.mk b.cs b.yi b.fold (q?.wrap (b.fuel-(1:Z))) b.out):=⟨rfl,rfl,rfl,by simp only;rw[A o? o?];omega⟩;have z:(qj.mk b.cs b.yi b.fold (q?.wrap (b.fuel-(1:Z))) b.out).fuel.toNat<b.fuel.toNat:=by simp only;rw[A o? o?];omega
 have t:=UP k.x;refine .tI ?_ ?_<;>intro o;(have h5:=o;obtain⟨y,m⟩:=q.one o?;refine .go (a:=y) (by rw[m];rfl) ?_;have f:y∈k.x.qB.l:=by rw[m];simp);rw[R h5,m]at t;simp only[e?,k!,L]at t;rw[wr (n:=k.g+1) o? o?];refine dq ((go _ i parts _ ⟨h.i0,h.i1, ?_,h.p,j,P⟩ z).mono λr j=>j.mono (y! _) u);refine .hold _ rfl (q.qB y f) (tU hl f) u? u? ?_;exact .V0 _ rfl u? u? (by simp only;exact h.i0) u? w;refine .tI ?_ ?_<;>intro o;(have h6:=o;obtain⟨y,m⟩:=q.one o?;refine .go (a:=y) (by rw[m];rfl) ?_;have f:y∈k.x.qB.l:=by rw[m];simp);rw[X o?,m]at t;simp only[e?,k!,L]at t;refine dq ((go _ i parts _ ⟨h.i0,h.i1, ?_,h.p,j,P⟩ z).mono λr j=>j.mono (y! _) u);exact .hold _ rfl (q.qB y f) (tU hl f) u? u? w;refine .bind (q0x k.x hl i h.i0 h.i1 _ j) λv Q=>?_;refine .tI ?_ ?_<;>intro o;exact .ret ⟨j,u,z?⟩;have H:=Q.2 (by simpa using o);have h0:=h.i0;rw[wr (n:=i+v.1) o? o?];refine dq ((go _ (i+v.1) parts _ ⟨o?,H,w.ZD o?,h.p,j,P⟩ z).mono λr j=>j.mono o? u)
theorem Ud(k:qe)(i:Z)(parts:E qg)(b:qj)(h:N3 s n g (T k) i parts b)(d:k.kind=0)(a:k.x.kind≠0/\k.x.kind≠1/\k.x.kind≠7)
  (go: ∀k i parts c,N3 s n g k i parts c->c.fuel.toNat<b.fuel.toNat->PD s n g k i parts c):PD s n g (T k) i parts b:=by unfold PD;rw[zp.eq_1];rw[X z?];refine .go rfl ?_;rw[X (by simp[d]),X (by simp[d]),X (by simp[a.1]),X (by simp[a.2.1]),X (by simp[a.2.2])];exact dq (IK k i parts b h d a.2.2 go)
theorem O0(k:qe)(i:Z)(b:qj)(hl:vi k.x)(g0:0<=k.g)(g1:k.g+aT k.x<=g)(hg:g<=1000000000):
  ∀(m:U)(j:Z)(p:Y qg),m=(aT k.x-j).toNat->0<=j->rW s g ⟨W,p⟩->N (um (T k,i,j,b,p)) (λr=>rW s g ⟨W,r⟩):=by intro m;induction m using s? with|_ m c=>intro j p hm h0 a;have d:=a.len;simp only at d;rw[um.eq_1];refine .go rfl ?_;refine .go (Q3 k.x hl) ?_;refine .tI ?_ ?_<;>intro hT;rw[wr (n:=k.g+j) o? o?,wr (n:=j+1) o? o?];refine .bind .get λy _=>?_;exact c _ o? (j+1) _ rfl o? (a.set _ (.inl rfl) W);exact .ret a
theorem time_tot(k:qe)(i:Z)(parts:E qg)(b:qj)(i0:0<=i)(i1:i<=n)(e:WF k.x)(hl:vi k.x)(m:k.x.kind=7)(g0:0<=k.g)(g1:k.g+aT k.x<=g)(p:PC g i k.rest)(h:rW s g parts)(r:rz s n b)(j:g<=1000000000)
  (go: ∀k i parts c,N3 s n g k i parts c->c.fuel.toNat<b.fuel.toNat->PD s n g k i parts c):N (jq (T k,i,parts,b)) (Cc s n g i b):=by
 rw[jq.eq_1];refine .zY (BM h.len j) ?_;refine .bind (O0 (s:=s) k i b hl g0 g1 j _ 0 parts.l rfl o? ⟨h.len,h.ok⟩) λv q=>?_;refine .go rfl ?_;obtain⟨y,f⟩:=e.one o?;refine .go (a:=y) (by rw[f];rfl) ?_;have d:y∈k.x.qB.l:=by rw[f];simp
 have hyk:=e.rep m y d;have o:=UP k.x;rw[X o?,f]at o;simp only[e?,k!,L]at o;refine dq (Ud _ i _ b ⟨i0,i1, ?_,q,r,j⟩ rfl u? go);refine .hold _ rfl (e.qB y d) (tU hl d) g0 u? ?_;exact .again _ rfl e hl m g0 g1 p
theorem UN(k:qe)(i:Z)(parts:E qg)(b:qj)(i0:0<=i)(i1:i<=n)(q:WF k.x)(hl:vi k.x)(y:k.x.kind=7)(g0:0<=k.g)(g1:k.g+aT k.x<=g)(o:PC g i k.rest)(t:rW s g parts)(h:rz s n b)(u:g<=1000000000)
  (go: ∀k i parts c,N3 s n g k i parts c->c.fuel.toNat<b.fuel.toNat->PD s n g k i parts c)
  (rest: ∀c,rz s n c->c.fuel<=b.fuel->PD s n g k.rest i parts c):N (w8 (T k,i,parts,b)) (Cc s n g i b):=by
 have j: ∀c,rz s n c->aj b c->N (jq (T k,i,parts,c)) (Cc s n g i c):=λc m f=>
  time_tot k i parts c i0 i1 q hl y g0 g1 o t m u λk i p d z h2=>go k i p d z (by have:=f.fuel;have:=m.fuel;have:=h.fuel;omega)
 have t0:=j b h (.refl b);have l:N (zp (k.rest,i,parts,b)) (Cc s n g i b):=rest b h (y! _);have lazy: ∀{c:OnR->Prop}[DecidablePred c],N (zp (k.rest,i,parts,b)>>=λv=>if c v then T (v.1,v.2.1,v.2.2.1,v.2.2.2)else jq (T k,i,parts,v.2.2.2)>>=λw=>T (w.1,w.2.1,w.2.2.1,w.2.2.2)) (Cc s n g i b):=by intro c _;refine .bind l λv a=>?_;refine .ite (λ_=> .ret a) λ_=>?_;exact dq ((j v.2.2.2 a.run a.ZD).mono λr e=>e.mono (y! _) a.ZD)
 have eager: ∀{c:OnR->Prop}[DecidablePred c],N (jq (T k,i,parts,b)>>=λv=>if c v then T (v.1,v.2.1,v.2.2.1,v.2.2.2)else zp (k.rest,i,parts,v.2.2.2)>>=λw=>T (w.1,w.2.1,w.2.2.1,w.2.2.2)) (Cc s n g i b):=by intro c _;refine .bind t0 λv a=>?_;refine .ite (λ_=> .ret a) λ_=>?_;exact dq ((rest v.2.2.2 a.run a.ZD.fuel).mono λr e=>e.mono (y! _) a.ZD)
 rw[w8.eq_1];refine .go rfl ?_;repeat' (first|exact dq t0|exact dq l|exact lazy|exact eager|refine .ite (λ_=>?_) (λ_=>?_))
theorem seq_L1(k:qe)(i:Z)(parts:E qg)(b:qj)(j:WF k.x)(hl:vi k.x)(g0:0<=k.g)(g1:k.g+L (k.x.qB.l.map aT)<=g)(hg:g<=1000000000):
  ∀(m:U)(rest:J qe),m<=k.x.qB.l.length->PC g i rest->
   N (uK (T k,i,parts,rest,k.g+(L ((k.x.qB.l.take m).map aT):U),(m:Z)-1,b)) (λr=>PC g i r/\kWO r=L ((k.x.qB.l.take m).map cW)+kWO rest):=by intro m;have s9:=ot k.x;unfold vi at hl;induction m with|zero=>intro rest _ d;rw[uK.eq_1,X z?];exact .ret ⟨d,by simp[L]⟩|succ m f=>(intro rest hm d;rw[uK.eq_1,R z?];refine .go rfl ?_;have c:m<k.x.qB.l.length:=o?;have e:k.x.qB.l[m]∈k.x.qB.l:=Y.getElem_mem c;have e1:((m+1:U):Z)-1=(m:Z):=o?;rw[e1];refine .go (xQ c) ?_;have a:vi k.x.qB.l[m]:=tU (by unfold vi;omega) e;refine .go (Q3 _ a) ?_;have e2:k.x.qB.l.take (m+1)=k.x.qB.l.take m++[k.x.qB.l[m]]:=by rw[Y.take_succ_eq_append_getElem c]);(have e3:=wB aT (k.x.qB.l.take m) k.x.qB.l[m];have p:=wB cW (k.x.qB.l.take m) k.x.qB.l[m];have e5:L (k.x.qB.l.map aT)=L ((k.x.qB.l.take m).map aT)+L ((k.x.qB.l.drop m).map aT):=by conv=>lhs;rw[<- Y.take_append_drop m k.x.qB.l,z_,pj]);(have e6:aT k.x.qB.l[m]<=L ((k.x.qB.l.drop m).map aT):=jF (by rw[Y.drop_eq_getElem_cons c];exact Y.mem_cons_self);rw[e2,e3,p];have o:q?.wrap (k.g+((L ((k.x.qB.l.take m).map aT)+aT k.x.qB.l[m]:U):Z)-(aT k.x.qB.l[m]:Z))=k.g+(L ((k.x.qB.l.take m).map aT):U):=by rw[wr o? o?];omega);rw[o,wr (n:=(m:Z)-1) o? o?];refine(f _ o? (.hold _ rfl (j.qB _ e) a u? u? d)).mono λr h=>⟨h.1, ?_⟩;rw[h.2,kW_eq];simp only[if_true];omega
theorem alt_L3(k:qe)(i:Z)(parts:E qg)(b:qj)(hx:WF k.x)(hl:vi k.x)(g0:0<=k.g)(g1:k.g+L (k.x.qB.l.map aT)<=g)(hg:g<=1000000000)(sr:PC g i k.rest)
  (go: ∀y∈k.x.qB.l,∀(q:Z) c,0<=q->q+aT y<=g->rz s n c->c.fuel<=b.fuel->PD s n g (T (qe.mk (0:Z) y q (0:Z) (0:Z) k.rest)) i parts c):
  ∀(r:Y K)(m:U)(q:Z)(c:qj),k.x.qB.l.drop m=r->k.g<=q->q+L (r.map aT)<=g->rz s n c->aj b c->
   N (wJ (T k,i,parts,q,(m:Z),c)) (λr=>match r with| .inl v=>Cc s n g i b v| .inr d=>rz s n d/\aj b d):=by have s9:=ot k.x;unfold vi at hl;intro r;induction r with|nil=>intro m q c f t j h a;rw[wJ.eq_1];have:= @uU;exact tW|cons y r p=>intro m q c f t j h a;obtain⟨o,a2,a3,a4⟩:=yB f;simp only[e?,L]at j;rw[wJ.eq_1];refine .go rfl ?_;rw[R (by simpa using o),ZX o? o];refine .go a2 ?_;refine .bind (go y a4 q c o? o? h a.fuel) λv e=>?_;refine .ite (λ_=> .ret (e.mono (y! _) a)) λ_=>?_;refine .go (Q3 y (tU (by unfold vi;omega) a4)) ?_;rw[wr (n:=q+(aT y:Z)) o? o?];exact p (m+1) _ _ a3 o? o? e.run (a.trans e.ZD)
theorem on_tot: ∀(f w:U)(k:J qe)(i:Z)(parts:E qg)(b:qj),b.fuel.toNat=f->kWO k=w->N3 s n g k i parts b->PD s n g k i parts b:=by
 intro f;induction f using s? with
  |_ f r=>intro w;induction w using s? with
  |_ w ihw=>(intro k i parts b hf t h;have go: ∀k i parts c,N3 s n g k i parts c->c.fuel.toNat<b.fuel.toNat->PD s n g k i parts c:=λk i p c a Q=>r _ o? _ k i p c rfl rfl a;have NQ: ∀k i parts c,N3 s n g k i parts c->c.fuel<=b.fuel->kWO k<w->PD s n g k i parts c:=by intro k' i p c a Q h3;have:=a.run.fuel;by_cases h4:c.fuel.toNat=f;exact ihw _ h3 k' i p c h4 rfl a;exact r _ o? _ k' i p c rfl rfl a);have j:=h.g;have hn:=h.run.hn;cases hk:k with
  |none=>unfold PD;rw[zp.eq_1,R z?];exact .ret ⟨h.run,.refl b,λ_=>⟨y! _,h.i1,h.p⟩⟩
  |some k=>
   rw[hk]at h t;rw[kW_eq]at t;cases h.k with
    |V0 _ a g0 g1 f0 f1 e=>unfold PD;rw[zp.eq_1,X z?];refine .go rfl ?_;rw[R (by simp[a])];refine .zY (BM h.p.len j) ?_;have i1:=h.i1;refine .bind (Yf h.run f0 o?) λx m=>?_;refine .bind (Yf h.run h.i0 h.i1) λy o=>?_;refine .bind (V_ g0 (by have:=h.p.len;omega)) λz _=>?_;rw[X o?]at t;refine dq (NQ k.rest i _ b ⟨h.i0,h.i1,e,h.p.set _ (.inr ⟨m.2.1, ?_,o.2.2⟩) W,h.run,j⟩ (y! _) o?);exact WE h.run.mono m.1 o.1 o?
    |again _ a m hl h7 g0 g1 e=>
     have rep:N (w8 (T k,i,parts,b)) (Cc s n g i b):=
      UN k i parts b h.i0 h.i1 m hl h7 g0 g1 e h.p h.run j go λc H d=>NQ k.rest i parts c ⟨h.i0,h.i1,e,h.p,H,j⟩ d (by rw[X o?]at t;omega)
     unfold PD;rw[zp.eq_1,X z?];refine .go rfl ?_;rw[X (by simp[a]),R (by simp[a])];refine .ite (λ_=>N.ite (λ_=> .ret (.fail h.run)) λ_=>dq rep) λ_=>dq rep
    |hold _ a m hl g0 g1 e=>rw[R a]at t;have P7:=UP k.x;have hwx:=uR k.x;by_cases P:k.x.kind=0;rw[X o?]at P7;unfold PD;rw[zp.eq_1,X z?];refine .go rfl ?_;rw[X (by simp[a]),X (by simp[a]),R (by simp[P])];refine .go (Q3 k.x hl) ?_;have s9:=ot k.x;unfold vi at hl;have Q:=seq_L1 k i parts b m (by unfold vi;omega) g0 o? j k.x.qB.l.length k.rest (ke _) e;rw[Y.take_length]at Q;rw[wr (n:=k.g+(aT k.x:Z)) o? o?,wr (n:=(k.x.qB.l.length:Z)-1) o? o?];rw[show k.g+(aT k.x:Z)=k.g+((L (k.x.qB.l.map aT):U):Z) by omega];refine .bind Q λv u=>?_;exact dq (NQ v i parts b ⟨h.i0,h.i1,u.1,h.p,h.run,j⟩ (y! _) o?);by_cases k1:k.x.kind=1;rw[X o?]at P7;unfold PD;rw[zp.eq_1,X z?];refine .go rfl ?_;rw[X (by simp[a]),X (by simp[a]),X (by simp[P]),R (by simp[k1])];refine .bind (alt_L3 (s:=s) (n:=n) k i parts b m hl g0 o? j e ?_ k.x.qB.l 0 k.g b rfl (y! _) o? h.run (.refl b)) λv u=>?_;intro y o q c q0 q1 H d;have:=ME o;refine NQ _ i parts c ⟨h.i0,h.i1,.hold _ rfl (m.qB y o) (tU hl o) q0 q1 e,h.p,H,j⟩ d ?_;rw[kW_eq];simp only[if_true];omega;rcases v with v|v;exact .ret u;exact .ret ⟨u.1,u.2,z?⟩;by_cases k7:k.x.kind=7;unfold PD;rw[zp.eq_1,X z?];refine .go rfl ?_;rw[X (by simp[a]),X (by simp[a]),X (by simp[P]),X (by simp[k1]),R (by simp[k7])];refine dq (UN _ i parts b h.i0 h.i1 m hl k7 g0 g1 e h.p h.run j go λc H d=>?_);exact NQ k.rest i parts c ⟨h.i0,h.i1,e,h.p,H,j⟩ d (by have:=lq k.x;omega);exact Ud k i parts b h a ⟨P,k1,k7⟩ go
end
theorem splitL(s:I): ∀(r:I)(k f:U)(l out:Y I),s.drop k=r->k<=s.length->s.length<=1048576->(∀ c∈l,c.length<=s.length)->xp (s,(f:Z),(k:Z),l)=T out-> ∀c∈out,c.length<=s.length:=by intro r;induction r with|nil=>intro k f l out d i hs hl h;have g:=u9 d;obtain rfl:k=s.length:=o?;rw[xp.eq_1]at h;simp only[y!,decide_true,if_true,beq_self_eq_true,zl,J!]at h;obtain⟨r,a,h⟩:=h;split at h;rw[xp.eq_1,X (by rw[wr o? o?];simp;omega)]at h;cases h;intro c hc;rcases t?.1 hc with hc|hc;exact hl c hc;simp only[d?]at hc;subst hc;rw[<- KX a];simp;cases h|cons b r e=>intro k f l out d i hs hl h;obtain⟨m,a2,a3,_⟩:=yB d;have g:((k:Z)<=(s.length:Z)):=o?;have j:((k:Z)==(s.length:Z))=W:=v?;rw[xp.eq_1]at h;simp only[g,decide_true,if_true,j,vH,if_false,a2,zl,qM,Ya,ZX o? m]at h;split at h;rw[J!]at h;obtain⟨r1,a,h⟩:=h;split at h;refine e (k+1) k _ out a3 o? hs ?_ h;intro c hc;rcases t?.1 hc with hc|hc;exact hl c hc;simp only[d?]at hc;subst hc;rw[<- KX a];simp;omega;cases h;exact e (k+1) f l out a3 o? hs hl h
theorem Lm(s:I)(hs:s.length<=1048576): ∀(r:I)(k:U)(l:Y Z),s.drop k=r->k<=s.length->l.length<=k->l.Pairwise (· < ·)->(∀ x∈l,0<=x/\x<k)->
  ∃out,k9 (s,(k:Z),l)=T out/\out.length=l.length+r.countP Vh+1/\out.Pairwise (· < ·)/\ ∀x∈out,0<=x/\x<=s.length:=by
 have UO: ∀n,n<=1099511627777->ql n 8=V:=by intro n hn;simp only[ql,xn,M];omega
 have MJ: ∀(l:Y Z)(k:U),l.Pairwise (· < ·)->(∀ x∈l,0<=x/\x<(k:Z))->(l++[(k:Z)]).Pairwise (· < ·):=by intro l k f m;refine Y.pairwise_append.2 ⟨f,z?,λa q b d=>?_⟩;simp only[d?]at d;subst d;exact(m a q).2
 intro r;induction r with
  |nil=>intro k l j p u e c;have f:=u9 j;obtain rfl:k=s.length:=o?;rw[k9.eq_1];simp only[y!,decide_true,if_true,beq_self_eq_true,UO _ (show l.length+1<=_ by omega)];rw[k9.eq_1,X (by rw[wr o? o?];simp;omega)];refine⟨_,rfl,z?,MJ l _ e c, ?_⟩;intro x hx;rcases t?.1 hx with hx|hx;have:=c x hx;omega;simp only[d?]at hx;omega
  |cons b r o=>
   intro k l j p u e c;obtain⟨t,a2,a3,_⟩:=yB j;have f:((k:Z)<=(s.length:Z)):=o?;have m:((k:Z)==(s.length:Z))=W:=v?;rw[k9.eq_1];simp only[f,decide_true,if_true,m,vH,if_false,a2,zl,qM,Ya,ZX o? t];cases d:Vh b;obtain⟨out,i,h,g⟩:=o (k+1) l a3 o? o? e (λx hx=>by have:=c x hx;omega);exact⟨out,by simpa using i,by rw[h];simp[S!,d],g⟩
   obtain⟨out,i,h,g⟩:=o (k+1) (l++[(k:Z)]) a3 o? v? (MJ l k e c) (λx hx=>by
    rcases t?.1 hx with hx|hx
    ·have:=c x hx;omega
    simp only[d?]at hx;omega)
   refine⟨out, ?_,by rw[h];simp[S!,d];omega,g⟩;simp only[if_true,UO _ (show l.length+1<=_ by omega),i]
theorem BW(fold:Bool)(s:qa)(hs:s.length<=1048576)(fuel:Int):qL (cN fold s fuel) (λb=> ∃n,rz s n b):=by
 have hfu:0<=(if (20000:Int)<(if (0:Int)>fuel then(0:Int)else fuel)then(20000:Int)else(if (0:Int)>fuel then(0:Int)else fuel))/\(if (20000:Int)<(if (0:Int)>fuel then(0:Int)else fuel)then(20000:Int)else(if (0:Int)>fuel then(0:Int)else fuel))<=20000:=by constructor<;>(repeat' split)<;>omega
 unfold cN;by_cases h0:s.length=0;(have:s=[]:=by simpa using h0);subst this;refine .go (a:=(⟨true,[]⟩:Sl qa)) (by unfold gn;rw[xp.eq_1];simp) ?_;refine .go (a:=(⟨false,[0]⟩:Sl Int)) (by unfold du;rw[k9.eq_1];simp) ?_;exact .ret ⟨0,⟨z?,rfl,z?,rfl,z?,z?,hfu,o?⟩⟩;obtain⟨o1,p1,p2⟩:=Sm s o? (s.drop 1) 1 0 [] rfl o? o? z?;have p3:=splitL s (s.drop 1) 1 0 [] o1 rfl o? hs z? p1;obtain⟨o2,q1,q2,q3,q4⟩:=Lm s hs (s.drop 1) 1 [0] rfl o? z? z? z?;have hc:(s.drop 1).countP Vh<=s.length-1:=by have:=List.countP_le_length (p:=Vh) (l:=s.drop 1);simp only[List.length_drop]at this;exact this
 refine .go (a:=(⟨o1.isEmpty,o1⟩:Sl qa)) (by unfold gn;exact Option.bind_eq_some_iff.2 ⟨o1,p1,rfl⟩) ?_;refine .go (a:=(⟨false,o2⟩:Sl Int)) (by unfold du;exact Option.bind_eq_some_iff.2 ⟨o2,q1,rfl⟩) ?_;refine .ret ⟨o1.length,⟨hs,rfl,p3, ?_,q3,q4,hfu, ?_⟩⟩;exact tW;simp only[List.length_nil]at p2;omega
structure XH (s:I) (n g:U) (b:qj) (i:Z) (m:qo):Prop where
 ex: ∃j e:U,i<=j/\j<=e/\e<=n/\b.yi.l[j]? =T m.span.qG/\b.yi.l[e]? =T m.span.to
 parts:rW s g m.parts
section
variable {s:I} {n:U}
theorem none_tot(i:Z)(b:qj)(x:K)(t:qo)(hl:vi x)(hg:aT x<=1000000000): ∀(m:U)(j:Z)(l:Y qg),m=(aT x-j).toNat->0<=j->j<=aT x->(l.length:Z)=j->(∀ y∈l,N6 s y)->
  N (bU (i,j,b,x,t,l)) (λr=>r.length=aT x/\ ∀y∈r,N6 s y):=by intro m;induction m using s? with|_ m c=>intro j l hm h0 h1 hlen a;rw[bU.eq_1];refine .go (Q3 x hl) ?_;refine .tI ?_ ?_<;>intro hT;refine .zY (by simp only[ql,xn,M];omega) ?_;rw[wr (n:=j+1) o? o?];refine c _ o? (j+1) _ rfl o? o? v? ?_;intro y hy;rcases t?.1 hy with hy|hy;exact a y hy;simp only[d?]at hy;subst hy;exact .inl rfl;exact .ret ⟨o?,a⟩
theorem at16_tot(x:K)(l:WF x)(hl:cW x<=1000000000)(i:Z)(f:0<=i)(e:i<=n)(b:qj)(o:rz s n b):
  N (dx x i b) (λr=>rz s n r.2.2/\aj b r.2.2/\(r.2.1=V->XH s n (aT x) b i r.1)):=by
 have hgl:=Fx x;have c:vi x:=by unfold vi;omega
 unfold dx;refine .bind (none_tot (s:=s) i b x _ c o? _ 0 [] rfl o? o? rfl z?) λv d=>?_;refine .bind (on_tot (s:=s) (n:=n) (g:=aT x) _ _ _ i _ b rfl rfl ⟨f,e,.hold _ rfl l c u? u? .none,⟨d.1,d.2⟩,o,o?⟩) λw a=>?_;refine .ite (λ_=> .ret ⟨a.run,a.ZD,z?⟩) λm=>?_;have h:=a.ok (by simpa using m);refine .bind (Yf a.run f e) λy k=>?_;refine .bind (Yf a.run o? h.2.1) λz j=>?_;refine .ret ⟨a.run,a.ZD,λ_=>⟨⟨i.toNat,w.1.toNat,o?,o?,o?, ?_, ?_⟩,h.2.2⟩⟩;rw[<- a.ZD.yi];exact k.1;rw[<- a.ZD.yi];exact j.1
theorem XH.mono{g:U}{b c:qj}{i j:Z}{m:qo}(h:XH s n g c j m)(hij:i<=j)(hl:aj b c):XH s n g b i m:=by obtain⟨⟨p,e,h1,l,k,f,d⟩,a⟩:=h;exact⟨⟨p,e,o?,l,k,by rw[<- hl.yi];exact f,by rw[<- hl.yi];exact d⟩,a⟩
theorem Oi(x:K)(g:WF x)(hl:cW x<=1000000000)(t:qo): ∀(m:U)(i:Z)(b:qj),m=(n+1-i).toNat->0<=i->rz s n b->
  N (uk (i,b,x,t)) (λr=>match r with| .inl v=>rz s n v.2.1/\aj b v.2.1/\(v.1=V->XH s n (aT x) b i v.2.2)| .inr c=>rz s n c/\aj b c):=by intro m;induction m using s? with|_ m f=>intro i b hm j e;have ho:=e.yi;have hn:=e.hn;rw[uk.eq_1];refine .tI ?_ ?_<;>intro hT;refine .bind (at16_tot x g hl i j o? b e) λv a=>?_;refine .ite (λ_=> .ret a) λ_=>?_;rw[wr (n:=i+1) o? o?];refine(f _ o? (i+1) v.2.2 rfl o? a.1).mono λr d=>?_;rcases r with r|r;exact⟨d.1,a.2.1.trans d.2.1,λh=>(d.2.2 h).mono o? a.2.1⟩;exact⟨d.1,a.2.1.trans d.2⟩;exact .ret ⟨e,.refl b⟩
theorem YZ(x:K)(hx:WF x)(hl:cW x<=1000000000)(i:Z)(h0:0<=i)(b:qj)(hb:rz s n b):
  N (mL x i b) (λr=>rz s n r.2.2/\aj b r.2.2/\(r.2.1=V->XH s n (aT x) b i r.1)):=by unfold mL;have:= @Oi;exact tW
theorem Vk(a:Z)(b:qj)(f:rz s n b):N (bX a b) (λr=> -1<=r/\ ∀e:U,b.yi.l[e]? =T a->r=e):=by
 have ho:=f.yi;have hn:=f.hn;have key: ∀(r:Y Z)(k:U),b.yi.l.drop k=r->N (wQ (a,(k:Z),b)) (λv=>match v with| .inl i=> ∃j:U,i=j/\b.yi.l[j]? =T a| .inr _=> ∀e:U,k<=e->b.yi.l[e]? ≠T a):=by intro r;induction r with|nil=>intro k c;rw[wQ.eq_1,X (by simpa using uU c)];refine .ret λe d=>?_;rw[Y.getElem?_eq_none (by have:=u9 c;omega)];simp|cons y r ih=>intro k c;obtain⟨o,a2,a3,a4⟩:=yB c;obtain⟨b1,b2,b3⟩:=drop_cons c;rw[wQ.eq_1,R (by simpa using o),ZX o? o];exact tW
 unfold bX;refine .bind (key b.yi.l 0 rfl) λv g=>?_;rcases v with v|v;(obtain⟨j,rfl,m⟩:=g;refine .ret ⟨o?,λe d=>?_⟩;have h1: ¬j<e:=λh=>by have:=DE f.mono m d h;omega);(have h2: ¬e<j:=λh=>by have:=DE f.mono d m h;omega);omega;exact .ret ⟨o?,λe d=>B d (g e (U.zero_le e))⟩
def Ms(s:I)(g:U):Z->Y qo->Prop
 |lo,[]=>0<=lo/\lo<=s.length
 |lo,m::r=>0<=lo/\lo<=m.span.qG/\m.span.qG<=m.span.to/\rW s g m.parts/\Ms s g m.span.to r
def OB:Z->Y qo->Z
 |lo,[]=>lo
 |_,m::r=>OB m.span.to r
theorem Ms.lo{g:U}: ∀{l:Y qo}{lo:Z},Ms s g lo l->0<=lo/\lo<=s.length
 |[],lo,h=>h
 |m::r,lo,h=>by have:=Ms.lo h.2.2.2.2;have h1:=h.1;have h2:=h.2.1;have h3:=h.2.2.1;omega
theorem Wn: ∀(l:Y qo)(lo:Z)(m:qo),OB lo (l++[m])=m.span.to
 |[],_,_=>rfl
 |_::r,_,m=>Wn r _ m
theorem Ms.MJ{g:U}: ∀{l:Y qo}{lo:Z}{m:qo},Ms s g lo l->OB lo l<=m.span.qG->m.span.qG<=m.span.to->m.span.to<=s.length->rW s g m.parts->Ms s g lo (l++[m])
 |[],lo,m,h,a,d,c,b=>by have:=h.1;exact⟨h.1,a,d,b,by simp only[OB]at a;omega,c⟩
 |x::r,lo,m,h,a,d,c,b=>⟨h.1,h.2.1,h.2.2.1,h.2.2.2.1,Ms.MJ h.2.2.2.2 a d c b⟩
theorem all16_L0(x:K)(H:WF x)(hl:cW x<=1000000000): ∀(m:U)(i:Z)(b:qj)(out:Y qo),m=(n+1-i).toNat->0<=i->i<=n+1->(out.length:Z)<=i->rz s n b->Ms s (aT x) 0 out->(∀ a,b.yi.l[i.toNat]? =T a->OB 0 out<=a)->
  N (pH (i,x,b,out)) (λ| .inl v=>v.2.2.1≠0/\v.1.l=[]| .inr v=>Ms s (aT x) 0 v.2/\v.2.length<=n+1):=by intro m;induction m using s? with|_ m u=>intro i b out hm Q hi1 hlen c t q;have ho:=c.yi;have hn:=c.hn;rw[pH.eq_1];refine .tI ?_ ?_<;>intro g;have hi:=g;refine .bind (YZ x H hl i Q b c) λv f=>?_;refine .tI ?_ ?_<;>intro g;exact .ret ⟨z?,rfl⟩;refine .tI ?_ ?_<;>intro g;exact .ret ⟨t,u?⟩;(obtain⟨⟨j,e,g1,g2,g3,g4,g5⟩,g6⟩:=f.2.2 g;refine .zY (by simp only[ql,xn,M];omega) ?_;refine .bind (Vk v.1.span.to v.2.2 f.1) λw P=>?_;have hwe:w=e:=P.2 e (by rw[f.2.1.yi];exact g5);have k:OB 0 out<=v.1.span.qG:=by obtain⟨a,d⟩: ∃a,b.yi.l[i.toNat]? =T a:=⟨_,yc o?⟩;have h1:=q a d;have h2:=WE c.mono d g4 o?;omega);have r:=WE c.mono g4 g5 g2;have p:=(c.W2 _ (zj g5)).2;have o:=t.MJ k r p g6;have y:=f.2.1.yi;refine .tI ?_ ?_<;>intro g;rw[wr (n:=w+1) o? o?];refine u _ o? (w+1) v.2.2 _ rfl o? o? v? f.1 o ?_;intro a d;rw[Wn];rw[y]at d;exact WE c.mono g5 d o?;(have z:=g;have hje:j<e:=by rcases Nat.eq_or_lt_of_le g2 with rfl|h;exact B (J.some.inj (g4.symm.trans g5)) z;exact h);refine u _ o? w v.2.2 _ rfl o? o? v? f.1 o ?_;intro a d;rw[Wn];rw[y]at d;exact WE c.mono g5 d o?;exact .ret ⟨t,u?⟩
end
theorem Ip(x:K)(hl:cW x<=1000000000)(fold:F)(s:I)(hs:s.length<=1048576)(fuel:Z):N (Qr x fold s fuel) (λr=>r.2.2=0->Ms s (aT x) 0 r.1.l/\r.1.l.length<=1048577):=by unfold Qr;refine .bind (W4 x (by unfold vi;omega)) λv f=>?_;refine .tI ?_ ?_<;>intro i;exact .ret z?;have e:=f i;refine .bind (BW fold s hs fuel) λb c=>?_;obtain⟨n,c⟩:=c;refine .bind (all16_L0 (s:=s) (n:=n) x e hl _ 0 b [] rfl o? o? z? c ⟨o?,o?⟩ (λa g=>(c.W2 a (zj g)).1)) λw d=>?_;rcases w with w|w;exact .ret λh=>B h d.1;exact .ret λ_=>⟨d.1,by have:=c.hn;have:=d.2;simp only;omega⟩
theorem C7(x:K)(hl:cW x<=1000000000)(fold:F)(s:I)(hs:s.length<=1048576)(a fuel:Z):N (iG x fold s a fuel) (λr=>r.2.2.1=V->Ms s (aT x) 0 [r.1]):=by unfold iG;refine .bind (W4 x (by unfold vi;omega)) λv l=>?_;refine .tI ?_ ?_<;>intro d;exact .ret z?;have k:=l d;refine .bind (BW fold s hs fuel) λb c=>?_;obtain⟨n,c⟩:=c;refine .bind (Vk a b c) λw hw=>?_;refine .tI ?_ ?_<;>intro d;exact .ret z?;refine .bind (YZ x k hl w o? b c) λy i=>?_;refine .bind (P:=λr=>r.2.2.1=V->y.2.1=V/\r.1=y.1) ?_ λz g=>?_;exact tW;refine .ret λh=>?_;obtain⟨f,z2⟩:=g h;obtain⟨⟨j,e,g1,g2,g3,g4,g5⟩,g6⟩:=i.2.2 f;simp only[z2];have o:=c.W2 _ (zj g4);have m:=c.W2 _ (zj g5);exact⟨o?,o.1,WE c.mono g4 g5 g2,g6,m⟩
end Go.Proofs.YtadahlbndbmdeaaGreat
