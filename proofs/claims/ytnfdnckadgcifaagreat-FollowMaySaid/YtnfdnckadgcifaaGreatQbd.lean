/-
  Matches of an expression, case, formats, transforms: they end.
-/
import Derived.Test.YtnfdnckadgcifaaGreatQbc
open Go.IntKind renaming i64->q?
open Go.Proofs.YtnfdnckadgcifaaGreat.qM renaming get->W_,bind->G'
open Int renaming le_refl->v!,le_trans->q0d
open List renaming length_cons->b?,mem_append->p?,length_append->s?,mem_singleton->c?,map_cons->d?,length_nil->f?,replicate->e?,mem_cons->U?,map_nil->z!,countP_cons->C!,map_append->z_,length_eq_one_iff->U'
open Nat renaming strongRecOn->r?,lt_succ_self->O_
open Option renaming bind_eq_some_iff->J!
set_option linter.unusedSimpArgs false
set_option linter.unusedVariables false
namespace Go.Proofs.YtnfdnckadgcifaaGreat
open Go Go.Gm
def PatQ(cs:Sl qa)(a:Int)(r:qF×Int×qd):Prop:=
 r.2.2.cs=cs/\(r.2.1=0->a<=r.2.2.qo/\r.2.2.qo<=cs.l.length/\(sc r.1:Int)<=1000*(r.2.2.qo-a)+2)
def S2(cs:Sl qa)(a:Int)(r:qF×Int×qd):Prop:=
 r.2.2.cs=cs/\(r.2.1=0->a<r.2.2.qo/\r.2.2.qo<=cs.l.length/\(sc r.1:Int)<=1000*(r.2.2.qo-a))
theorem KO(k:Int):sc (qF.mk k ([]:qa) false (⟨true,([]:List qW)⟩:(Sl qW)) (0:Int) (0:Int) false (⟨true,([]:List qF)⟩:(Sl qF)))=1:=by rw[yL];simp[qR,dG,Zf]
theorem kid_W(k:Int)(x:qF):sc (qF.mk k ([]:qa) false (⟨true,[]⟩:(Sl qW)) (0:Int) (0:Int) false (⟨false,[x]⟩:(Sl qF)))=1+sc x:=by rw[yL];simp[qR,dG,Zf]
section
variable {cs:Sl qa} (hc:Zu cs) (a0:Int) (Ec:0<=a0)
 (H: ∀(deep:Int)(b:qd),0<=deep->deep<=16->b.cs=cs->a0<b.qo->b.qo<=cs.l.length->qM (zR (deep,b)) (PatQ cs b.qo))
include hc Ec H
theorem IX(deep:Int)(d0:0<=deep)(d1:deep<=16)(b:qd)(h:b.cs=cs)(h0:a0<=b.qo)(h1:b.qo<=cs.l.length):qM (kv (deep,b)) (S2 cs b.qo):=by
 have hm:=hc.many;rw[kv.eq_1];refine .bind (kg hc _ b h o? h1) fun v hv=>?_;refine .tI ?_ ?_<;>intro hT;have g:=hT;have:=hv.2.2.2.1 g;exact .ret ⟨hv.1,fun _=>⟨u?,u?,by simp only[KO];omega⟩⟩
 have g:=hT;have ZQ:=hv.2.2.2.2 g;refine .bind (kg hc _ v.2 hv.1 o? o?) fun w hw=>?_;have grp: ∀(k:Int)(u:qd),u.cs=cs->b.qo<u.qo->u.qo<=cs.l.length->deep<16->qM (zR ((q?.wrap (deep+(1:Int))),u)>>=fun yA=>
       if(yA.2.1 != (0:Int))then
        some ((qF.mk (0:Int) ([]:qa) false (⟨true,([]:List qW)⟩:(Sl qW)) (0:Int) (0:Int) false (⟨true,([]:List qF)⟩:(Sl qF))),yA.2.1,yA.2.2)
       else
        qN ([41]:qa) yA.2.2>>=fun tz=>
        if(!tz.1)then
         some ((qF.mk (0:Int) ([]:qa) false (⟨true,([]:List qW)⟩:(Sl qW)) (0:Int) (0:Int) false (⟨true,([]:List qF)⟩:(Sl qF))),(10:Int),tz.2)
        else
         some ((qF.mk k ([]:qa) false (⟨true,[]⟩:(Sl qW)) (0:Int) (0:Int) false (⟨false,[yA.1]⟩:(Sl qF))),(0:Int),tz.2)) (S2 cs b.qo):=by
  intro k u g1 g2 g3 g4
  (repeat (first|(rw [qB];rotate_left;omega;omega)|(rw [xU];rotate_left;omega;omega)))
  refine .bind (H (deep+1) u o? o? g1 o? g3) fun y hy=>?_;refine .tI ?_ ?_<;>intro hT
  ·have Jn:=hT;exact .ret ⟨hy.1,fun h=>absurd h Jn⟩
  have Jn:=hT;have QJ:=hy.2 Jn;refine .bind (kg hc _ y.2.2 hy.1 o? o?) fun z hz=>?_;refine .tI ?_ ?_<;>intro hT
  ·exact .ret ⟨hz.1,z?⟩
  have Vq:=hT;have:=hz.2.2.2.1 Vq;exact .ret ⟨hz.1,fun _=>⟨u?,u?,by simp only[kid_W];omega⟩⟩
 refine .tI ?_ ?_<;>intro hT;have g:=hT;have Wp:=hw.2.2.2.1 g;refine .tI ?_ ?_<;>intro hT;exact .ret ⟨hw.1,z?⟩;refine .bind (kg hc _ w.2 hw.1 o? o?) fun y hy=>?_;refine .tI ?_ ?_<;>intro hT;refine .bind (kg hc _ y.2 hy.1 o? o?) fun z hz=>?_;refine .tI ?_ ?_<;>intro hT;exact .ret ⟨hz.1,z?⟩;exact grp 6 z.2 hz.1 o? o? o?;exact grp 5 y.2 hy.1 o? o? o?;have g:=hT;have Wp:=hw.2.2.2.2 g;refine .bind (kg hc _ w.2 hw.1 o? o?) fun y hy=>?_;refine .tI ?_ ?_<;>intro hT;have g:=hT;have hy1:=hy.2.2.2.1 g;refine .bind (DA hc y.2 hy.1 o? o?) fun z hz=>?_;refine .ret ⟨hz.1,fun h=>?_⟩;have:=hz.2 h;simp only;omega;have g:=hT;have hy1:=hy.2.2.2.2 g;refine .bind (kg hc _ y.2 hy.1 o? o?) fun z hz=>?_;refine .tI ?_ ?_<;>intro hT;have g:=hT;have hz1:=hz.2.2.2.1 g;refine .bind (PC hc z.2 hz.1 o? o?) fun u hu=>?_;refine .ret ⟨hu.1,fun h=>?_⟩;have:=hu.2 h;simp only;omega;have g:=hT;have hz1:=hz.2.2.2.2 g;refine .bind (dE hc z.2 hz.1 o?) fun s hs=>?_;refine .tI ?_ ?_<;>intro hT;exact .ret ⟨hz.1,z?⟩;by_cases hn:s=[];refine .bind (o:=jE s) (P:=fun r=>r=false) ⟨false,by rw[hn];unfold jE;simp,rfl⟩ fun p hp=>?_;subst hp;exact .ret ⟨hz.1,z?⟩;refine .bind (Z7 s (by unfold BN;omega)) fun p hp=>?_;refine .tI ?_ ?_<;>intro hT;exact .ret ⟨hz.1,z?⟩;have:=hs.2 hn;(repeat (first|(rw [qB];rotate_left;omega;omega)|(rw [xU];rotate_left;omega;omega)));refine .ret ⟨hz.1,fun _=>⟨u?,u?, ?_⟩⟩;simp only[yL,dG,Zf,K9,z!,qR];omega
theorem term_tot(deep:Int)(d0:0<=deep)(d1:deep<=16)(b:qd)(h:b.cs=cs)(h0:a0<=b.qo)(h1:b.qo<=cs.l.length):qM (vY (deep,b)) (S2 cs b.qo):=by
 have hm:=hc.many;rw[vY.eq_1];refine .bind (kg hc _ b h o? h1) fun v hv=>?_;refine .tI ?_ ?_<;>intro hT;have g:=hT;have:=hv.2.2.2.1 g;exact .ret ⟨hv.1,fun _=>⟨u?,u?,by simp only[KO];omega⟩⟩;have g:=hT;have ZQ:=hv.2.2.2.2 g;refine .bind (kg hc _ v.2 hv.1 o? o?) fun w hw=>?_;refine .tI ?_ ?_<;>intro hT;have g:=hT;have:=hw.2.2.2.1 g;exact .ret ⟨hw.1,fun _=>⟨u?,u?,by simp only[KO];omega⟩⟩
 have g:=hT;have Wp:=hw.2.2.2.2 g;have at1:qM (kv (deep,w.2)>>=fun v26=>
     if(v26.2.1 != (0:Int))then
      some ((qF.mk (0:Int) ([]:qa) false (⟨true,([]:List qW)⟩:(Sl qW)) (0:Int) (0:Int) false (⟨true,([]:List qF)⟩:(Sl qF))),v26.2.1,v26.2.2)
     else
      kM v26.1 v26.2.2>>=fun v29=>
      some (v29.1,v29.2.1,v29.2.2)) (S2 cs b.qo):=by
  refine .bind (IX hc a0 Ec H deep d0 d1 w.2 hw.1 o? o?) fun y hy=>?_;refine .tI ?_ ?_<;>intro hT
  ·have Jn:=hT;exact .ret ⟨hy.1,fun h=>absurd h Jn⟩
  have Jn:=hT;have QJ:=hy.2 Jn;refine .bind (E0 hc y.1 y.2.2 hy.1 o? o?) fun z hz=>?_;refine .ret ⟨hz.1,fun h=>?_⟩;have:=hz.2 h;simp only;omega
 refine .bind (dE hc w.2 hw.1 o?) fun s hs=>?_;rw[hw.1];refine .tI ?_ ?_<;>intro hT;{(repeat (first|(rw [qB];rotate_left;omega;omega)|(rw [xU];rotate_left;omega;omega)));refine .bind .get fun c Vq=>?_;refine .tI ?_ ?_<;>intro hT;exact .ret ⟨rfl,fun _=>⟨u?,u?,by simp only[KO];omega⟩⟩;refine .tI ?_ ?_<;>intro hT;exact .ret ⟨rfl,fun _=>⟨u?,u?,by simp only[KO];omega⟩⟩;exact at1};exact at1
end
section
variable {cs:Sl qa} (hc:Zu cs) (a0:Int) (Ec:0<=a0)
 (H: ∀(deep:Int)(b:qd),0<=deep->deep<=16->b.cs=cs->a0<b.qo->b.qo<=cs.l.length->qM (zR (deep,b)) (PatQ cs b.qo))
include hc Ec H
theorem TH(deep:Int)(d0:0<=deep)(d1:deep<=16)(t:qF)(alts:List qF)(a1:Int)(oL:0<=a1): ∀(m:Nat)(b:qd)(sB:List qF),m=(cs.l.length-b.qo).toNat->b.cs=cs->a0<=b.qo->a1<=b.qo->b.qo<=cs.l.length->
  (qR (sB.map sc):Int)<=1000*(b.qo-a1)->qM (xB (deep,b,t,alts,sB)) (fun r=>(∀ y,r= .inl y->y.1≠0/\y.2.1.cs=cs)/\
   ∀y,r= .inr y->y.1.cs=cs/\b.qo<=y.1.qo/\y.1.qo<=cs.l.length/\(qR (y.2.map sc):Int)<=1000*(y.1.qo-a1)):=by
 have hm:=hc.many;intro m;induction m using r? with
  |_ m ih=>
   intro b sB OR h h0 h1 h2 hw;have hl:=xI oC sB;rw[xB.eq_1];have stop:qM (some (Sum.inr (b,sB):(Int×qd×qF×(List qF))⊕(qd×(List qF)))) (fun r=>(∀ y,r= .inl y->y.1≠0/\y.2.1.cs=cs)/\
     ∀y,r= .inr y->y.1.cs=cs/\b.qo<=y.1.qo/\y.1.qo<=cs.l.length/\(qR (y.2.map sc):Int)<=1000*(y.1.qo-a1)):=by
    refine .ret ⟨fun y hy=>(by cases hy),fun y hy=>?_⟩;cases hy;exact⟨h,z?,h2,hw⟩
   rw[h];refine .tI ?_ ?_<;>intro hT;refine .bind (dE hc b h o?) fun s hs=>?_;refine .tI ?_ ?_<;>intro hT;refine .tI ?_ ?_<;>intro hT;refine .bind (term_tot hc a0 Ec H deep d0 d1 b h h0 h2) fun y hy=>?_;refine .tI ?_ ?_<;>intro hT;have Jn:=hT;refine .ret ⟨fun z hz=>?_,fun z hz=>by cases hz⟩;cases hz;exact⟨Jn,hy.1⟩;have Jn:=hT;have QJ:=hy.2 Jn;refine .zE qH ?_;refine(ih _ o? y.2.2 _ rfl hy.1 o? o? o? (by rw[kx];omega)).mono fun r hr=>⟨hr.1,fun z hz=>?_⟩;have:=hr.2 z hz;exact⟨this.1,o?,this.2.2.1,this.2.2.2⟩;exact stop;exact stop;exact stop
theorem TG(deep:Int)(d0:0<=deep)(d1:deep<=16)(t:qF): ∀(m:Nat)(b:qd)(alts:List qF),m=(cs.l.length-b.qo).toNat->b.cs=cs->a0<=b.qo->b.qo<=cs.l.length->
  (qR (alts.map sc):Int)<=1000*(b.qo-a0)->qM (xA (deep,b,t,alts)) (fun r=>(∀ y,r= .inl y->y.1≠0/\y.2.1.cs=cs)/\
   ∀y,r= .inr y->y.2.1.cs=cs/\a0<=y.2.1.qo/\y.2.1.qo<=cs.l.length/\(sc y.2.2:Int)<=1000*(y.2.1.qo-a0)+2):=by have hm:=hc.many;intro m;induction m using r? with|_ m ih=>intro b alts OR h h0 h2 hw;have hl:=xI oC alts;rw[xA.eq_1];refine .bind (TH hc a0 Ec H deep d0 d1 t alts b.qo o? _ b [] rfl h h0 o? h2 (by simp[qR])) fun v hv=>?_;rcases v with y|y;have:=hv.1 y rfl;refine .ret ⟨fun z hz=>?_,fun z hz=>by cases hz⟩;cases hz;exact this;obtain⟨g1,g2,g3,g4⟩:=hv.2 y rfl;refine .bind (seq_tot (⟨y.2.isEmpty,y.2⟩:Sl qF) u?) fun w MT=>?_;simp only at MT;refine .zE qH ?_;refine .bind (kg hc _ y.1 g1 o? g3) fun z hz=>?_;refine .tI ?_ ?_<;>intro hT;have Jn:=hT;have hz1:=hz.2.2.2.2 Jn;refine .bind (alt_tot (⟨false,(alts++[w])⟩:Sl qF) (by simp only[kx];omega)) fun u hu=>?_;simp only[kx]at hu;refine .ret ⟨fun x hx=>(by cases hx),fun x hx=>?_⟩;cases hx;exact⟨hz.1,u?,u?,u?⟩;have Jn:=hT;have hz1:=hz.2.2.2.1 Jn;exact ih _ o? z.2 _ rfl hz.1 o? o? (by rw[kx];omega)
end
theorem pat_tot{cs:Sl qa}(hc:Zu cs): ∀(m:Nat)(deep:Int)(b:qd),m=(cs.l.length-b.qo).toNat->0<=deep->deep<=16->b.cs=cs->0<=b.qo->b.qo<=cs.l.length->qM (zR (deep,b)) (PatQ cs b.qo):=by intro m;induction m using r? with|_ m ih=>intro deep b OR d0 d1 h h0 h1;rw[zR.eq_1];refine .bind (TG hc b.qo h0 (fun d2 b2 e1 e2 e3 e4 e5=>ih _ o? d2 b2 rfl e1 e2 e3 o? e5) deep d0 d1 _ _ b [] rfl h o? h1 (by simp[qR])) fun v hv=>?_;rcases v with y|y;have:=hv.1 y rfl;exact .ret ⟨this.2,fun h=>absurd h this.1⟩;obtain⟨g1,g2,g3,g4⟩:=hv.2 y rfl;exact .ret ⟨g1,fun _=>⟨g2,g3,g4⟩⟩
theorem TR(s:qa):qM (fu s) (fun r=>r.2=0->s.length<=256/\sc r.1<=1000*s.length+1002):=by unfold fu;refine .tI ?_ ?_<;>intro hT;exact .ret z?;refine .bind (Ux s (by unfold BN;omega)) fun v hv=>?_;have hc:Zu v:=⟨o?,fun c h=>by have:=hv.2 c h;omega⟩;refine .bind (pat_tot hc _ 0 (qd.mk v 0) rfl o? o? rfl z? z?) fun w hw=>?_;refine .tI ?_ ?_<;>intro hT;exact .ret z?;refine .tI ?_ ?_<;>intro hT;have h:=hT;exact .ret fun h2=>absurd h2 h;have h:=hT;have:=hw.2 h;refine .ret fun _=>⟨o?, ?_⟩;simp only at this |-;omega
def yP(f:zo):Nat:=sc f.rx+qR (f.uT.l.map oh)+Uv f.uT
theorem HP(s:qa)(hs:s.length<=BN)(t:zo): ∀(m:Nat)(k:Int)(b:List UInt8),m=(s.length-k).toNat->0<=k->k<=s.length->(b.length:Int)<=k->
  qM (vK (s,k,t,b)) (fun r=>k<=r.1/\r.1<=s.length/\(r.2.length:Int)<=b.length+(r.1-k)):=by have hB:s.length<=8192:=hs;intro m;induction m using r? with|_ m ih=>intro k b hm h0 h1 hb;rw[vK.eq_1];refine .tI ?_ ?_<;>intro hT;{refine .bind .get fun c hc=>?_;refine .tI ?_ ?_<;>intro hT;{refine .tI ?_ ?_<;>intro hT;{(repeat (first|(rw [qB];rotate_left;omega;omega)|(rw [xU];rotate_left;omega;omega)));refine .bind .get fun c2 Vq=>?_;refine .tI ?_ ?_<;>intro hT;(refine .zE qH ?_;refine .zE (qH v? o?) ?_;exact(ih _ o? (k+1+1) _ rfl o? o? v?).mono fun r hr=>by simp only[s?,b?,f?]at hr;omega);refine .zE qH ?_;exact(ih _ o? (k+1+1) _ rfl o? o? v?).mono fun r hr=>by simp only[s?,b?,f?]at hr;omega};refine .zE qH ?_;(repeat (first|(rw [qB];rotate_left;omega;omega)|(rw [xU];rotate_left;omega;omega)));exact(ih _ o? (k+1) _ rfl o? o? v?).mono fun r hr=>by simp only[s?,b?,f?]at hr;omega};exact .ret ⟨z?,h1,u?⟩};exact .ret ⟨z?,h1,u?⟩
theorem HQ(s:qa)(hs:s.length<=BN)(t:zo)(l:List UInt8)(x:qF): ∀(m:Nat)(e:Int)(f:zo),m=(s.length-e).toNat->0<=e->
  qM (vL (s,e,t,l,x,f)) (fun r=>(∀ y,r= .inl y->y.2.1=false)/\ ∀y,r= .inr y->e<=y.1/\yP y.2=yP f):=by have hB:s.length<=8192:=hs;intro m;induction m using r? with|_ m ih=>(intro e f hm h0;rw[vL.eq_1];have stop:qM (some (Sum.inr (e,f):(Int×Bool×Int×zo×zo)⊕(Int×zo))) (fun r=>(∀ y,r= .inl y->y.2.1=false)/\ ∀y,r= .inr y->e<=y.1/\yP y.2=yP f):=by refine .ret ⟨fun y hy=>(by cases hy),fun y hy=>?_⟩;cases hy;exact⟨z?,rfl⟩);(have go: ∀f2:zo,e<s.length->yP f2=yP f->qM (vL (s,e+1,t,l,x,f2)) (fun r=>(∀ y,r= .inl y->y.2.1=false)/\ ∀y,r= .inr y->e<=y.1/\yP y.2=yP f):=by intro f2 he hf;exact(ih _ o? (e+1) f2 rfl o?).mono fun r hr=>⟨hr.1,fun y hy=>by have:=hr.2 y hy;exact⟨o?,this.2.trans hf⟩⟩);refine .tI ?_ ?_<;>intro hT;{refine .bind .get fun c hc=>?_;(repeat (first|(rw [qB];rotate_left;omega;omega)|(rw [xU];rotate_left;omega;omega)));refine .tI ?_ ?_<;>intro hT;{refine .tI ?_ ?_<;>intro hT;exact go _ o? rfl;(repeat (first|(rw [qB];rotate_left;omega;omega)|(rw [xU];rotate_left;omega;omega)));refine .tI ?_ ?_<;>intro hT;exact go _ o? rfl;refine .ret ⟨fun y hy=>?_,fun y hy=>by cases hy⟩;cases hy;rfl};exact stop};exact stop
theorem NZ(s:qa)(hs:s.length<=BN)(qo:Int):
  qM (cP s qo) (fun r=>r.2.2=true->0<=qo/\qo<r.2.1/\r.2.1<s.length/\(yP r.1:Int)<=1000*(r.2.1-qo)):=by have hB:s.length<=8192:=hs;unfold cP;refine .tI ?_ ?_<;>intro hT;exact .ret z?;refine .bind .get fun c hc=>?_;refine .tI ?_ ?_<;>intro hT;exact .ret z?;(repeat (first|(rw [qB];rotate_left;omega;omega)|(rw [xU];rotate_left;omega;omega)));refine .bind (HP s hs _ _ (qo+1) [] rfl o? o? v?) fun v hv=>?_;simp only[f?]at hv;refine .tI ?_ ?_<;>intro hT;exact .ret z?;refine .bind (TR v.2) fun w hw=>?_;refine .tI ?_ ?_<;>intro hT;exact .ret z?;have Jn:=hT;have MT:=hw Jn;(repeat (first|(rw [qB];rotate_left;omega;omega)|(rw [xU];rotate_left;omega;omega)));refine .bind (TT s hs (v.1+1)) fun y hy=>?_;refine .tI ?_ ?_<;>intro hT;exact .ret z?;have Vq:=hT;have QJ:=hy Vq;(repeat (first|(rw [qB];rotate_left;omega;omega)|(rw [xU];rotate_left;omega;omega)));refine .bind (HQ s hs _ _ _ _ (y.2.1+1) _ rfl o?) fun z hz=>?_;rcases z with z|z;(have:=hz.1 z rfl;exact .ret fun h=>by simp only[this]at h;cases h);obtain⟨g1,g2⟩:=hz.2 z rfl;refine .tI ?_ ?_<;>intro hT;exact .ret z?;refine .ret fun _=>?_;simp only[g2];simp only[yP];omega
def Er(s:qa):Nat:=1+s.length
mutual
def pQ:qA->Nat
 |⟨_,t,_,_,_,f,o,qD⟩=>1+t.length+yP f+qR (o.l.map Er)+snWS qD
def snWS:Sl qA->Nat
 |⟨_,l⟩=>snWL l
def snWL:List qA->Nat
 |[]=>0
 |x::r=>pQ x+snWL r
end
theorem Mr: ∀l:List qA,snWL l=qR (l.map pQ)
 |[]=>by simp[snWL,qR]
 |x::r=>by simp[snWL,qR,Mr r]
theorem nN(x:qA):pQ x=1+x.text.length+yP x.qU+qR (x.opts.l.map Er)+qR (x.qD.l.map pQ):=by cases x with|mk a b c d e f g h=>cases h;simp[pQ,snWS,Mr]
theorem ct(x:qA):1<=pQ x:=by rw[nN];omega
theorem Hx(x:qa):1<=Er x:=by unfold Er;omega
theorem QT(s:qa)(hs:s.length<=BN)(qo:Int)(h0:0<=qo)(h1:qo<s.length)(c:Bool):qM (tO s qo c) (fun r=>r=true->qo+1<s.length):=by have hB:s.length<=8192:=hs;unfold tO;refine .bind (W_ h0 h1) fun b hb=>?_;refine .tI ?_ ?_<;>intro hT;exact .ret z?;(repeat (first|(rw [qB];rotate_left;omega;omega)|(rw [xU];rotate_left;omega;omega)));refine .bind .get fun b2 hb2=>?_;repeat' (first|(refine .tI ?_ ?_<;>intro hT)|exact .ret (fun _=>by omega))
theorem NK(s:qa)(hs:s.length<=BN)(w:List qA)(es:List Int)(a1:Int)(oL:0<=a1): ∀(m:Nat)(qo:Int)(l:List qa)(t:List UInt8),m=(s.length-qo).toNat->a1<=qo->qo<=s.length->(qR (l.map Er)+t.length:Int)<=qo-a1->
  qM (ji (qo,s,w,es,l,t)) (fun r=>qo<=r.1/\r.1<=s.length/\(qR (r.2.1.map Er)+r.2.2.length:Int)<=r.1-a1):=by have hB:s.length<=8192:=hs;intro m;induction m using r? with|_ m ih=>intro qo l t hm h0 h1 hw;have hl:=xI Hx l;rw[ji.eq_1];refine .tI ?_ ?_<;>intro hT;{refine .bind .get fun c hc=>?_;refine .tI ?_ ?_<;>intro hT;{refine .tI ?_ ?_<;>intro hT;{refine .zE qH ?_;(repeat (first|(rw [qB];rotate_left;omega;omega)|(rw [xU];rotate_left;omega;omega)));exact(ih _ o? (qo+1) _ _ rfl o? o? (by rw[kx];simp only[Er,f?];omega)).mono fun r hr=>⟨o?,hr.2.1,hr.2.2⟩};refine .bind (QT s hs qo o? o? true) fun v hv=>?_;refine .tI ?_ ?_<;>intro hT;{have Jn:=hT;have:=hv Jn;(repeat (first|(rw [qB];rotate_left;omega;omega)|(rw [xU];rotate_left;omega;omega)));refine .bind .get fun c2 Vq=>?_;refine .zE qH ?_;(repeat (first|(rw [qB];rotate_left;omega;omega)|(rw [xU];rotate_left;omega;omega)));exact(ih _ o? (qo+1+1) _ _ rfl o? o? v?).mono fun r hr=>⟨o?,hr.2.1,hr.2.2⟩};refine .zE qH ?_;(repeat (first|(rw [qB];rotate_left;omega;omega)|(rw [xU];rotate_left;omega;omega)));exact(ih _ o? (qo+1) _ _ rfl o? o? v?).mono fun r hr=>⟨o?,hr.2.1,hr.2.2⟩};exact .ret ⟨z?,h1,hw⟩};exact .ret ⟨z?,h1,hw⟩
theorem opts_tot(s:qa)(hs:s.length<=BN)(w:List qA)(es:List Int)(qo:Int)(h0:0<=qo)(h1:qo<=s.length):
  qM (gy qo s w es) (fun r=>r.2>=0->qo<=r.2/\r.2<s.length/\(qR (r.1.l.map Er):Int)<=r.2-qo+1):=by have hB:s.length<=8192:=hs;unfold gy;refine .bind (NK s hs w es qo h0 _ qo [] [] rfl o? h1 (by simp[qR])) fun v hv=>?_;have hl:=xI Hx v.2.1;refine .tI ?_ ?_<;>intro hT;exact .ret z?;refine .zE qH ?_;refine .ret fun _=>⟨u?,u?, ?_⟩;simp only[kx,Er];omega
theorem Ng(l:Sl qA)(hw:qR (l.l.map pQ)<=100000000): ∀(r:List qA)(k:Nat)(out:List qA),l.l.drop k=r->qR (out.map pQ)+qR (r.map pQ)<=qR (l.l.map pQ)->
  qM (jV (l,(k:Int),out)) (fun t=>qR (t.map pQ)<=qR (l.l.map pQ)):=by have hl:=xI ct l.l;intro r;induction r with|nil=>intro k out hk hs;rw[jV.eq_1];have:=vV hk;refine .tI ?_ ?_<;>intro hT;omega;exact .ret (by simp[qR]at hs;exact hs)|cons x r ih=>(intro k out hk hs;obtain⟨h1,h2,h3⟩:=drop_cons hk;have T1:=xI ct out;simp only[d?,qR]at hs;rw[jV.eq_1];have e1:q?.wrap ((k:Int)+1)=((k+1:Nat):Int):=px o?;rw[e1];have hg:qM (qh l.l (k:Int)) (fun y=>y=x):=⟨x,by rw[xk h3];simpa[wK h3]using h1,rfl⟩;have put:qM (if qi (out.length+1) 224=true then jV (l,((k+1:Nat):Int),(out++[x]))else none) (fun t=>qR (t.map pQ)<=qR (l.l.map pQ)):=by refine .zE qH ?_;exact ih (k+1) _ h2 (by rw[kx];omega));refine .tI ?_ ?_<;>intro hT;refine .bind hg fun y hy=>?_;subst hy;refine .tI ?_ ?_<;>intro hT;refine .tI ?_ ?_<;>intro hT;exact ih (k+1) _ h2 o?;refine .tI ?_ ?_<;>intro hT;have e2:q?.wrap ((out.length:Int)-1)=(out.length:Int)-1:=qB o? o?;rw[e2];refine .bind .get fun z hz=>?_;refine .tI ?_ ?_<;>intro hT;have hz2:=j9 (f:=pQ) hz.2;have hzw:=nN z;have hyw:=nN y;refine .zE o? ?_;refine ih (k+1) _ h2 ?_;have:=lV pQ out ((out.length:Int)-1).toNat (qA.mk z.kind (z.text++y.text) z.n z.has z.qQ z.qU z.opts z.qD) z hz.1;have e3:=nN (qA.mk z.kind (z.text++y.text) z.n z.has z.qQ z.qU z.opts z.qD);simp only[s?]at e3;omega;exact put;exact put;exact put;omega
theorem Lk(l:Sl qA)(hw:qR (l.l.map pQ)<=100000000):qM (fI l) (fun t=>qR (t.l.map pQ)<=qR (l.l.map pQ)):=by unfold fI;have h:=Ng l hw l.l 0 [] rfl (by simp[qR]);rw[show ((0:Nat):Int)=0 from rfl]at h;refine .bind h fun v hv=>?_;exact .ret hv
theorem RK(t:qa):pQ (qA.mk (0:Int) t (0:Int) false false (zo.mk (qF.mk (0:Int) ([]:qa) false (⟨true,[]⟩:(Sl qW)) (0:Int) (0:Int) false (⟨true,[]⟩:(Sl qF))) (⟨true,[]⟩:(Sl zw)) false false) (⟨true,[]⟩:(Sl qa)) (⟨true,[]⟩:(Sl qA)))=2+t.length:=by rw[nN];simp[yP,yL,dG,Zf,qR];omega
set_option maxHeartbeats 1000000
structure Zw (s:qa) (w:List qA) (es:List Int):Prop where
 lw:w.length=s.length
 le:es.length=s.length
 ok: ∀(p:Nat)(e:Int)(x:qA),es[p]? =some e->0<e->w[p]? =some x->(p:Int)<e/\e<=s.length/\(pQ x+2:Int)<=1000*(e-p)
def Xo(s:qa)(a1 qo:Int)(r:Int×List qA×List UInt8):Prop:=qo<=r.1/\r.1<=s.length/\(qR (r.2.1.map pQ)+r.2.2.length:Int)<=1000*(r.1-a1)
theorem HK(s:qa)(hs:s.length<=BN)(w:List qA)(es:List Int)(hS:Zw s w es)(br:Bool)(a1:Int)(oL:0<=a1): ∀(m:Nat)(qo:Int)(l:List qA)(t:List UInt8),m=(s.length-qo).toNat->a1<=qo->qo<=s.length->(qR (l.map pQ)+t.length:Int)<=1000*(qo-a1)->
  qM (zp (qo,br,s,w,es,l,t)) (Xo s a1 qo):=by
 have hB:s.length<=8192:=hs;intro m;induction m using r? with
  |_ m ih=>
   intro qo l t hm h0 h1 hw;have hl:=xI ct l;have stop:qM (some (qo,l,t)) (Xo s a1 qo):= .ret ⟨z?,h1,hw⟩;have go: ∀(a2:Int)(l2:List qA)(t2:List UInt8),qo<a2->a2<=s.length->(qR (l2.map pQ)+t2.length:Int)<=1000*(a2-a1)->qM (zp (a2,br,s,w,es,l2,t2)) (Xo s a1 qo):=by intro a2 l2 t2 g1 g2 g3;exact(ih _ o? a2 l2 t2 rfl o? g2 g3).mono fun r hr=>⟨by have:=hr.1;omega,hr.2.1,hr.2.2⟩
   have two:qo<s.length-> ∀e:Int,es[qo.toNat]? =some e->0<e-> ∀f:qA,pQ f=2+t.length->qM (qh w qo>>=fun Xl=>
        if qi (l.length+2) 224=true then
         zp (e,br,s,w,es,(l++[f,Xl]),([]:List UInt8))
        else none) (Xo s a1 qo):=by
    intro xS e he h2 f hf;refine .bind (W_ o? (by have:=hS.lw;omega)) fun x hx=>?_;obtain⟨g1,g2,g3⟩:=hS.ok qo.toNat e x he h2 hx.1;refine .zE qH ?_;refine go e _ _ o? g2 ?_;simp only[z_,d?,z!,bT,qR,f?,hf];omega
   have text:qo<s.length-> ∀c:UInt8,qM (if qi (t.length+1) 1=true then zp ((q?.wrap (qo+(1:Int))),br,s,w,es,l,(t++[c]))else none) (Xo s a1 qo):=by intro xS c;refine .zE qH ?_;(repeat (first|(rw [qB];rotate_left;omega;omega)|(rw [xU];rotate_left;omega;omega)));exact go (qo+1) _ _ o? o? v?
   have esc:qo+1<s.length->qM (qh s (q?.wrap (qo+(1:Int)))>>=fun b16=>
         if qi (t.length+1) 1=true then
          zp ((q?.wrap ((q?.wrap (qo+(1:Int)))+(1:Int))),br,s,w,es,l,(t++[b16]))
         else none) (Xo s a1 qo):=by
    intro xS
    (repeat (first|(rw [qB];rotate_left;omega;omega)|(rw [xU];rotate_left;omega;omega)))
    refine .bind .get fun c hc=>?_;refine .zE qH ?_
    (repeat (first|(rw [qB];rotate_left;omega;omega)|(rw [xU];rotate_left;omega;omega)))
    exact go (qo+1+1) _ _ o? o? v?
   rw[zp.eq_1];refine .tI ?_ ?_<;>intro hT;have xS:=hT;refine .tI ?_ ?_<;>intro hT;refine .bind .get fun c hc=>?_;refine .tI ?_ ?_<;>intro hT;refine .bind (W_ o? (by have:=hS.le;omega)) fun e he=>?_;refine .tI ?_ ?_<;>intro hT;have h2:=hT;exact two xS e he.1 h2 _ (RK t);refine .bind (QT s hs qo o? o? false) fun v hv=>?_;refine .tI ?_ ?_<;>intro hT;have h3:=hT;exact esc (hv h3);exact text xS c;exact stop;refine .bind (W_ o? (by have:=hS.le;omega)) fun e he=>?_;refine .tI ?_ ?_<;>intro hT;have h2:=hT;exact two xS e he.1 h2 _ (RK t);refine .bind (QT s hs qo o? o? false) fun v hv=>?_;refine .tI ?_ ?_<;>intro hT;have h3:=hT;exact esc (hv h3);refine .bind .get fun c hc=>?_;exact text xS c;exact stop
theorem U7(s:qa)(hs:s.length<=BN)(w:List qA)(es:List Int)(hS:Zw s w es)(qo:Int)(h0:0<=qo)(h1:qo<=s.length)(br:Bool):
  qM (wU qo br s w es) (fun r=>(r.2>=0->qo<=r.2/\r.2<=s.length/\(br=true->r.2<s.length)/\(qR (r.1.l.map pQ):Int)<=1000*(r.2-qo)+2)/\(br=false->0<=r.2)):=by have hB:s.length<=8192:=hs;unfold wU;refine .bind (HK s hs w es hS br qo h0 _ qo [] [] rfl o? h1 (by simp[qR])) fun v hv=>?_;obtain⟨g1,g2,g3⟩:=hv;have hl:=xI ct v.2.1;have:= @Lk;have:= @kx;have:= @RK;exact tW
structure HeadQ (s:qa) (qo:Int) (r:qA×Int×Bool):Prop where
 lt:qo<r.2.1
 le:r.2.1<=s.length
 text:(r.1.text.length:Int)<=r.2.1-qo
 qU:yP r.1.qU=1
 opts:r.1.opts.l=[]
 qD:r.1.qD.l=[]
theorem N4(s:qa)(hs:s.length<=BN)(w:List qA)(es:List Int)(qo:Int)(h0:0<=qo)(h1:qo<=s.length):
  qM (yc qo s w es) (fun r=>r.2.2=true->HeadQ s qo r):=by unfold yc;refine .bind (fh s hs qo h0 h1) fun v hv=>?_;refine .tI ?_ ?_<;>intro hT;have hc:=hT;have:=hv.2.2 hc;exact .ret fun _=>⟨u?,u?,by simp only[f?];omega,by simp[yP,yL,dG,Zf,qR],rfl,rfl⟩;refine .bind (Ax s hs w es qo h0 h1) fun y hy=>?_;refine .tI ?_ ?_<;>intro hT;have hc:=hT;have:=hy.2.2.2 hc;exact .ret fun _=>⟨u?,u?,u?,by simp[yP,yL,dG,Zf,qR],rfl,rfl⟩;exact .ret z?
def Xm(s:qa)(qo:Int)(r:qA×Int×Bool):Prop:=r.2.2=true->qo<r.2.1/\r.2.1<=s.length/\(pQ r.1+2:Int)<=1000*(r.2.1-qo)
theorem PD(s:qa)(hs:s.length<=BN)(w:List qA)(es:List Int)(hS:Zw s w es)(qo:Int)(h0:0<=qo)(h1:qo<s.length):qM (yy qo s w es) (Xm s qo):=by have hB:s.length<=8192:=hs;unfold yy;(repeat (first|(rw [qB];rotate_left;omega;omega)|(rw [xU];rotate_left;omega;omega)));refine .bind (N4 s hs w es (qo+1) o? o?) fun v hv=>?_;refine .tI ?_ ?_<;>intro hT;have hc:=hT;obtain⟨g1,g2,g3,g4,g5,g6⟩:=hv hc;refine .ret fun _=>⟨u?,g2, ?_⟩;simp only[nN,g4,g5,g6,z!,qR];omega;refine .tI ?_ ?_<;>intro hT;exact .ret (by simp[Xm]);refine .bind .get fun b hb=>?_;refine .tI ?_ ?_<;>intro hT;exact .ret (by simp[Xm]);(repeat (first|(rw [qB];rotate_left;omega;omega)|(rw [xU];rotate_left;omega;omega)));refine .bind (N4 s hs w es (qo+2) o? o?) fun v hv=>?_;refine .tI ?_ ?_<;>intro hT;exact .ret (by simp[Xm]);have hc:=hT;obtain⟨g1,g2,g3,g4,g5,g6⟩:=hv hc.1;refine .bind .get fun c Vq=>?_;(repeat (first|(rw [qB];rotate_left;omega;omega)|(rw [xU];rotate_left;omega;omega)));refine .tI ?_ ?_<;>intro hT;refine .ret fun _=>⟨u?,u?, ?_⟩;simp only[nN,g4,g5,g6,z!,qR];omega;(repeat (first|(rw [qB];rotate_left;omega;omega)|(rw [xU];rotate_left;omega;omega)));refine .tI ?_ ?_<;>intro hT;refine .bind (U7 s hs w es hS (v.2.1+1) o? o? true) fun y hy=>?_;refine .ret fun h=>?_;simp only[decide_eq_true_eq]at h;obtain⟨k1,k2,k3,k4⟩:=hy.1 h;have:=k3 rfl;simp only;rw[qB o? o?];refine⟨o?,o?, ?_⟩;simp only[nN,g4,g5,z!,qR];omega;refine .tI ?_ ?_<;>intro hT;refine .bind (NZ s hs v.2.1) fun y hy=>?_;refine .ret fun h=>?_;obtain⟨k1,k2,k3,k4⟩:=hy h;simp only;rw[qB o? o?];refine⟨o?,o?, ?_⟩;simp only[nN,g5,g6,z!,qR];omega;(repeat (first|(rw [qB];rotate_left;omega;omega)|(rw [xU];rotate_left;omega;omega)));refine .tI ?_ ?_<;>intro hT;{refine .bind (opts_tot s hs w es (v.2.1+1) o? o?) fun y hy=>?_;refine .ite (fun hT=>?_) fun hT=>?_<;>(try simp only[tfx.down]at hT)<;>(try simp(disch:=omega) only[qB,xU]at hT);{have hc3:=hT;obtain⟨k1,k2,k3⟩:=hy hc3.1;(repeat (first|(rw [qB];rotate_left;omega;omega)|(rw [xU];rotate_left;omega;omega)));refine .bind .get fun d hd=>?_;refine .ret fun h=>⟨u?,u?, ?_⟩;simp only[nN,g4,g6,z!,qR];omega};exact .ret (by simp[Xm])};exact .ret (by simp[Xm])
theorem Zw.set{s:qa}{w:List qA}{es:List Int}(hS:Zw s w es){qo:Int}(h0:0<=qo)(h1:qo<s.length){x:qA}{e:Int}(h:qo<e/\e<=s.length/\(pQ x+2:Int)<=1000*(e-qo)):
  Zw s (w.set qo.toNat x) (es.set qo.toNat e) where
 lw:=by simpa using hS.lw
 le:=by simpa using hS.le
 ok:=by intro p e2 x2 h2 h3 h4;rw[List.getElem?_set]at h2 h4;by_cases hp:qo.toNat=p;exact tW;rw[if_neg hp]at h2 h4;exact hS.ok p e2 x2 h2 h3 h4
theorem Y4(s:qa)(hs:s.length<=BN): ∀(m:Nat)(qo:Int)(w:List qA)(es:List Int),m=(qo+1).toNat-> -1<=qo->qo<s.length->Zw s w es->
  qM (yS (s,qo,w,es,s)) (fun r=>Zw s r.1 r.2):=by have hB:s.length<=8192:=hs;intro m;induction m using r? with|_ m ih=>intro qo w es hm h0 h1 hS;rw[yS.eq_1];refine .tI ?_ ?_<;>intro hT;{refine .bind .get fun c hc=>?_;refine .tI ?_ ?_<;>intro hT;{refine .bind (PD s hs w es hS qo o? h1) fun y hy=>?_;refine .tI ?_ ?_<;>intro hT;{have Vq:=hT;refine .bind (W_ o? (by have:=hS.lw;omega)) fun p hp=>?_;refine .bind (W_ o? (by have:=hS.le;omega)) fun q hq=>?_;(repeat (first|(rw [qB];rotate_left;omega;omega)|(rw [xU];rotate_left;omega;omega)));exact ih _ o? (qo-1) _ _ rfl o? o? (hS.set o? h1 (hy Vq))};exact tW};exact tW};exact .ret hS
theorem BK: ∀(n:Nat)(l:Sl qA),qR (l.l.map pQ)<=n->n<=100000000->qM (np l) (fun r=>0<=r/\r<=n):=by
 intro n;induction n using r? with
 |_ n ih=>
 intro l hl hn;have hlen:=xI ct l.l;have loop: ∀(r:List qA)(k:Nat)(d:Int),l.l.drop k=r->0<=d->d<=n->qM (wm (l,d,(k:Int))) (fun r=>0<=r/\r<=n):=by
  intro r;induction r with
  |nil=>
   intro k d hk h1 h2;rw[wm.eq_1];have:=vV hk;refine .tI ?_ ?_<;>intro hT
   ·omega
   exact .ret ⟨h1,h2⟩
  |cons x r Kj=>
   intro k d hk h1 h2;obtain⟨e1,e2,e3⟩:=drop_cons hk;have hx:=j9 (f:=pQ) (zc e1);have hxw:=nN x;rw[wm.eq_1];have e4:q?.wrap ((k:Int)+1)=((k+1:Nat):Int):=px o?;rw[e4];refine .tI ?_ ?_<;>intro hT
   ·refine .bind (P:=fun y=>y=x) ⟨x,by rw[xk e3];simpa[wK e3]using e1,rfl⟩ fun y hy=>?_;subst hy;refine .bind (ih (n-1) o? y.qD o? o?) fun z hz=>?_;refine .tI ?_ ?_<;>intro hT
    ·(repeat (first|(rw [qB];rotate_left;omega;omega)|(rw [xU];rotate_left;omega;omega)))
     exact Kj (k+1) _ e2 (by split<;>omega) (by split<;>omega)
    exact Kj (k+1) _ e2 (by split<;>omega) (by split<;>omega)
   omega
 have h:=loop l.l 0 0 rfl o? o?;rw[show ((0:Nat):Int)=0 from rfl]at h;rw[np.eq_1];first
 |exact h
 |(refine .bind h fun v hv=>?_;exact .ret hv)
theorem seen_new(s:qa)(x:qA):Zw s (e? s.length x) (e? s.length (0:Int)) where
 lw:=z?
 le:=z?
 ok:=by (intro p e y h1 h2 h3;have:e=0:=by have:=zc h1;exact(List.mem_replicate.1 this).2);omega
theorem TU(s:qa):qM (fJ s) (fun r=>qR (r.1.l.map pQ)<=8192002/\(r.2=0->s.length<=BN)):=by
 unfold fJ;refine .tI ?_ ?_<;>intro hT;exact .ret ⟨by simp[qR],z?⟩;have hc:=hT;have hs:s.length<=BN:=by unfold BN;omega
 have e:(s.length:Int).toNat=s.length:=z?;refine .zE o? ?_;rw[e];refine .zE qH ?_;refine .zE o? ?_;refine .zE qH ?_;(repeat (first|(rw [qB];rotate_left;omega;omega)|(rw [xU];rotate_left;omega;omega)));refine .bind (Y4 s hs _ ((s.length:Int)-1) _ _ rfl o? o? (seen_new s _)) fun v hv=>?_;refine .bind (U7 s hs v.1 v.2 hv 0 o? o? false) fun y hy=>?_;obtain⟨k1,k2,_,k4⟩:=hy.1 (hy.2 rfl);refine .bind (BK 8192002 y.1 o? o?) fun z hz=>?_;refine .tI ?_ ?_<;>intro hT;exact .ret ⟨by simp[qR],fun _=>hs⟩;exact .ret ⟨u?,fun _=>hs⟩
theorem yx{α:Type}{xs:List α}{k:Nat}(h:xs.drop k=[]): ¬((k:Int)<(xs.length:Int)):=by have:=vV h;omega
theorem vn{α:Type}{xs r:List α}{x:α}{k:Nat}(h:xs.drop k=x::r):(k:Int)<(xs.length:Int)/\qh xs (k:Int)=some x/\xs.drop (k+1)=r/\x∈xs:=by obtain⟨a,b,c⟩:=drop_cons h;refine⟨o?, ?_,b,zc a⟩;rw[xk c];exact tW
theorem l9{α:Type}{xs:List α}{k:Nat}(hl:xs.length<=9223372036854775807)(h:(k:Int)<(xs.length:Int)):q?.wrap ((k:Int)+1)=((k+1:Nat):Int):=px o?
theorem wr{n:Int}(h1: -(2^62)<=n)(h2:n<=2^62):q?.wrap n=n:=qB o? o?
theorem V3{P:qF->Prop}(h: ∀x,(∀ y∈x.qD.l,P y)->P x)(x:qF):P x:=by
 have key: ∀n(x:qF),sc x<n->P x:=by intro n;induction n with|zero=>intro x hx;omega|succ n ih=>intro x hx;have:= @j9;have:= @yL;exact tW
 exact key _ x (O_ _)
theorem aq(x:qF):x.qD.l.length<sc x:=by have:=xI oC x.qD.l;rw[yL];omega
theorem CN{x y:qF}(h:y∈x.qD.l):sc y<sc x:=by have:=j9 (f:=sc) h;rw[yL x];omega
abbrev w6(x:qF):Prop:=sc x<=1099511627776
theorem ma{x y:qF}(h:w6 x)(hy:y∈x.qD.l):w6 y:=by have:=CN hy;unfold w6 at *; omega
theorem NR: ∀x:qF,w6 x->qM (gn x) (fun _=>True):=by
 apply V3 (P:=fun x=>w6 x->qM (gn x) (fun _=>True));intro x ih0 hw;have hk:=aq x;have key: ∀(r:List qF)(k:Nat)(n:Int),x.qD.l.drop k=r->qM (wv (n,(k:Int),x)) (fun _=>True):=by intro r;induction r with|nil=>intro k n hd;rw[wv.eq_1,if_neg (by simpa using yx hd)];exact .ret trivial|cons y r ih=>intro k n hd;obtain⟨a1,a2,a3,a4⟩:=vn hd;rw[wv.eq_1,if_pos (by simpa using a1),l9 (by unfold w6 at hw;omega) a1];refine .go a2 ?_;exact .bind (ih0 y a4 (ma hw a4)) fun v _=>ih (k+1) _ a3
 rw[gn.eq_1];exact .bind (key x.qD.l 0 1 rfl) fun v _=> .ret trivial
theorem PS: ∀x:qF,w6 x->qM (ng x) (fun _=>True):=by
 apply V3 (P:=fun x=>w6 x->qM (ng x) (fun _=>True));intro x ih0 hw;have hk:=aq x;have key: ∀(r:List qF)(k:Nat)(n:Int),x.qD.l.drop k=r->qM (vu (n,(k:Int),x)) (fun _=>True):=by intro r;induction r with|nil=>intro k n hd;rw[vu.eq_1,if_neg (by simpa using yx hd)];exact .ret trivial|cons y r ih=>intro k n hd;obtain⟨a1,a2,a3,a4⟩:=vn hd;rw[vu.eq_1,if_pos (by simpa using a1),l9 (by unfold w6 at hw;omega) a1];refine .go a2 ?_;exact .bind (ih0 y a4 (ma hw a4)) fun v _=>ih (k+1) _ a3
 rw[ng.eq_1];refine .bind (key x.qD.l 0 0 rfl) fun v _=>?_;refine .tI ?_ ?_<;>intro hT;exact .ret trivial;exact .ret trivial
mutual
def d7:qF->Nat
 |⟨k,_,_,_,_,_,_,s⟩=>(if k=5 then 1 else 0)+rxGS s
def rxGS:Sl qF->Nat
 |⟨_,l⟩=>rxGL l
def rxGL:List qF->Nat
 |[]=>0
 |x::r=>d7 x+rxGL r
end
theorem Mj: ∀l:List qF,rxGL l=qR (l.map d7)
 |[]=>by simp[rxGL,qR]
 |x::r=>by simp[rxGL,qR,Mj r]
theorem V2(x:qF):d7 x=(if x.kind=5 then 1 else 0)+qR (x.qD.l.map d7):=by obtain⟨a,b,c,d,e,f,g,h⟩:=x;obtain⟨u,l⟩:=h;simp[d7,rxGS,Mj]
theorem CU{α:Type}{f g:α->Nat}: ∀{l:List α},(∀ a∈l,f a<=g a)->qR (l.map f)<=qR (l.map g)
 |[],_=>by simp[qR]
 |a::l,h=>by have h1:=h a z?;have h2:=CU (l:=l) fun b hb=>h b (by simp[hb]);simp only[d?,qR];omega
theorem Rr: ∀x:qF,d7 x<=sc x:=by apply V3;intro x ih;have:=CU ih;rw[V2,yL];split<;>omega
theorem eN: ∀x:qF,w6 x->ka x=some (d7 x:Int):=by
 apply V3 (P:=fun x=>w6 x->ka x=some (d7 x:Int));intro x ih0 hw;have hk:=aq x;have hp:=Rr x;have key: ∀(r:List qF)(k n:Nat),x.qD.l.drop k=r->n+qR (r.map d7)<=1099511627776->jU ((n:Int),(k:Int),x)=some ((n+qR (r.map d7):Nat):Int):=by intro r;induction r with|nil=>intro k n hd _;rw[jU.eq_1,if_neg (by simpa using yx hd)];simp[qR]|cons y r ih=>(intro k n hd hn;obtain⟨a1,a2,a3,a4⟩:=vn hd;simp only[d?,qR]at hn;have e:q?.wrap ((n:Int)+(d7 y:Int))=((n+d7 y:Nat):Int):=by rw[wr o? o?];omega);rw[jU.eq_1];simp only[a1,decide_true,if_true,a2,zP,qV,ih0 y a4 (ma hw a4),l9 (by unfold w6 at hw;omega) a1,e];rw[ih (k+1) (n+d7 y) a3 o?];simp only[d?,qR,wd,Int.natCast_inj];omega
 have hg:=V2 x;rw[ka.eq_1];unfold w6 at hw;by_cases h5:x.kind=5;rw[if_pos h5]at hg;have h:=key x.qD.l 0 1 rfl o?;rw[if_pos (by simp[h5]),show((1:Int),(0:Int),x)=(((1:Nat):Int),((0:Nat):Int),x)from rfl,h];simp[hg];rw[if_neg h5]at hg;have h:=key x.qD.l 0 0 rfl o?;rw[if_neg (by simp[h5]),show((0:Int),(0:Int),x)=(((0:Nat):Int),((0:Nat):Int),x)from rfl,h];simp[hg]
inductive WF:qF->Prop
 |mk (x:qF) (hk: ∀y∈x.qD.l,WF y) (h1:x.kind=5\/x.kind=6\/x.kind=7-> ∃y,x.qD.l=[y]) (h7:x.kind=7-> ∀y∈x.qD.l,2<=y.kind/\y.kind<=6):WF x
theorem WF.qD{x:qF}(h:WF x): ∀y∈x.qD.l,WF y:=by cases h;assumption
theorem WF.one{x:qF}(h:WF x):x.kind=5\/x.kind=6\/x.kind=7-> ∃y,x.qD.l=[y]:=by cases h;assumption
theorem WF.rep{x:qF}(h:WF x):x.kind=7-> ∀y∈x.qD.l,2<=y.kind/\y.kind<=6:=by cases h;assumption
theorem tE(x:qF):qM (ur x) (fun _=>True):=by unfold ur;refine .tI ?_ ?_<;>intro hT;exact .ret trivial;exact .ret trivial
def Jt(b:UInt8):Bool:=decide ((b.toNat:Int)<128) || decide ((b.toNat:Int)>191)
theorem Kk(b:UInt8):ye b=some (Jt b):=by unfold ye Jt;by_cases h:(b.toNat:Int)<128<;>simp[h]
theorem Mz(s:qa)(hl:s.length<=1099511627776): ∀(r:qa)(k f:Nat)(l:List qa),s.drop k=r->k<=s.length->f<=k->l.length<=k->
  ∃out,zS (s,(f:Int),(k:Int),l)=some out/\out.length=l.length+r.countP Jt+1:=by
 have V1: ∀n,n<=1099511627777->qi n 16=true:=by intro n hn;simp only[qi,zU,decide_eq_true_eq];omega
 intro r;induction r with|nil=>(intro k f l hk pd hf Fa;have h1:=vV hk;obtain rfl:k=s.length:=o?;have hs:kH s (f:Int) (s.length:Int)=some (s.drop f):=by unfold kH;rw[if_pos v?];simp);rw[zS.eq_1];simp only[v!,decide_true,if_true,beq_self_eq_true,hs,zP,qV,V1 _ (show l.length+1<=_ by omega)];rw[zS.eq_1,if_neg (by rw[wr o? o?];simp;omega)];exact⟨_,rfl,z?⟩|cons b r ih=>(intro k f l hk pd hf Fa;obtain⟨a1,a2,a3,_⟩:=vn hk;have h1:((k:Int)<=(s.length:Int)):=o?;have h2:((k:Int)==(s.length:Int))=false:=v?;have hs:kH s (f:Int) (k:Int)=some ((s.take k).drop f):=by unfold kH;rw[if_pos v?];simp);rw[zS.eq_1];simp only[h1,decide_true,if_true,h2,wH,if_false,a2,zP,qV,Kk,l9 o? a1];cases hb:Jt b;obtain⟨out,o1,o2⟩:=ih (k+1) f l a3 o? o? o?;exact⟨out,by simpa using o1,by rw[o2];simp[C!,hb]⟩;obtain⟨out,o1,o2⟩:=ih (k+1) k (l++[(s.take k).drop f]) a3 o? o? v?;refine⟨out, ?_,by rw[o2];simp[C!,hb];omega⟩;simp only[if_true,hs,qV,V1 _ (show l.length+1<=_ by omega),o1]
theorem ou(c:qa)(hl:c.length<=1099511627776):qM (jE c) (fun _=>True):=by unfold jE yQ;refine .tI ?_ ?_<;>intro hT;refine .bind .get fun b hb=>?_;refine .go (Kk b) ?_;refine .tI ?_ ?_<;>intro hT;obtain⟨out,o1,o2⟩:=Mz c hl (c.drop 1) 1 0 [] rfl o? o? z?;exact .go (J!.2 ⟨out,o1,rfl⟩) (.ret trivial);exact .ret trivial;exact .ret trivial
theorem Rp(rows:Sl qW)(hw:qR (rows.l.map gC)<=1099511627776):qM (i7 rows) (fun _=>True):=by
 have Fa:rows.l.length<=1099511627776:=by have:=xI d6 rows.l;omega
 have key: ∀(r:List qW)(k:Nat),rows.l.drop k=r->qM (gm (rows,(k:Int))) (fun _=>True):=by intro r;induction r with|nil=>intro k hk;rw[gm.eq_1,if_neg (by simpa using yx hk)];exact .ret trivial|cons x r ih=>(intro k hk;obtain⟨a1,a2,a3,a4⟩:=vn hk;have hx:gC x<=1099511627776:=by have:=j9 (f:=gC) a4;omega);have ih:=ih (k+1) a3;unfold gC at hx;rw[gm.eq_1,if_pos (by simpa using a1),l9 o? a1];refine .go a2 ?_;refine .bind (ou x.qO o?) fun v _=>?_;refine .tI ?_ ?_<;>intro hT;exact .ret trivial;refine .bind (ou x.to o?) fun w _=>?_;refine .tI ?_ ?_<;>intro hT;exact .ret trivial;refine .tI ?_ ?_<;>intro hT;{(repeat (first|(rw [qB];rotate_left;omega;omega)|(rw [xU];rotate_left;omega;omega)));refine .bind .get fun b hb=>?_;refine .tI ?_ ?_<;>intro hT;exact .ret trivial;exact ih};exact ih
 unfold i7;refine .bind (key rows.l 0 rfl) fun v _=>?_;rcases v with v|v<;>exact .ret trivial
theorem Tl{o:Option (Bool⊕Unit)}{f:Unit->Option Bool}{P:Prop}(h:qM o (fun v=>v= .inl true->False))(h2:o=some (.inr ())->qM (f ()) (fun c=>c=true->P)):
  qM (o>>=fun v=>match v with| .inl y=>some y| .inr y=>f y) (fun c=>c=true->P):=by obtain⟨v,rfl,hv⟩:=h;rcases v with v|v;refine .go rfl (.ret fun hc=>?_);exact absurd (congrArg Sum.inl hc) hv;exact .go rfl (h2 rfl)
theorem Ht(x:qF)(hl:x.qD.l.length<=9223372036854775807): ∀(r:List qF)(k:Nat),x.qD.l.drop k=r->qM (nh ((x.qD.l.length:Int),(k:Int),x)) (fun v=>v= .inl true->False):=by intro r;induction r with|nil=>intro k hk;rw[nh.eq_1,if_neg (by simpa using yx hk)];exact .ret z?|cons y r ih=>intro k hk;obtain⟨a1,a2,a3,a4⟩:=vn hk;rw[nh.eq_1,if_pos (by simpa using a1),l9 hl a1];refine .go a2 ?_;refine .tI ?_ ?_<;>intro hT;exact .ret z?;refine .tI ?_ ?_<;>intro hT;exact .ret z?;exact ih (k+1) a3
theorem Hu(x:qF)(hl:x.qD.l.length<=9223372036854775807): ∀(r:List qF)(k:Nat),x.qD.l.drop k=r->qM (ni ((x.qD.l.length:Int),(k:Int),x)) (fun v=>v= .inl true->False):=by intro r;induction r with|nil=>intro k hk;rw[ni.eq_1,if_neg (by simpa using yx hk)];exact .ret z?|cons y r ih=>intro k hk;obtain⟨a1,a2,a3,a4⟩:=vn hk;rw[ni.eq_1,if_pos (by simpa using a1),l9 hl a1];refine .go a2 ?_;refine .tI ?_ ?_<;>intro hT;exact .ret z?;exact ih (k+1) a3
theorem G0(x:qF):qM (rS x) (fun c=>c=true-> ∃y,x.qD.l=[y]/\2<=y.kind/\y.kind<=6):=by unfold rS;refine .tI ?_ ?_<;>intro hT;exact .ret z?;have h1:x.qD.l.length=1:=o?;obtain⟨y,hy⟩:=U'.1 h1;refine .go (a:=y) (by rw[hy];rfl) ?_;refine .bind (tE _) fun v _=>?_;refine .tI ?_ ?_<;>intro hT;refine .tI ?_ ?_<;>intro hT;exact .ret fun _=>⟨y,hy,o?,o?⟩;refine .ret fun h=>⟨y,hy, ?_⟩;simp only[beq_iff_eq]at h;omega;exact .ret z?
theorem Gn{x:qF}(hk:x.qD.l=[])(h:x.kind≠5/\x.kind≠6/\x.kind≠7):WF x:= .mk x (by simp[hk]) (fun h2=>o?) (fun h2=>o?)
theorem len_nil{α:Type}{l:List α}(h:(l.length:Int)=0):l=[]:=by cases l with|nil=>rfl|cons _ _=>simp at h;omega
theorem FA: ∀x:qF,w6 x->qM (ph x) (fun c=>c=true->WF x):=by
 apply V3 (P:=fun x=>w6 x->qM (ph x) (fun c=>c=true->WF x));intro x ih0 hw;have hk:=aq x;have hx:=yL x;have hl:x.qD.l.length<=9223372036854775807:=by unfold w6 at hw;omega
 have key: ∀(r:List qF)(k:Nat),x.qD.l.drop k=r->qM (yH ((x.qD.l.length:Int),(k:Int),x)) (fun v=>(v= .inl true->False)/\(v= .inr ()-> ∀y∈r,WF y)):=by intro r;induction r with|nil=>intro k hd;rw[yH.eq_1,if_neg (by simpa using yx hd)];exact .ret ⟨z?,z?⟩|cons y r ih=>intro k hd;obtain⟨a1,a2,a3,a4⟩:=vn hd;rw[yH.eq_1,if_pos (by simpa using a1),l9 hl a1];refine .go a2 ?_;refine .bind (ih0 y a4 (ma hw a4)) fun v hv=>?_;refine .tI ?_ ?_<;>intro hT;exact .ret ⟨z?,z?⟩;have hv:=hv hT;refine(ih (k+1) a3).mono fun w h=>⟨h.1,fun hw=>?_⟩;intro z hz;rcases U?.1 hz with rfl|hz;exact hv;exact h.2 hw z hz
 have key:=key x.qD.l 0 rfl;rw[show ((0:Nat):Int)=0 from rfl]at key;have e3:=Ht x hl x.qD.l 0 rfl;have e5:=Hu x hl x.qD.l 0 rfl;rw[show ((0:Nat):Int)=0 from rfl]at e3 e5;unfold w6 at hw;rw[ph.eq_1];refine Tl (key.mono fun v h=>h.1) fun hr=>?_;obtain⟨v,ZQ,Ei⟩:=key;rw[hr]at ZQ;cases ZQ;have qD:=Ei.2 rfl;refine .tI ?_ ?_<;>intro hT;have h0:=hT;refine Tl e3 fun _=>?_;refine .bind (tE _) fun v _=>?_;refine .tI ?_ ?_<;>intro hT;exact .ret fun _=> .mk x qD (fun h=>o?) (fun h=>o?);exact .ret z?;refine .tI ?_ ?_<;>intro hT;have h0:=hT;refine Tl e5 fun _=>?_;refine .bind (tE _) fun v _=>?_;refine .tI ?_ ?_<;>intro hT;exact .ret fun _=> .mk x qD (fun h=>o?) (fun h=>o?);exact .ret z?;refine .tI ?_ ?_<;>intro hT;have h0:=hT;refine .bind (tE _) fun v _=>?_;refine .tI ?_ ?_<;>intro hT;have h1:=hT;refine .bind (ou x.char o?) fun v _=>?_;exact .ret fun _=>Gn (len_nil h1.2) o?;exact .ret z?;refine .tI ?_ ?_<;>intro hT;have h0:=hT;refine .bind (tE _) fun v _=>?_;refine .tI ?_ ?_<;>intro hT;refine .ret fun h=>Gn (len_nil (by simpa using h)) o?;exact .ret z?;refine .tI ?_ ?_<;>intro hT;have h0:=hT;refine .bind (tE _) fun v _=>?_;refine .tI ?_ ?_<;>intro hT;have h1:=hT;refine .bind (Rp x.rows o?) fun v _=>?_;exact .ret fun _=>Gn (len_nil h1.2) o?;exact .ret z?;refine .tI ?_ ?_<;>intro hT;have h0:=hT;refine .bind (tE _) fun v _=>?_;refine .tI ?_ ?_<;>intro hT;refine .ret fun h=> .mk x qD (fun _=>?_) (fun h=>o?);exact U'.1 (by simp at h;omega);exact .ret z?;refine .tI ?_ ?_<;>intro hT;have h0:=hT;refine .bind (G0 x) fun v hv=>?_;refine .ret fun h=>?_;obtain⟨y,y1,y2⟩:=hv h;refine .mk x qD (fun _=>⟨y,y1⟩) (fun _ z hz=>?_);rw[y1]at hz;simp only[c?]at hz;subst hz;exact y2;exact .ret z?
theorem Xn(x:qF)(hw:w6 x):qM (sP x) (fun c=>c=true->WF x):=by unfold sP;refine .bind (NR x hw) fun v _=>?_;refine .tI ?_ ?_<;>intro hT;refine .bind (PS x hw) fun v _=>?_;refine .tI ?_ ?_<;>intro hT;refine .bind (FA x hw) fun v hv=>?_;exact .ret hv;exact .ret z?;exact .ret z?
theorem YS(fs:Sl zw)(hl:fs.l.length<=1099511627776):qM (dI fs) (fun c=>c=true-> ∀f∈fs.l,0<=f.n):=by
 have key: ∀(r:List zw)(k:Nat),fs.l.drop k=r->qM (xX (fs,(k:Int))) (fun v=>(v= .inl true->False)/\(v= .inr ()-> ∀f∈r,0<=f.n)):=by intro r;induction r with|nil=>intro k hk;rw[xX.eq_1,if_neg (by simpa using yx hk)];exact .ret ⟨z?,z?⟩|cons x r ih=>(intro k hk;obtain⟨a1,a2,a3,a4⟩:=vn hk;have ih:=ih (k+1) a3;have next:0<=x.n->qM (xX (fs,((k+1:Nat):Int))) (fun v=>(v= .inl true->False)/\(v= .inr ()-> ∀f∈x::r,0<=f.n)):=by intro hx;refine ih.mono fun v h=>⟨h.1,fun hw z hz=>?_⟩;rcases U?.1 hz with rfl|hz;exact hx;exact h.2 hw z hz);(have prev: ¬(k:Int)=0-> ∀{f:zw->Option (Bool⊕Unit)}{Q:Bool⊕Unit->Prop},(∀ y,qM (f y) Q)->qM (qh fs.l (q?.wrap ((k:Int)-1))>>=f) Q:=by intro h f Q hf;(repeat (first|(rw [qB];rotate_left;omega;omega)|(rw [xU];rotate_left;omega;omega)));exact .bind W_ fun y _=>hf y);rw[xX.eq_1,if_pos (by simpa using a1),l9 o? a1];refine .go a2 ?_;(repeat' (first|exact .ret ⟨by simp,by simp⟩|(refine .tI ?_ ?_<;>intro hT)|(refine prev ‹_› fun y=>?_)|refine .bind (WH _) fun v _=>?_));all_goals exact next (by omega)
 unfold dI;exact tW
theorem YT(f:zo)(hw:yP f<=1099511627776):qM (dJ f) (fun c=>c=true->WF f.rx):=by have hl:=xI Kg f.uT.l;unfold yP at hw;unfold dJ;have:= @Xn;have:= @YS;exact tW
def lZ:qF:=qF.mk (0:Int) ([]:qa) false (⟨true,[]⟩:(Sl qW)) (0:Int) (0:Int) false (⟨true,[]⟩:(Sl qF))
def db:zo:=zo.mk lZ (⟨true,([]:List zw)⟩:(Sl zw)) false false
theorem Ay(x:qF):qM (mL (x,lZ)) (fun _=>True):=by rw[mL.eq_1];refine .tI ?_ ?_<;>intro hT;exact .ret trivial;have h:=hT;simp only[lZ,f?]at h;have h1:x.rows.l.length=0:=o?;have h2:x.qD.l.length=0:=o?;refine .go (a:= .inr ()) (by rw[pZ.eq_1];simp[h1]) ?_;refine .go (a:= .inr ()) (by rw[gR.eq_1];simp[h2]) ?_;exact .ret trivial
theorem XE(f:zo):qM (ux f db) (fun _=>True):=by unfold ux;refine .bind (Ay f.rx) fun v _=>?_;refine .tI ?_ ?_<;>intro hT;exact .ret trivial;have h:=hT;simp only[db,f?]at h;have h1:f.uT.l.length=0:=o?;refine .go (a:= .inr ()) (by rw[gv.eq_1];simp[h1]) ?_;exact .ret trivial
inductive WS:qA->Prop
 |mk (x:qA) (hk: ∀y∈x.qD.l,WS y) (h0:x.kind=0->x.qD.l=[]) (h2:x.kind=2->x.has=false/\x.qQ=false/\x.qD.l=[]/\0<x.opts.l.length)
   (h1:x.kind=1\/x.kind=3->x.opts.l=[]/\(x.has=true->x.qQ=false)/\(x.has=false->x.qD.l=[])) (hd:0<=x.kind/\x.kind<=3)
   (hn:x.kind=1\/x.kind=2->0<=x.n/\x.n<=9999):WS x
def Kv(l:Sl qA):Prop:= ∀x∈l.l,WS x
theorem snS_ind{P:Sl qA->Prop}(h: ∀l,(∀ x∈l.l,P x.qD)->P l): ∀l,P l:=by
 have key: ∀n(l:Sl qA),qR (l.l.map pQ)<n->P l:=by intro n;induction n with|zero=>intro l hl;omega|succ n ih=>intro l hl;have:= @j9;have:= @nN;exact tW
 exact fun l=>key _ l (O_ _)
abbrev eg(l:Sl qA):Prop:=qR (l.l.map pQ)<=1099511627775
theorem Th{l:Sl qA}(h:eg l):l.l.length<=1099511627775:=by have:=xI ct l.l;unfold eg at h;omega
theorem Wx{l:Sl qA}(h:eg l){x:qA}(hx:x∈l.l):pQ x<=1099511627775:=by have:=j9 (f:=pQ) hx;unfold eg at h;omega
theorem Nr{l:Sl qA}(h:eg l){x:qA}(hx:x∈l.l):eg x.qD:=by have:=Wx h hx;have:=nN x;unfold eg;omega
theorem Y1(s:qa)(hs:s.length<=1099511627776): ∀(r:qa)(k:Nat),s.drop k=r->qM (jd (s,(k:Int))) (fun _=>True):=by intro r;induction r with|nil=>intro k hk;rw[jd.eq_1,if_neg (by simpa using yx hk)];exact .ret trivial|cons b r ih=>intro k hk;obtain⟨a1,a2,a3,a4⟩:=vn hk;have h:=ih (k+1) a3;rw[jd.eq_1,if_pos (by simpa using a1),l9 o? a1];refine .go a2 ?_;refine .bind (tK b) fun v hv=>?_;repeat' (first|exact h|exact .ret trivial|(refine .tI ?_ ?_<;>intro hT)|refine .bind (nZ b) fun w _=>?_)
theorem Tp(s:qa)(hs:s.length<=1099511627776):qM (jw s) (fun _=>True):=by unfold jw;refine .tI ?_ ?_<;>intro hT;exact .ret trivial;refine .bind (Y1 s hs s 0 rfl) fun v hv=>?_;rcases v with v|v<;>exact .ret trivial
theorem RC(x:qA)(hw:pQ x<=1099511627775)(ih:qM (bD x.qD) (fun c=>c=true->Kv x.qD)):
  qM (kO x) (fun c=>c=true->x.opts.l=[]/\(x.has=true->x.qQ=false)/\(x.has=false->x.qD.l=[])/\Kv x.qD):=by
 have hx:=nN x;rw[kO.eq_1];refine .tI ?_ ?_<;>intro hT;exact .ret z?;have h1:x.opts.l=[]:=len_nil o?;refine .tI ?_ ?_<;>intro hT;have hh:=hT;refine .tI ?_ ?_<;>intro hT;exact .ret z?;have ht:=hT;refine .bind (XE x.qU) fun v _=>?_;refine .tI ?_ ?_<;>intro hT;refine .bind ih fun v hv=>?_;exact .ret fun h=>⟨h1,fun _=>ht,fun h=>(by rw[hh]at h;cases h),hv h⟩;exact .ret z?;have hh:=hT;refine .tI ?_ ?_<;>intro hT;exact .ret z?;have hk:x.qD.l=[]:=len_nil o?;have hka:Kv x.qD:=fun y hy=>by rw[hk]at hy;cases hy
 refine .tI ?_ ?_<;>intro hT;refine .bind (YT x.qU o?) fun v hv=>?_;exact .ret fun _=>⟨h1,fun h=>(by rw[hh]at h;cases h),fun _=>hk,hka⟩;refine .bind (XE x.qU) fun v _=>?_;refine .tI ?_ ?_<;>intro hT;refine .bind ih fun v hv=>?_;exact .ret fun _=>⟨h1,fun h=>(by rw[hh]at h;cases h),fun _=>hk,hka⟩;exact .ret z?
theorem FB: ∀l,eg l->qM (bD l) (fun c=>c=true->Kv l):=by
 apply snS_ind (P:=fun l=>eg l->qM (bD l) (fun c=>c=true->Kv l));intro l ih0 hw;have hl:=Th hw;have key: ∀(r:List qA)(k:Nat),l.l.drop k=r->qM (zJ (l,(k:Int))) (fun v=>(v= .inl true->False)/\(v= .inr ()-> ∀y∈r,WS y)):=by
  intro r;induction r with
   |nil=>intro k hd;rw[zJ.eq_1,if_neg (by simpa using yx hd)];exact .ret ⟨z?,z?⟩
   |cons x r ih=>
    intro k hd;obtain⟨a1,a2,a3,a4⟩:=vn hd;have hx:=nN x;have hxw:=Wx hw a4;have Wo:=RC x hxw (ih0 x a4 (Nr hw a4));have ih:=ih (k+1) a3;have next:WS x->qM (zJ (l,((k+1:Nat):Int))) (fun v=>(v= .inl true->False)/\(v= .inr ()-> ∀y∈x::r,WS y)):=by intro hx;refine ih.mono fun v h=>⟨h.1,fun hw z hz=>?_⟩;rcases U?.1 hz with rfl|hz;exact hx;exact h.2 hw z hz
    have stop: ∀{f:Bool->Option (Bool⊕Unit)},(∀ v,(v=true->x.opts.l=[]/\(x.has=true->x.qQ=false)/\(x.has=false->x.qD.l=[])/\Kv x.qD)->qM (f v) (fun v=>(v= .inl true->False)/\(v= .inr ()-> ∀y∈x::r,WS y)))->
      qM (kO x>>=f) (fun v=>(v= .inl true->False)/\(v= .inr ()-> ∀y∈x::r,WS y)):=fun hf=>G' Wo hf
    have prev: ¬(k:Int)=0-> ∀{f:qA->Option (Bool⊕Unit)},(∀ y,qM (f y) (fun v=>(v= .inl true->False)/\(v= .inr ()-> ∀y∈x::r,WS y)))->qM (qh l.l (q?.wrap ((k:Int)-1))>>=f) (fun v=>(v= .inl true->False)/\(v= .inr ()-> ∀y∈x::r,WS y)):=by intro h f hf;(repeat (first|(rw [qB];rotate_left;omega;omega)|(rw [xU];rotate_left;omega;omega)));exact .bind W_ fun y _=>hf y
    have w1:x.kind=1->0<=x.n->x.n<=9999->(x.opts.l=[]/\(x.has=true->x.qQ=false)/\(x.has=false->x.qD.l=[])/\Kv x.qD)->WS x:=fun a b c d=>
     .mk x d.2.2.2 (fun h=>o?) (fun h=>o?) (fun _=>⟨d.1,d.2.1,d.2.2.1⟩) o? (fun _=>⟨b,c⟩)
    have w3:x.kind=3->(x.opts.l=[]/\(x.has=true->x.qQ=false)/\(x.has=false->x.qD.l=[])/\Kv x.qD)->WS x:=fun a d=>
     .mk x d.2.2.2 (fun h=>o?) (fun h=>o?) (fun _=>⟨d.1,d.2.1,d.2.2.1⟩) o? (fun h=>o?)
    have w0:x.kind=0->x.qD.l=[]->WS x:=fun a b=>
     .mk x (by simp[b]) (fun _=>b) (fun h=>o?) (fun h=>o?) o? (fun h=>o?)
    have w2:x.kind=2->x.qD.l=[]->x.has=false->x.qQ=false->0<x.opts.l.length->0<=x.n->x.n<=9999->WS x:=fun a b c d e f g=>
     .mk x (by simp[b]) (fun h=>o?) (fun _=>⟨c,d,b,e⟩) (fun h=>o?) o? (fun _=>⟨f,g⟩)
    have hname:=Tp x.text o?;rw[zJ.eq_1,if_pos (by simpa using a1),l9 o? a1];refine .go a2 ?_;(repeat' (first|exact .ret ⟨by simp,by simp⟩|(refine .tI ?_ ?_<;>intro hT)|(refine prev ‹_› fun y=>?_)|refine .bind (XE x.qU) fun v _=>?_|refine .bind hname fun v _=>?_|refine stop fun v hv=>?_));(all_goals refine next ?_);all_goals first|exact w1 (by omega) (by omega) (by omega) (by simp_all)|exact w3 (by omega) (by simp_all)|exact w0 (by omega) (len_nil (by omega))|exact w2 (by omega) (len_nil (by omega)) (by simp_all) (by simp_all) (by omega) (by omega) (by omega)
 rw[bD.eq_1];refine .bind (key l.l 0 rfl) fun v hv=>?_;rcases v with v|v;(exact .ret fun h=>by subst h;exact absurd rfl hv.1);exact .ret fun _=>hv.2 rfl
theorem Yj(l:Sl qA)(hw:qR (l.l.map pQ)<=100000000):qM (dL l) (fun c=>c=true->Kv l):=by unfold dL;refine .bind (BK _ l (ju _) hw) fun v _=>?_;refine .tI ?_ ?_<;>intro hT;refine .bind (FB l (by unfold eg;omega)) fun v hv=>?_;exact .ret hv;exact .ret z?
theorem DX: ∀(m:Nat)(i:Int)(b:List UInt8),m=(b.length-i).toNat->0<=i->b.length<=1099511627776->qM (wj (i,b)) (fun r=>r.length=b.length):=by intro m;induction m using r? with|_ m ih=>intro i b hm h0 hB;rw[wj.eq_1];exact tW
theorem QZ(s:qa)(hs:s.length<=1099511627776):qM (gQ s) (fun r=>r.length=s.length):=by unfold gQ;have:= @DX;exact tW
theorem RQ: ∀(m:Nat)(i:Int)(b:List UInt8),m=(b.length-i).toNat->0<=i->b.length<=1099511627776->qM (vJ (i,b)) (fun r=>r.length=b.length):=by intro m;induction m using r? with|_ m ih=>intro i b hm h0 hB;rw[vJ.eq_1];exact tW
theorem MI(s:qa)(hs:s.length<=1099511627776):qM (cK s) (fun r=>r.length=s.length):=by unfold cK;have:= @RQ;exact tW
theorem Zk(c:qa):qM (tM c) (fun _=>True):=by unfold tM;refine .tI ?_ ?_<;>intro hT;refine .bind .get fun b hb=>?_;refine .bind (tK b) fun v _=>?_;refine .tI ?_ ?_<;>intro hT;exact .ret trivial;refine .bind (nZ b) fun v _=>?_;refine .tI ?_ ?_<;>intro hT;exact .ret trivial;exact .ret trivial;exact .ret trivial
theorem Wq(rows:Sl qW)(hl:rows.l.length<=1099511627776)(c:qa):qM (ft rows c) (fun _=>True):=by
 have key: ∀(r:List qW)(k:Nat),rows.l.drop k=r->qM (bQ (rows,c,(k:Int))) (fun _=>True):=by intro r;induction r with|nil=>intro k hk;rw[bQ.eq_1,if_neg (by simpa using yx hk)];exact .ret trivial|cons x r ih=>intro k hk;obtain⟨a1,a2,a3,a4⟩:=vn hk;have ih:=ih (k+1) a3;rw[bQ.eq_1,if_pos (by simpa using a1),l9 o? a1];exact tW
 unfold ft;refine .bind (key rows.l 0 rfl) fun v _=>?_;rcases v with v|v<;>exact .ret trivial
theorem F3(rows:Sl qW)(hl:rows.l.length<=1099511627776)(n f:Bool)(c:qa)(hc:c.length<=1099511627776):qM (i6 rows n f c) (fun _=>True):=by unfold i6;refine .bind (Wq rows hl c) fun v _=>?_;refine .tI ?_ ?_<;>intro hT;refine .bind (QZ c hc) fun d _=>?_;refine .bind (Wq rows hl d) fun w _=>?_;refine .tI ?_ ?_<;>intro hT;exact .ret trivial;refine .bind (MI c hc) fun d _=>?_;refine .bind (Wq rows hl d) fun w _=>?_;refine .tI ?_ ?_<;>intro hT;exact .ret trivial;exact .ret trivial;exact .ret trivial
structure mA (s:qa) (n:Nat) (b:qg):Prop where
 hs:s.length<=1048576
 cs:b.cs.l.length=n
 clen: ∀c∈b.cs.l,c.length<=s.length
 wN:b.wN.l.length=n+1
 mono:b.wN.l.Pairwise (· < ·)
 Xk: ∀x∈b.wN.l,0<=x/\x<=s.length
 fuel:0<=b.fuel/\b.fuel<=20000
 hn:n<=1048576
structure cw (b c:qg):Prop where
 cs:c.cs=b.cs
 wN:c.wN=b.wN
 fold:c.fold=b.fold
 fuel:c.fuel<=b.fuel
theorem cw.refl(b:qg):cw b b:=⟨rfl,rfl,rfl,v! _⟩
theorem cw.trans{a b c:qg}(h1:cw a b)(h2:cw b c):cw a c:=⟨h2.cs.trans h1.cs,h2.wN.trans h1.wN,h2.fold.trans h1.fold,q0d h2.fuel h1.fuel⟩
def UF(s:qa)(x:qk):Prop:=x.qO= -1\/(0<=x.qO/\x.qO<=x.to/\x.to<=s.length)
structure mW (s:qa) (g:Nat) (p:Sl qk):Prop where
 len:p.l.length=g
 ok: ∀x∈p.l,UF s x
inductive B0 (g:Nat) (j:Int):Option qe->Prop
 |none:B0 g j none
 |Jb (k:qe) (hk:k.kind=1) (g0:0<=k.g) (g1:k.g<g) (f0:0<=k.qO) (f1:k.qO<=j) (h:B0 g j k.rest):B0 g j (some k)
 |again (k:qe) (hk:k.kind=2) (hx:WF k.x) (hl:w6 k.x) (h7:k.x.kind=7) (g0:0<=k.g) (g1:k.g+d7 k.x<=g) (h:B0 g j k.rest):B0 g j (some k)
 |hold (k:qe) (hk:k.kind=0) (hx:WF k.x) (hl:w6 k.x) (g0:0<=k.g) (g1:k.g+d7 k.x<=g) (h:B0 g j k.rest):B0 g j (some k)
theorem B0.oN{g:Nat}{i j:Int}(Ed:i<=j){k:Option qe}(h:B0 g i k):B0 g j k:=by induction h with|none=>exact .none|Jb k hk g0 g1 f0 f1 _ ih=>exact .Jb k hk g0 g1 f0 o? ih|again k hk hx hl h7 g0 g1 _ ih=>exact .again k hk hx hl h7 g0 g1 ih|hold k hk hx hl g0 g1 _ ih=>exact .hold k hk hx hl g0 g1 ih
mutual
def kW:qe->Nat
 |⟨kd,x,_,_,_,r⟩=>(if kd=0 then sc x else 1)+kWO r
def kWO:Option qe->Nat
 |none=>0
 |some k=>kW k
end
theorem Ll(k:qe):kWO (some k)=(if k.kind=0 then sc k.x else 1)+kWO k.rest:=by cases k;simp[kW,kWO]
section
variable {s:qa} {n:Nat}
theorem Kp{b:qg}(hb:mA s n b){i:Int}(h0:0<=i)(h1:i<=n):qM (qh b.wN.l i) (fun x=>b.wN.l[i.toNat]? =some x/\0<=x/\x<=s.length):=
 (W_ h0 (by have:=hb.wN;omega)).mono fun x hx=>⟨hx.1,hb.Xk x hx.2⟩
theorem Ty{l:List Int}(hm:l.Pairwise (· < ·)){i j:Nat}{a c:Int}(hi:l[i]? =some a)(hj:l[j]? =some c)(h:i<j):a<c:=by obtain⟨i1,rfl⟩:=qL hi;obtain⟨j1,rfl⟩:=qL hj;exact List.pairwise_iff_getElem.1 hm i j i1 j1 h
theorem XW{l:List Int}(hm:l.Pairwise (· < ·)){i j:Nat}{a c:Int}(hi:l[i]? =some a)(hj:l[j]? =some c)(h:i<=j):a<=c:=by have:= @Ty;exact tW
theorem AW(x:qF)(hx:w6 x)(i:Int)(h0:0<=i)(h1:i<=n)(b:qg)(hb:mA s n b):qM (nU x i b) (fun r=>0<=r.1/\(r.2=true->i+r.1<=n)):=by have hc:=hb.cs;have hn:=hb.hn;have hs:=hb.hs;have hxw:=yL x;have hrows:=xI d6 x.rows.l;unfold w6 at hx;unfold nU;refine .tI ?_ ?_<;>intro hT;exact .ret ⟨z?,fun _=>u?⟩;refine .tI ?_ ?_<;>intro hT;exact .ret ⟨z?,fun _=>u?⟩;refine .tI ?_ ?_<;>intro hT;{refine .tI ?_ ?_<;>intro hT;{(repeat (first|(rw [qB];rotate_left;omega;omega)|(rw [xU];rotate_left;omega;omega)));refine .bind .get fun c _=>?_;refine .bind (Zk c) fun v _=>?_;refine .tI ?_ ?_<;>intro hT;refine .bind .get fun c _=>?_;refine .bind (Zk c) fun v _=>?_;exact .ret ⟨z?,fun _=>u?⟩;exact .ret ⟨z?,fun _=>u?⟩};refine .tI ?_ ?_<;>intro hT;refine .bind .get fun c _=>?_;refine .bind (Zk c) fun v _=>?_;exact .ret ⟨z?,fun _=>u?⟩;exact .ret ⟨z?,fun _=>u?⟩};refine .tI ?_ ?_<;>intro hT;exact .ret ⟨z?,z?⟩;refine .bind .get fun c hcc=>?_;have Xi:=hb.clen c hcc.2;refine .tI ?_ ?_<;>intro hT;exact .ret ⟨z?,fun _=>u?⟩;refine .tI ?_ ?_<;>intro hT;refine .bind (F3 x.rows o? _ _ c o?) fun v _=>?_;exact .ret ⟨z?,fun _=>u?⟩;refine .tI ?_ ?_<;>intro hT;exact .ret ⟨z?,fun _=>u?⟩;refine .tI ?_ ?_<;>intro hT;refine .bind (QZ c o?) fun v _=>?_;refine .bind (QZ x.char o?) fun v _=>?_;exact .ret ⟨z?,fun _=>u?⟩;exact .ret ⟨z?,z?⟩
end
abbrev OnR:=Int×Sl qk×Bool×qg
structure Pm (s:qa) (n g:Nat) (i:Int) (b:qg) (r:OnR):Prop where
 run:mA s n r.2.2.2
 oN:cw b r.2.2.2
 ok:r.2.2.1=true->i<=r.1/\r.1<=n/\mW s g r.2.1
theorem Pm.mono{s:qa}{n g:Nat}{i j:Int}{b c:qg}{r:OnR}(h:Pm s n g j c r)(Ed:i<=j)(hl:cw b c):Pm s n g i b r:=
 ⟨h.run,hl.trans h.oN,fun k=>⟨q0d Ed (h.ok k).1,(h.ok k).2⟩⟩
theorem Pm.fail{s:qa}{n g:Nat}{i:Int}{b:qg}(hb:mA s n b){e:Int}{p:Sl qk}:Pm s n g i b (e,p,false,b):=⟨hb,.refl b,z?⟩
section
variable {s:qa} {n g:Nat}
structure UD (s:qa) (n g:Nat) (k:Option qe) (i:Int) (parts:Sl qk) (b:qg):Prop where
 i0:0<=i
 i1:i<=n
 k:B0 g i k
 p:mW s g parts
 run:mA s n b
 g:g<=1000000000
def B1(s:qa)(n g:Nat)(k:Option qe)(i:Int)(parts:Sl qk)(b:qg):Prop:=qM (zd (k,i,parts,b)) (Pm s n g i b)
theorem Ur{p:Sl qk}(h:p.l.length=g)(hg:g<=1000000000):qi p.l.length 16=true:=by simp only[qi,zU,decide_eq_true_eq];omega
theorem mW.set{p:Sl qk}(h:mW s g p)(i:Nat){x:qk}(hx:UF s x)(b:Bool):mW s g (⟨b,p.l.set i x⟩:Sl qk) where
 len:=by simpa using h.len
 ok:=by intro y hy;rcases List.mem_or_eq_of_mem_set hy with hy|rfl;exact h.ok y hy;exact hx
theorem rO{o:Option OnR}{Q:OnR->Prop}(h:qM o Q):qM (o>>=fun v=>some (v.1,v.2.1,v.2.2.1,v.2.2.2)) Q:=G' h fun v hv=> .ret hv
theorem Ds(k:qe)(i:Int)(parts:Sl qk)(b:qg)(h:UD s n g (some k) i parts b)(hk:k.kind=0)(h7:k.x.kind≠7)
  (go: ∀k i parts c,UD s n g k i parts c->c.fuel.toNat<b.fuel.toNat->B1 s n g k i parts c):qM (hJ (some k,i,parts,b)) (Pm s n g i b):=by
 have hf:=h.run.fuel;have hg:=h.g;have hn:=h.run.hn;obtain⟨hx,hl,g0,g1,pC⟩:WF k.x/\w6 k.x/\0<=k.g/\k.g+d7 k.x<=g/\B0 g i k.rest:=by cases h.k with|Jb _ h1=>omega|again _ h1=>omega|hold _ _ a b c d e=>exact⟨a,b,c,d,e⟩
 rw[hJ.eq_1];refine .tI ?_ ?_<;>intro hT;exact .ret ⟨⟨h.run.hs,h.run.cs,h.run.clen,h.run.wN,h.run.mono,h.run.Xk,hf,hn⟩,⟨rfl,rfl,rfl,v! _⟩,z?⟩
 have hf0:0<b.fuel:=o?;refine .go rfl ?_;have hr:mA s n (qg.mk b.cs b.wN b.fold (q?.wrap (b.fuel-(1:Int))) b.out):=
  ⟨h.run.hs,h.run.cs,h.run.clen,h.run.wN,h.run.mono,h.run.Xk,by simp only;rw[qB o? o?];omega,hn⟩
 have VX:cw b (qg.mk b.cs b.wN b.fold (q?.wrap (b.fuel-(1:Int))) b.out):=⟨rfl,rfl,rfl,by simp only;rw[qB o? o?];omega⟩;have xS:(qg.mk b.cs b.wN b.fold (q?.wrap (b.fuel-(1:Int))) b.out).fuel.toNat<b.fuel.toNat:=by simp only;rw[qB o? o?];omega
 have Gv:=V2 k.x;refine .tI ?_ ?_<;>intro hT;(have h5:=hT;obtain⟨y,hy⟩:=hx.one o?;refine .go (a:=y) (by rw[hy];rfl) ?_;have El:y∈k.x.qD.l:=by rw[hy];simp);rw[if_pos h5,hy]at Gv;simp only[d?,z!,qR]at Gv;rw[wr (n:=k.g+1) o? o?];refine rO ((go _ i parts _ ⟨h.i0,h.i1, ?_,h.p,hr,hg⟩ xS).mono fun r hr=>hr.mono (v! _) VX);refine .hold _ rfl (hx.qD y El) (ma hl El) u? u? ?_;exact .Jb _ rfl u? u? (by simp only;exact h.i0) u? pC;refine .tI ?_ ?_<;>intro hT;(have h6:=hT;obtain⟨y,hy⟩:=hx.one o?;refine .go (a:=y) (by rw[hy];rfl) ?_;have El:y∈k.x.qD.l:=by rw[hy];simp);rw[if_neg o?,hy]at Gv;simp only[d?,z!,qR]at Gv;refine rO ((go _ i parts _ ⟨h.i0,h.i1, ?_,h.p,hr,hg⟩ xS).mono fun r hr=>hr.mono (v! _) VX);exact .hold _ rfl (hx.qD y El) (ma hl El) u? u? pC;refine .bind (AW k.x hl i h.i0 h.i1 _ hr) fun v hv=>?_;refine .tI ?_ ?_<;>intro hT;exact .ret ⟨hr,VX,z?⟩;have Ei:=hv.2 (by simpa using hT);have h0:=h.i0;rw[wr (n:=i+v.1) o? o?];refine rO ((go _ (i+v.1) parts _ ⟨o?,Ei,pC.oN o?,h.p,hr,hg⟩ xS).mono fun r hr=>hr.mono o? VX)
theorem Wk(k:qe)(i:Int)(parts:Sl qk)(b:qg)(h:UD s n g (some k) i parts b)(hk:k.kind=0)(h0:k.x.kind≠0/\k.x.kind≠1/\k.x.kind≠7)
  (go: ∀k i parts c,UD s n g k i parts c->c.fuel.toNat<b.fuel.toNat->B1 s n g k i parts c):B1 s n g (some k) i parts b:=by unfold B1;rw[zd.eq_1];rw[if_neg z?];refine .go rfl ?_;rw[if_neg (by simp[hk]),if_neg (by simp[hk]),if_neg (by simp[h0.1]),if_neg (by simp[h0.2.1]),if_neg (by simp[h0.2.2])];exact rO (Ds k i parts b h hk h0.2.2 go)
theorem DB(k:qe)(i:Int)(b:qg)(hl:w6 k.x)(g0:0<=k.g)(g1:k.g+d7 k.x<=g)(hg:g<=1000000000):
  ∀(m:Nat)(j:Int)(p:List qk),m=(d7 k.x-j).toNat->0<=j->mW s g ⟨false,p⟩->qM (yb (some k,i,j,b,p)) (fun r=>mW s g ⟨false,r⟩):=by intro m;induction m using r? with|_ m ih=>intro j p hm h0 hp;have dg:=hp.len;simp only at dg;rw[yb.eq_1];refine .go rfl ?_;refine .go (eN k.x hl) ?_;refine .tI ?_ ?_<;>intro hT;rw[wr (n:=k.g+j) o? o?,wr (n:=j+1) o? o?];refine .bind .get fun y _=>?_;exact ih _ o? (j+1) _ rfl o? (hp.set _ (.inl rfl) false);exact .ret hp
theorem time_tot(k:qe)(i:Int)(parts:Sl qk)(b:qg)(i0:0<=i)(i1:i<=n)(hx:WF k.x)(hl:w6 k.x)(h7:k.x.kind=7)(g0:0<=k.g)(g1:k.g+d7 k.x<=g)(pC:B0 g i k.rest)(hp:mW s g parts)(hb:mA s n b)(hg:g<=1000000000)
  (go: ∀k i parts c,UD s n g k i parts c->c.fuel.toNat<b.fuel.toNat->B1 s n g k i parts c):qM (xN (some k,i,parts,b)) (Pm s n g i b):=by
 rw[xN.eq_1];refine .zE (Ur hp.len hg) ?_;refine .bind (DB (s:=s) k i b hl g0 g1 hg _ 0 parts.l rfl o? ⟨hp.len,hp.ok⟩) fun v hv=>?_;refine .go rfl ?_;obtain⟨y,hy⟩:=hx.one o?;refine .go (a:=y) (by rw[hy];rfl) ?_;have El:y∈k.x.qD.l:=by rw[hy];simp
 have hyk:=hx.rep h7 y El;have Gv:=V2 k.x;rw[if_neg o?,hy]at Gv;simp only[d?,z!,qR]at Gv;refine rO (Wk _ i _ b ⟨i0,i1, ?_,hv,hb,hg⟩ rfl u? go);refine .hold _ rfl (hx.qD y El) (ma hl El) g0 u? ?_;exact .again _ rfl hx hl h7 g0 g1 pC
theorem WZ(k:qe)(i:Int)(parts:Sl qk)(b:qg)(i0:0<=i)(i1:i<=n)(hx:WF k.x)(hl:w6 k.x)(h7:k.x.kind=7)(g0:0<=k.g)(g1:k.g+d7 k.x<=g)(pC:B0 g i k.rest)(hp:mW s g parts)(hb:mA s n b)(hg:g<=1000000000)
  (go: ∀k i parts c,UD s n g k i parts c->c.fuel.toNat<b.fuel.toNat->B1 s n g k i parts c)
  (rest: ∀c,mA s n c->c.fuel<=b.fuel->B1 s n g k.rest i parts c):qM (ke (some k,i,parts,b)) (Pm s n g i b):=by
 have tm: ∀c,mA s n c->cw b c->qM (xN (some k,i,parts,c)) (Pm s n g i c):=fun c hc hbc=>
  time_tot k i parts c i0 i1 hx hl h7 g0 g1 pC hp hc hg fun k i p d h1 h2=>go k i p d h1 (by have:=hbc.fuel;have:=hc.fuel;have:=hb.fuel;omega)
 have t0:=tm b hb (.refl b);have r0:qM (zd (k.rest,i,parts,b)) (Pm s n g i b):=rest b hb (v! _);have lazy: ∀{c:OnR->Prop}[DecidablePred c],qM (zd (k.rest,i,parts,b)>>=fun v=>if c v then some (v.1,v.2.1,v.2.2.1,v.2.2.2)else xN (some k,i,parts,v.2.2.2)>>=fun w=>some (w.1,w.2.1,w.2.2.1,w.2.2.2)) (Pm s n g i b):=by intro c _;refine .bind r0 fun v hv=>?_;refine .ite (fun _=> .ret hv) fun _=>?_;exact rO ((tm v.2.2.2 hv.run hv.oN).mono fun r hr=>hr.mono (v! _) hv.oN)
 have eager: ∀{c:OnR->Prop}[DecidablePred c],qM (xN (some k,i,parts,b)>>=fun v=>if c v then some (v.1,v.2.1,v.2.2.1,v.2.2.2)else zd (k.rest,i,parts,v.2.2.2)>>=fun w=>some (w.1,w.2.1,w.2.2.1,w.2.2.2)) (Pm s n g i b):=by intro c _;refine .bind t0 fun v hv=>?_;refine .ite (fun _=> .ret hv) fun _=>?_;exact rO ((rest v.2.2.2 hv.run hv.oN.fuel).mono fun r hr=>hr.mono (v! _) hv.oN)
 rw[ke.eq_1];refine .go rfl ?_;repeat' (first|exact rO t0|exact rO r0|exact lazy|exact eager|refine .ite (fun _=>?_) (fun _=>?_))
theorem seq_L1(k:qe)(i:Int)(parts:Sl qk)(b:qg)(hx:WF k.x)(hl:w6 k.x)(g0:0<=k.g)(g1:k.g+qR (k.x.qD.l.map d7)<=g)(hg:g<=1000000000):
  ∀(m:Nat)(rest:Option qe),m<=k.x.qD.l.length->B0 g i rest->
   qM (yl (some k,i,parts,rest,k.g+(qR ((k.x.qD.l.take m).map d7):Nat),(m:Int)-1,b)) (fun r=>B0 g i r/\kWO r=qR ((k.x.qD.l.take m).map sc)+kWO rest):=by intro m;have pd:=aq k.x;unfold w6 at hl;induction m with|zero=>intro rest _ hr;rw[yl.eq_1,if_neg z?];exact .ret ⟨hr,by simp[qR]⟩|succ m ih=>(intro rest hm hr;rw[yl.eq_1,if_pos z?];refine .go rfl ?_;have xS:m<k.x.qD.l.length:=o?;have hy:k.x.qD.l[m]∈k.x.qD.l:=List.getElem_mem xS;have e1:((m+1:Nat):Int)-1=(m:Int):=o?;rw[e1];refine .go (xk xS) ?_;have hlk:w6 k.x.qD.l[m]:=ma (by unfold w6;omega) hy;refine .go (eN _ hlk) ?_;have e2:k.x.qD.l.take (m+1)=k.x.qD.l.take m++[k.x.qD.l[m]]:=by rw[List.take_succ_eq_append_getElem xS]);(have e3:=kx d7 (k.x.qD.l.take m) k.x.qD.l[m];have e4:=kx sc (k.x.qD.l.take m) k.x.qD.l[m];have e5:qR (k.x.qD.l.map d7)=qR ((k.x.qD.l.take m).map d7)+qR ((k.x.qD.l.drop m).map d7):=by conv=>lhs;rw[<- List.take_append_drop m k.x.qD.l,z_,bT]);(have e6:d7 k.x.qD.l[m]<=qR ((k.x.qD.l.drop m).map d7):=j9 (by rw[List.drop_eq_getElem_cons xS];exact List.mem_cons_self);rw[e2,e3,e4];have e7:q?.wrap (k.g+((qR ((k.x.qD.l.take m).map d7)+d7 k.x.qD.l[m]:Nat):Int)-(d7 k.x.qD.l[m]:Int))=k.g+(qR ((k.x.qD.l.take m).map d7):Nat):=by rw[wr o? o?];omega);rw[e7,wr (n:=(m:Int)-1) o? o?];refine(ih _ o? (.hold _ rfl (hx.qD _ hy) hlk u? u? hr)).mono fun r h=>⟨h.1, ?_⟩;rw[h.2,Ll];simp only[if_true];omega
theorem alt_L3(k:qe)(i:Int)(parts:Sl qk)(b:qg)(hx:WF k.x)(hl:w6 k.x)(g0:0<=k.g)(g1:k.g+qR (k.x.qD.l.map d7)<=g)(hg:g<=1000000000)(pC:B0 g i k.rest)
  (go: ∀y∈k.x.qD.l,∀(q:Int) c,0<=q->q+d7 y<=g->mA s n c->c.fuel<=b.fuel->B1 s n g (some (qe.mk (0:Int) y q (0:Int) (0:Int) k.rest)) i parts c):
  ∀(r:List qF)(m:Nat)(q:Int)(c:qg),k.x.qD.l.drop m=r->k.g<=q->q+qR (r.map d7)<=g->mA s n c->cw b c->
   qM (kF (some k,i,parts,q,(m:Int),c)) (fun r=>match r with| .inl v=>Pm s n g i b v| .inr d=>mA s n d/\cw b d):=by have pd:=aq k.x;unfold w6 at hl;intro r;induction r with|nil=>intro m q c hm h0 h1 hc hbc;rw[kF.eq_1];have:= @yx;exact tW|cons y r ih=>intro m q c hm h0 h1 hc hbc;obtain⟨a1,a2,a3,a4⟩:=vn hm;simp only[d?,qR]at h1;rw[kF.eq_1];refine .go rfl ?_;rw[if_pos (by simpa using a1),l9 o? a1];refine .go a2 ?_;refine .bind (go y a4 q c o? o? hc hbc.fuel) fun v hv=>?_;refine .ite (fun _=> .ret (hv.mono (v! _) hbc)) fun _=>?_;refine .go (eN y (ma (by unfold w6;omega) a4)) ?_;rw[wr (n:=q+(d7 y:Int)) o? o?];exact ih (m+1) _ _ a3 o? o? hv.run (hbc.trans hv.oN)
theorem on_tot: ∀(f w:Nat)(k:Option qe)(i:Int)(parts:Sl qk)(b:qg),b.fuel.toNat=f->kWO k=w->UD s n g k i parts b->B1 s n g k i parts b:=by
 intro f;induction f using r? with
  |_ f ihf=>intro w;induction w using r? with
  |_ w ihw=>(intro k i parts b hf hw h;have go: ∀k i parts c,UD s n g k i parts c->c.fuel.toNat<b.fuel.toNat->B1 s n g k i parts c:=fun k i p c h1 h2=>ihf _ o? _ k i p c rfl rfl h1;have Hp: ∀k i parts c,UD s n g k i parts c->c.fuel<=b.fuel->kWO k<w->B1 s n g k i parts c:=by intro k' i p c h1 h2 h3;have:=h1.run.fuel;by_cases h4:c.fuel.toNat=f;exact ihw _ h3 k' i p c h4 rfl h1;exact ihf _ o? _ k' i p c rfl rfl h1);have hg:=h.g;have hn:=h.run.hn;cases hk:k with
  |none=>unfold B1;rw[zd.eq_1,if_pos z?];exact .ret ⟨h.run,.refl b,fun _=>⟨v! _,h.i1,h.p⟩⟩
  |some k=>
   rw[hk]at h hw;rw[Ll]at hw;cases h.k with
    |Jb _ h1 g0 g1 f0 f1 pC=>unfold B1;rw[zd.eq_1,if_neg z?];refine .go rfl ?_;rw[if_pos (by simp[h1])];refine .zE (Ur h.p.len hg) ?_;have i1:=h.i1;refine .bind (Kp h.run f0 o?) fun x hx=>?_;refine .bind (Kp h.run h.i0 h.i1) fun y hy=>?_;refine .bind (W_ g0 (by have:=h.p.len;omega)) fun z _=>?_;rw[if_neg o?]at hw;refine rO (Hp k.rest i _ b ⟨h.i0,h.i1,pC,h.p.set _ (.inr ⟨hx.2.1, ?_,hy.2.2⟩) false,h.run,hg⟩ (v! _) o?);exact XW h.run.mono hx.1 hy.1 o?
    |again _ h1 hx hl h7 g0 g1 pC=>
     have rep:qM (ke (some k,i,parts,b)) (Pm s n g i b):=
      WZ k i parts b h.i0 h.i1 hx hl h7 g0 g1 pC h.p h.run hg go fun c hc hcf=>Hp k.rest i parts c ⟨h.i0,h.i1,pC,h.p,hc,hg⟩ hcf (by rw[if_neg o?]at hw;omega)
     unfold B1;rw[zd.eq_1,if_neg z?];refine .go rfl ?_;rw[if_neg (by simp[h1]),if_pos (by simp[h1])];refine .ite (fun _=>qM.ite (fun _=> .ret (.fail h.run)) fun _=>rO rep) fun _=>rO rep
    |hold _ h1 hx hl g0 g1 pC=>rw[if_pos h1]at hw;have Gv:=V2 k.x;have hwx:=yL k.x;by_cases k0:k.x.kind=0;rw[if_neg o?]at Gv;unfold B1;rw[zd.eq_1,if_neg z?];refine .go rfl ?_;rw[if_neg (by simp[h1]),if_neg (by simp[h1]),if_pos (by simp[k0])];refine .go (eN k.x hl) ?_;have pd:=aq k.x;unfold w6 at hl;have h2:=seq_L1 k i parts b hx (by unfold w6;omega) g0 o? hg k.x.qD.l.length k.rest (ju _) pC;rw[List.take_length]at h2;rw[wr (n:=k.g+(d7 k.x:Int)) o? o?,wr (n:=(k.x.qD.l.length:Int)-1) o? o?];rw[show k.g+(d7 k.x:Int)=k.g+((qR (k.x.qD.l.map d7):Nat):Int) by omega];refine .bind h2 fun v hv=>?_;exact rO (Hp v i parts b ⟨h.i0,h.i1,hv.1,h.p,h.run,hg⟩ (v! _) o?);by_cases k1:k.x.kind=1;rw[if_neg o?]at Gv;unfold B1;rw[zd.eq_1,if_neg z?];refine .go rfl ?_;rw[if_neg (by simp[h1]),if_neg (by simp[h1]),if_neg (by simp[k0]),if_pos (by simp[k1])];refine .bind (alt_L3 (s:=s) (n:=n) k i parts b hx hl g0 o? hg pC ?_ k.x.qD.l 0 k.g b rfl (v! _) o? h.run (.refl b)) fun v hv=>?_;intro y hy q c q0 q1 hc hcf;have:=CN hy;refine Hp _ i parts c ⟨h.i0,h.i1,.hold _ rfl (hx.qD y hy) (ma hl hy) q0 q1 pC,h.p,hc,hg⟩ hcf ?_;rw[Ll];simp only[if_true];omega;rcases v with v|v;exact .ret hv;exact .ret ⟨hv.1,hv.2,z?⟩;by_cases k7:k.x.kind=7;unfold B1;rw[zd.eq_1,if_neg z?];refine .go rfl ?_;rw[if_neg (by simp[h1]),if_neg (by simp[h1]),if_neg (by simp[k0]),if_neg (by simp[k1]),if_pos (by simp[k7])];refine rO (WZ _ i parts b h.i0 h.i1 hx hl k7 g0 g1 pC h.p h.run hg go fun c hc hcf=>?_);exact Hp k.rest i parts c ⟨h.i0,h.i1,pC,h.p,hc,hg⟩ hcf (by have:=oC k.x;omega);exact Wk k i parts b h h1 ⟨k0,k1,k7⟩ go
end
theorem splitL(s:qa): ∀(r:qa)(k f:Nat)(l out:List qa),s.drop k=r->k<=s.length->s.length<=1048576->(∀ c∈l,c.length<=s.length)->zS (s,(f:Int),(k:Int),l)=some out-> ∀c∈out,c.length<=s.length:=by intro r;induction r with|nil=>intro k f l out hk pd hs hl h;have h1:=vV hk;obtain rfl:k=s.length:=o?;rw[zS.eq_1]at h;simp only[v!,decide_true,if_true,beq_self_eq_true,zP,J!]at h;obtain⟨r,hr,h⟩:=h;split at h;rw[zS.eq_1,if_neg (by rw[wr o? o?];simp;omega)]at h;cases h;intro c hc;rcases p?.1 hc with hc|hc;exact hl c hc;simp only[c?]at hc;subst hc;rw[<- Xf hr];simp;cases h|cons b r ih=>intro k f l out hk pd hs hl h;obtain⟨a1,a2,a3,_⟩:=vn hk;have h1:((k:Int)<=(s.length:Int)):=o?;have h2:((k:Int)==(s.length:Int))=false:=v?;rw[zS.eq_1]at h;simp only[h1,decide_true,if_true,h2,wH,if_false,a2,zP,qV,Kk,l9 o? a1]at h;split at h;rw[J!]at h;obtain⟨r1,hr,h⟩:=h;split at h;refine ih (k+1) k _ out a3 o? hs ?_ h;intro c hc;rcases p?.1 hc with hc|hc;exact hl c hc;simp only[c?]at hc;subst hc;rw[<- Xf hr];simp;omega;cases h;exact ih (k+1) f l out a3 o? hs hl h
theorem FO(s:qa)(hs:s.length<=1048576): ∀(r:qa)(k:Nat)(l:List Int),s.drop k=r->k<=s.length->l.length<=k->l.Pairwise (· < ·)->(∀ x∈l,0<=x/\x<k)->
  ∃out,js (s,(k:Int),l)=some out/\out.length=l.length+r.countP Jt+1/\out.Pairwise (· < ·)/\ ∀x∈out,0<=x/\x<=s.length:=by
 have V1: ∀n,n<=1099511627777->qi n 8=true:=by intro n hn;simp only[qi,zU,decide_eq_true_eq];omega
 have Ga: ∀(l:List Int)(k:Nat),l.Pairwise (· < ·)->(∀ x∈l,0<=x/\x<(k:Int))->(l++[(k:Int)]).Pairwise (· < ·):=by intro l k h1 h2;refine List.pairwise_append.2 ⟨h1,z?,fun a ha b hb=>?_⟩;simp only[c?]at hb;subst hb;exact(h2 a ha).2
 intro r;induction r with
  |nil=>intro k l hk pd Fa hp hr;have h1:=vV hk;obtain rfl:k=s.length:=o?;rw[js.eq_1];simp only[v!,decide_true,if_true,beq_self_eq_true,V1 _ (show l.length+1<=_ by omega)];rw[js.eq_1,if_neg (by rw[wr o? o?];simp;omega)];refine⟨_,rfl,z?,Ga l _ hp hr, ?_⟩;intro x hx;rcases p?.1 hx with hx|hx;have:=hr x hx;omega;simp only[c?]at hx;omega
  |cons b r ih=>
   intro k l hk pd Fa hp hr;obtain⟨a1,a2,a3,_⟩:=vn hk;have h1:((k:Int)<=(s.length:Int)):=o?;have h2:((k:Int)==(s.length:Int))=false:=v?;rw[js.eq_1];simp only[h1,decide_true,if_true,h2,wH,if_false,a2,zP,qV,Kk,l9 o? a1];cases hb:Jt b;obtain⟨out,o1,o2,o3⟩:=ih (k+1) l a3 o? o? hp (fun x hx=>by have:=hr x hx;omega);exact⟨out,by simpa using o1,by rw[o2];simp[C!,hb],o3⟩
   obtain⟨out,o1,o2,o3⟩:=ih (k+1) (l++[(k:Int)]) a3 o? v? (Ga l k hp hr) (fun x hx=>by
    rcases p?.1 hx with hx|hx
    ·have:=hr x hx;omega
    simp only[c?]at hx;omega)
   refine⟨out, ?_,by rw[o2];simp[C!,hb];omega,o3⟩;simp only[if_true,V1 _ (show l.length+1<=_ by omega),o1]
theorem Uy(fold:Bool)(s:qa)(hs:s.length<=1048576)(fuel:Int):qM (r9 fold s fuel) (fun b=> ∃n,mA s n b):=by
 have hfu:0<=(if (20000:Int)<(if (0:Int)>fuel then(0:Int)else fuel)then(20000:Int)else(if (0:Int)>fuel then(0:Int)else fuel))/\(if (20000:Int)<(if (0:Int)>fuel then(0:Int)else fuel)then(20000:Int)else(if (0:Int)>fuel then(0:Int)else fuel))<=20000:=by constructor<;>(repeat' split)<;>omega
 unfold r9;by_cases h0:s.length=0;(have:s=[]:=by simpa using h0);subst this;refine .go (a:=(⟨true,[]⟩:Sl qa)) (by unfold yQ;rw[zS.eq_1];simp) ?_;refine .go (a:=(⟨false,[0]⟩:Sl Int)) (by unfold rQ;rw[js.eq_1];simp) ?_;exact .ret ⟨0,⟨z?,rfl,z?,rfl,z?,z?,hfu,o?⟩⟩;obtain⟨o1,p1,p2⟩:=Mz s o? (s.drop 1) 1 0 [] rfl o? o? z?;have p3:=splitL s (s.drop 1) 1 0 [] o1 rfl o? hs z? p1;obtain⟨o2,q1,q2,q3,q4⟩:=FO s hs (s.drop 1) 1 [0] rfl o? z? z? z?;have hc:(s.drop 1).countP Jt<=s.length-1:=by have:=List.countP_le_length (p:=Jt) (l:=s.drop 1);simp only[List.length_drop]at this;exact this
 refine .go (a:=(⟨o1.isEmpty,o1⟩:Sl qa)) (by unfold yQ;exact Option.bind_eq_some_iff.2 ⟨o1,p1,rfl⟩) ?_;refine .go (a:=(⟨false,o2⟩:Sl Int)) (by unfold rQ;exact Option.bind_eq_some_iff.2 ⟨o2,q1,rfl⟩) ?_;refine .ret ⟨o1.length,⟨hs,rfl,p3, ?_,q3,q4,hfu, ?_⟩⟩;exact tW;simp only[List.length_nil]at p2;omega
structure Q0 (s:qa) (n g:Nat) (b:qg) (i:Int) (m:ql):Prop where
 ex: ∃j e:Nat,i<=j/\j<=e/\e<=n/\b.wN.l[j]? =some m.span.qO/\b.wN.l[e]? =some m.span.to
 parts:mW s g m.parts
section
variable {s:qa} {n:Nat}
theorem q04(i:Int)(b:qg)(x:qF)(t:ql)(hl:w6 x)(hg:d7 x<=1000000000): ∀(m:Nat)(j:Int)(l:List qk),m=(d7 x-j).toNat->0<=j->j<=d7 x->(l.length:Int)=j->(∀ y∈l,UF s y)->
  qM (hC (i,j,b,x,t,l)) (fun r=>r.length=d7 x/\ ∀y∈r,UF s y):=by intro m;induction m using r? with|_ m ih=>intro j l hm h0 h1 hlen T1;rw[hC.eq_1];refine .go (eN x hl) ?_;refine .tI ?_ ?_<;>intro hT;refine .zE (by simp only[qi,zU,decide_eq_true_eq];omega) ?_;rw[wr (n:=j+1) o? o?];refine ih _ o? (j+1) _ rfl o? o? v? ?_;intro y hy;rcases p?.1 hy with hy|hy;exact T1 y hy;simp only[c?]at hy;subst hy;exact .inl rfl;exact .ret ⟨o?,T1⟩
theorem IW(x:qF)(hx:WF x)(hl:sc x<=1000000000)(i:Int)(h0:0<=i)(h1:i<=n)(b:qg)(hb:mA s n b):
  qM (rT x i b) (fun r=>mA s n r.2.2/\cw b r.2.2/\(r.2.1=true->Q0 s n (d7 x) b i r.1)):=by
 have hgl:=Rr x;have hli:w6 x:=by unfold w6;omega
 unfold rT;refine .bind (q04 (s:=s) i b x _ hli o? _ 0 [] rfl o? o? rfl z?) fun v hv=>?_;refine .bind (on_tot (s:=s) (n:=n) (g:=d7 x) _ _ _ i _ b rfl rfl ⟨h0,h1,.hold _ rfl hx hli u? u? .none,⟨hv.1,hv.2⟩,hb,o?⟩) fun w hw=>?_;refine .ite (fun _=> .ret ⟨hw.run,hw.oN,z?⟩) fun hc=>?_;have Wp:=hw.ok (by simpa using hc);refine .bind (Kp hw.run h0 h1) fun y hy=>?_;refine .bind (Kp hw.run o? Wp.2.1) fun z hz=>?_;refine .ret ⟨hw.run,hw.oN,fun _=>⟨⟨i.toNat,w.1.toNat,o?,o?,o?, ?_, ?_⟩,Wp.2.2⟩⟩;rw[<- hw.oN.wN];exact hy.1;rw[<- hw.oN.wN];exact hz.1
theorem Q0.mono{g:Nat}{b c:qg}{i j:Int}{m:ql}(h:Q0 s n g c j m)(Ed:i<=j)(hl:cw b c):Q0 s n g b i m:=by obtain⟨⟨p,e,h1,h2,h3,h4,h5⟩,h6⟩:=h;exact⟨⟨p,e,o?,h2,h3,by rw[<- hl.wN];exact h4,by rw[<- hl.wN];exact h5⟩,h6⟩
theorem DT(x:qF)(hx:WF x)(hl:sc x<=1000000000)(t:ql): ∀(m:Nat)(i:Int)(b:qg),m=(n+1-i).toNat->0<=i->mA s n b->
  qM (vZ (i,b,x,t)) (fun r=>match r with| .inl v=>mA s n v.2.1/\cw b v.2.1/\(v.1=true->Q0 s n (d7 x) b i v.2.2)| .inr c=>mA s n c/\cw b c):=by intro m;induction m using r? with|_ m ih=>intro i b hm h0 hb;have ho:=hb.wN;have hn:=hb.hn;rw[vZ.eq_1];refine .tI ?_ ?_<;>intro hT;refine .bind (IW x hx hl i h0 o? b hb) fun v hv=>?_;refine .ite (fun _=> .ret hv) fun _=>?_;rw[wr (n:=i+1) o? o?];refine(ih _ o? (i+1) v.2.2 rfl o? hv.1).mono fun r hr=>?_;rcases r with r|r;exact⟨hr.1,hv.2.1.trans hr.2.1,fun h=>(hr.2.2 h).mono o? hv.2.1⟩;exact⟨hr.1,hv.2.1.trans hr.2⟩;exact .ret ⟨hb,.refl b⟩
theorem W8(x:qF)(hx:WF x)(hl:sc x<=1000000000)(i:Int)(h0:0<=i)(b:qg)(hb:mA s n b):
  qM (bB x i b) (fun r=>mA s n r.2.2/\cw b r.2.2/\(r.2.1=true->Q0 s n (d7 x) b i r.1)):=by unfold bB;have:= @DT;exact tW
theorem Jx(a:Int)(b:qg)(hb:mA s n b):qM (hK a b) (fun r=> -1<=r/\ ∀e:Nat,b.wN.l[e]? =some a->r=e):=by
 have ho:=hb.wN;have hn:=hb.hn;have key: ∀(r:List Int)(k:Nat),b.wN.l.drop k=r->qM (kN (a,(k:Int),b)) (fun v=>match v with| .inl i=> ∃j:Nat,i=j/\b.wN.l[j]? =some a| .inr _=> ∀e:Nat,k<=e->b.wN.l[e]? ≠some a):=by intro r;induction r with|nil=>intro k hk;rw[kN.eq_1,if_neg (by simpa using yx hk)];refine .ret fun e he=>?_;rw[List.getElem?_eq_none (by have:=vV hk;omega)];simp|cons y r ih=>intro k hk;obtain⟨a1,a2,a3,a4⟩:=vn hk;obtain⟨b1,b2,b3⟩:=drop_cons hk;rw[kN.eq_1,if_pos (by simpa using a1),l9 o? a1];exact tW
 unfold hK;refine .bind (key b.wN.l 0 rfl) fun v hv=>?_;rcases v with v|v;(obtain⟨j,rfl,hj⟩:=hv;refine .ret ⟨o?,fun e he=>?_⟩;have h1: ¬j<e:=fun h=>by have:=Ty hb.mono hj he h;omega);(have h2: ¬e<j:=fun h=>by have:=Ty hb.mono he hj h;omega);omega;exact .ret ⟨o?,fun e he=>absurd he (hv e (Nat.zero_le e))⟩
def Ms(s:qa)(g:Nat):Int->List ql->Prop
 |lo,[]=>0<=lo/\lo<=s.length
 |lo,m::r=>0<=lo/\lo<=m.span.qO/\m.span.qO<=m.span.to/\mW s g m.parts/\Ms s g m.span.to r
def F8:Int->List ql->Int
 |lo,[]=>lo
 |_,m::r=>F8 m.span.to r
theorem Ms.lo{g:Nat}: ∀{l:List ql}{lo:Int},Ms s g lo l->0<=lo/\lo<=s.length
 |[],lo,h=>h
 |m::r,lo,h=>by have:=Ms.lo h.2.2.2.2;have h1:=h.1;have h2:=h.2.1;have h3:=h.2.2.1;omega
theorem XH: ∀(l:List ql)(lo:Int)(m:ql),F8 lo (l++[m])=m.span.to
 |[],_,_=>rfl
 |_::r,_,m=>XH r _ m
theorem Ms.Ga{g:Nat}: ∀{l:List ql}{lo:Int}{m:ql},Ms s g lo l->F8 lo l<=m.span.qO->m.span.qO<=m.span.to->m.span.to<=s.length->mW s g m.parts->Ms s g lo (l++[m])
 |[],lo,m,h,h1,h2,h3,h4=>by have:=h.1;exact⟨h.1,h1,h2,h4,by simp only[F8]at h1;omega,h3⟩
 |x::r,lo,m,h,h1,h2,h3,h4=>⟨h.1,h.2.1,h.2.2.1,h.2.2.2.1,Ms.Ga h.2.2.2.2 h1 h2 h3 h4⟩
theorem IL(x:qF)(hx:WF x)(hl:sc x<=1000000000): ∀(m:Nat)(i:Int)(b:qg)(out:List ql),m=(n+1-i).toNat->0<=i->i<=n+1->(out.length:Int)<=i->mA s n b->Ms s (d7 x) 0 out->(∀ a,b.wN.l[i.toNat]? =some a->F8 0 out<=a)->
  qM (nj (i,x,b,out)) (fun r=>match r with| .inl v=>v.2.2.1≠0/\v.1.l=[]| .inr v=>Ms s (d7 x) 0 v.2/\v.2.length<=n+1):=by intro m;induction m using r? with|_ m ih=>intro i b out hm h0 hi1 hlen hb hM hhi;have ho:=hb.wN;have hn:=hb.hn;rw[nj.eq_1];refine .tI ?_ ?_<;>intro hT;have hi:=hT;refine .bind (W8 x hx hl i h0 b hb) fun v hv=>?_;refine .tI ?_ ?_<;>intro hT;exact .ret ⟨z?,rfl⟩;refine .tI ?_ ?_<;>intro hT;exact .ret ⟨hM,u?⟩;(obtain⟨⟨j,e,g1,g2,g3,g4,g5⟩,g6⟩:=hv.2.2 hT;refine .zE (by simp only[qi,zU,decide_eq_true_eq];omega) ?_;refine .bind (Jx v.1.span.to v.2.2 hv.1) fun w hw=>?_;have hwe:w=e:=hw.2 e (by rw[hv.2.1.wN];exact g5);have hlow:F8 0 out<=v.1.span.qO:=by obtain⟨a,ha⟩: ∃a,b.wN.l[i.toNat]? =some a:=⟨_,wK o?⟩;have h1:=hhi a ha;have h2:=XW hb.mono ha g4 o?;omega);have hft:=XW hb.mono g4 g5 g2;have hto:=(hb.Xk _ (zc g5)).2;have hM2:=hM.Ga hlow hft hto g6;have oX:=hv.2.1.wN;refine .tI ?_ ?_<;>intro hT;rw[wr (n:=w+1) o? o?];refine ih _ o? (w+1) v.2.2 _ rfl o? o? v? hv.1 hM2 ?_;intro a ha;rw[XH];rw[oX]at ha;exact XW hb.mono g5 ha o?;(have jZ:=hT;have hje:j<e:=by rcases Nat.eq_or_lt_of_le g2 with rfl|h;exact absurd (Option.some.inj (g4.symm.trans g5)) jZ;exact h);refine ih _ o? w v.2.2 _ rfl o? o? v? hv.1 hM2 ?_;intro a ha;rw[XH];rw[oX]at ha;exact XW hb.mono g5 ha o?;exact .ret ⟨hM,u?⟩
end
theorem D6(x:qF)(hl:sc x<=1000000000)(fold:Bool)(s:qa)(hs:s.length<=1048576)(fuel:Int):qM (ik x fold s fuel) (fun r=>r.2.2=0->Ms s (d7 x) 0 r.1.l/\r.1.l.length<=1048577):=by unfold ik;refine .bind (Xn x (by unfold w6;omega)) fun v hv=>?_;refine .tI ?_ ?_<;>intro hT;exact .ret z?;have hx:=hv hT;refine .bind (Uy fold s hs fuel) fun b hb=>?_;obtain⟨n,hb⟩:=hb;refine .bind (IL (s:=s) (n:=n) x hx hl _ 0 b [] rfl o? o? z? hb ⟨o?,o?⟩ (fun a ha=>(hb.Xk a (zc ha)).1)) fun w hw=>?_;rcases w with w|w;exact .ret fun h=>absurd h hw.1;exact .ret fun _=>⟨hw.1,by have:=hb.hn;have:=hw.2;simp only;omega⟩
theorem Pf(x:qF)(hl:sc x<=1000000000)(fold:Bool)(s:qa)(hs:s.length<=1048576)(a fuel:Int):qM (fx x fold s a fuel) (fun r=>r.2.2.1=true->Ms s (d7 x) 0 [r.1]):=by unfold fx;refine .bind (Xn x (by unfold w6;omega)) fun v hv=>?_;refine .tI ?_ ?_<;>intro hT;exact .ret z?;have hx:=hv hT;refine .bind (Uy fold s hs fuel) fun b hb=>?_;obtain⟨n,hb⟩:=hb;refine .bind (Jx a b hb) fun w hw=>?_;refine .tI ?_ ?_<;>intro hT;exact .ret z?;refine .bind (W8 x hx hl w o? b hb) fun y hy=>?_;refine .bind (P:=fun r=>r.2.2.1=true->y.2.1=true/\r.1=y.1) ?_ fun z hz=>?_;exact tW;refine .ret fun h=>?_;obtain⟨z1,z2⟩:=hz h;obtain⟨⟨j,e,g1,g2,g3,g4,g5⟩,g6⟩:=hy.2.2 z1;simp only[z2];have h1:=hb.Xk _ (zc g4);have h2:=hb.Xk _ (zc g5);exact⟨o?,h1.1,XW hb.mono g4 g5 g2,g6,h2⟩
end Go.Proofs.YtnfdnckadgcifaaGreat
