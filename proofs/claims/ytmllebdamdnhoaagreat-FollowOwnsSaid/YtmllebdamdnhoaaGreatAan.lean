/-
  Matches of an expression, case, formats, transforms: they end.
-/
import Derived.Test.YtmllebdamdnhoaaGreatAam
set_option linter.unusedSimpArgs false
set_option linter.unusedVariables false
namespace Go.Proofs.YtmllebdamdnhoaaGreat
open Go Go.Gm
def PatQ(cs:Sl qa)(a:Int)(r:qE×Int×qd):Prop:=
 r.2.2.cs=cs/\(r.2.1=0->a<=r.2.2.qk/\r.2.2.qk<=cs.l.length/\(tn r.1:Int)<=1000*(r.2.2.qk-a)+2)
def PX(cs:Sl qa)(a:Int)(r:qE×Int×qd):Prop:=
 r.2.2.cs=cs/\(r.2.1=0->a<r.2.2.qk/\r.2.2.qk<=cs.l.length/\(tn r.1:Int)<=1000*(r.2.2.qk-a))
theorem Jc(k:Int):tn (qE.mk k ([]:qa) false (⟨true,([]:List qT)⟩:(Sl qT)) (0:Int) (0:Int) false (⟨true,([]:List qE)⟩:(Sl qE)))=1:=by
 rw[vS];simp[qK]
theorem kid_W(k:Int)(x:qE):tn (qE.mk k ([]:qa) false (⟨true,[]⟩:(Sl qT)) (0:Int) (0:Int) false (⟨false,[x]⟩:(Sl qE)))=1+tn x:=by
 rw[vS];simp[qK]
section
variable {cs:Sl qa} (hc:lY cs) (a0:Int) (DG:0<=a0)
 (H: ∀(deep:Int)(b:qd),0<=deep->deep<=16->b.cs=cs->a0<b.qk->b.qk<=cs.l.length->qG (zw (deep,b)) (PatQ cs b.qk))
include hc DG H
theorem Ah(deep:Int)(d0:0<=deep)(d1:deep<=16)(b:qd)(h:b.cs=cs)(h0:a0<=b.qk)(h1:b.qk<=cs.l.length):qG (jR (deep,b)) (PX cs b.qk):=by
 have hm:=hc.many;rw[jR.eq_1];refine .bind (jG hc _ b h (by omega) h1) fun v hv=>?_;refine .tI ?_ ?_<;>intro hT
 ·have g:=hT;have:=hv.2.2.2.1 g;exact .ret ⟨hv.1,fun _=>⟨by simp only;omega,by simp only;omega,by simp only[Jc];omega⟩⟩
 have g:=hT;have Ql:=hv.2.2.2.2 g;refine .bind (jG hc _ v.2 hv.1 (by omega) (by omega)) fun w hw=>?_;have grp: ∀(k:Int)(u:qd),u.cs=cs->b.qk<u.qk->u.qk<=cs.l.length->deep<16->qG (zw ((IntKind.i64.wrap (deep+(1:Int))),u)>>=fun vK=>
       if(vK.2.1 != (0:Int))then
        some ((qE.mk (0:Int) ([]:qa) false (⟨true,([]:List qT)⟩:(Sl qT)) (0:Int) (0:Int) false (⟨true,([]:List qE)⟩:(Sl qE))),vK.2.1,vK.2.2)
       else
        qH ([41]:qa) vK.2.2>>=fun mm=>
        if(!mm.1)then
         some ((qE.mk (0:Int) ([]:qa) false (⟨true,([]:List qT)⟩:(Sl qT)) (0:Int) (0:Int) false (⟨true,([]:List qE)⟩:(Sl qE))),(10:Int),mm.2)
        else
         some ((qE.mk k ([]:qa) false (⟨true,[]⟩:(Sl qT)) (0:Int) (0:Int) false (⟨false,[vK.1]⟩:(Sl qE))),(0:Int),mm.2)) (PX cs b.qk):=by
  intro k u g1 g2 g3 g4
  (repeat (first|(rw [qI];rotate_left;omega;omega)|(rw [xp];rotate_left;omega;omega)))
  refine .bind (H (deep+1) u (by omega) (by omega) g1 (by omega) g3) fun y hy=>?_;refine .tI ?_ ?_<;>intro hT
  ·have XE:=hT;exact .ret ⟨hy.1,fun h=>absurd h XE⟩
  have XE:=hT;have Wb:=hy.2 XE;refine .bind (jG hc _ y.2.2 hy.1 (by omega) (by omega)) fun z hz=>?_;refine .tI ?_ ?_<;>intro hT
  ·exact .ret ⟨hz.1,by simp⟩
  have Yp:=hT;have:=hz.2.2.2.1 Yp;exact .ret ⟨hz.1,fun _=>⟨by simp only;omega,by simp only;omega,by simp only[kid_W];omega⟩⟩
 refine .tI ?_ ?_<;>intro hT
 ·have g:=hT;have JM:=hw.2.2.2.1 g;refine .tI ?_ ?_<;>intro hT
  ·exact .ret ⟨hw.1,by simp⟩
  refine .bind (jG hc _ w.2 hw.1 (by omega) (by omega)) fun y hy=>?_;refine .tI ?_ ?_<;>intro hT
  ·refine .bind (jG hc _ y.2 hy.1 (by omega) (by omega)) fun z hz=>?_;refine .tI ?_ ?_<;>intro hT
   ·exact .ret ⟨hz.1,by simp⟩
   exact grp 6 z.2 hz.1 (by omega) (by omega) (by omega)
  exact grp 5 y.2 hy.1 (by omega) (by omega) (by omega)
 have g:=hT;have JM:=hw.2.2.2.2 g;refine .bind (jG hc _ w.2 hw.1 (by omega) (by omega)) fun y hy=>?_;refine .tI ?_ ?_<;>intro hT
 ·have g:=hT;have hy1:=hy.2.2.2.1 g;refine .bind (Sn hc y.2 hy.1 (by omega) (by omega)) fun z hz=>?_;refine .ret ⟨hz.1,fun h=>?_⟩;have:=hz.2 h;simp only;omega
 have g:=hT;have hy1:=hy.2.2.2.2 g;refine .bind (jG hc _ y.2 hy.1 (by omega) (by omega)) fun z hz=>?_;refine .tI ?_ ?_<;>intro hT
 ·have g:=hT;have hz1:=hz.2.2.2.1 g;refine .bind (Nr hc z.2 hz.1 (by omega) (by omega)) fun u hu=>?_;refine .ret ⟨hu.1,fun h=>?_⟩;have:=hu.2 h;simp only;omega
 have g:=hT;have hz1:=hz.2.2.2.2 g;refine .bind (sX hc z.2 hz.1 (by omega)) fun s hs=>?_;refine .tI ?_ ?_<;>intro hT
 ·exact .ret ⟨hz.1,by simp⟩
 by_cases hn:s=[]
 ·refine .bind (o:=jf s) (P:=fun r=>r=false) ⟨false,by rw[hn];unfold jf;simp,rfl⟩ fun p hp=>?_;subst hp;exact .ret ⟨hz.1,by simp⟩
 refine .bind (lD s (by unfold BN;omega)) fun p hp=>?_;refine .tI ?_ ?_<;>intro hT
 ·exact .ret ⟨hz.1,by simp⟩
 have:=hs.2 hn
 (repeat (first|(rw [qI];rotate_left;omega;omega)|(rw [xp];rotate_left;omega;omega)))
 refine .ret ⟨hz.1,fun _=>⟨by simp only;omega,by simp only;omega, ?_⟩⟩;simp only[vS,List.map_nil,qK];omega
theorem L1(deep:Int)(d0:0<=deep)(d1:deep<=16)(b:qd)(h:b.cs=cs)(h0:a0<=b.qk)(h1:b.qk<=cs.l.length):qG (wY (deep,b)) (PX cs b.qk):=by
 have hm:=hc.many;rw[wY.eq_1];refine .bind (jG hc _ b h (by omega) h1) fun v hv=>?_;refine .tI ?_ ?_<;>intro hT
 ·have g:=hT;have:=hv.2.2.2.1 g;exact .ret ⟨hv.1,fun _=>⟨by simp only;omega,by simp only;omega,by simp only[Jc];omega⟩⟩
 have g:=hT;have Ql:=hv.2.2.2.2 g;refine .bind (jG hc _ v.2 hv.1 (by omega) (by omega)) fun w hw=>?_;refine .tI ?_ ?_<;>intro hT
 ·have g:=hT;have:=hw.2.2.2.1 g;exact .ret ⟨hw.1,fun _=>⟨by simp only;omega,by simp only;omega,by simp only[Jc];omega⟩⟩
 have g:=hT;have JM:=hw.2.2.2.2 g;have at1:qG (jR (deep,w.2)>>=fun v26=>
     if(v26.2.1 != (0:Int))then
      some ((qE.mk (0:Int) ([]:qa) false (⟨true,([]:List qT)⟩:(Sl qT)) (0:Int) (0:Int) false (⟨true,([]:List qE)⟩:(Sl qE))),v26.2.1,v26.2.2)
     else
      kc v26.1 v26.2.2>>=fun v29=>
      some (v29.1,v29.2.1,v29.2.2)) (PX cs b.qk):=by
  refine .bind (Ah hc a0 DG H deep d0 d1 w.2 hw.1 (by omega) (by omega)) fun y hy=>?_;refine .tI ?_ ?_<;>intro hT
  ·have XE:=hT;exact .ret ⟨hy.1,fun h=>absurd h XE⟩
  have XE:=hT;have Wb:=hy.2 XE;refine .bind (Ds hc y.1 y.2.2 hy.1 (by omega) (by omega)) fun z hz=>?_;refine .ret ⟨hz.1,fun h=>?_⟩;have:=hz.2 h;simp only;omega
 refine .bind (sX hc w.2 hw.1 (by omega)) fun s hs=>?_;rw[hw.1];refine .tI ?_ ?_<;>intro hT
 ·(repeat (first|(rw [qI];rotate_left;omega;omega)|(rw [xp];rotate_left;omega;omega)))
  refine .bind .get fun c Yp=>?_;refine .tI ?_ ?_<;>intro hT
  ·exact .ret ⟨rfl,fun _=>⟨by simp only;omega,by simp only;omega,by simp only[Jc];omega⟩⟩
  refine .tI ?_ ?_<;>intro hT
  ·exact .ret ⟨rfl,fun _=>⟨by simp only;omega,by simp only;omega,by simp only[Jc];omega⟩⟩
  exact at1
 exact at1
end
section
variable {cs:Sl qa} (hc:lY cs) (a0:Int) (DG:0<=a0)
 (H: ∀(deep:Int)(b:qd),0<=deep->deep<=16->b.cs=cs->a0<b.qk->b.qk<=cs.l.length->qG (zw (deep,b)) (PatQ cs b.qk))
include hc DG H
theorem MG(deep:Int)(d0:0<=deep)(d1:deep<=16)(t:qE)(alts:List qE)(a1:Int)(fR:0<=a1): ∀(m:Nat)(b:qd)(tJ:List qE),m=(cs.l.length-b.qk).toNat->b.cs=cs->a0<=b.qk->a1<=b.qk->b.qk<=cs.l.length->
  (qK (tJ.map tn):Int)<=1000*(b.qk-a1)->qG (xb (deep,b,t,alts,tJ)) (fun r=>(∀ y,r= .inl y->y.1≠0/\y.2.1.cs=cs)/\
   ∀y,r= .inr y->y.1.cs=cs/\b.qk<=y.1.qk/\y.1.qk<=cs.l.length/\(qK (y.2.map tn):Int)<=1000*(y.1.qk-a1)):=by
 have hm:=hc.many;intro m;induction m using Nat.strongRecOn with
 |_ m ih=>
 intro b tJ E9 h h0 h1 h2 hw;have hl:=xg eF tJ;rw[xb.eq_1];have stop:qG (some (Sum.inr (b,tJ):(Int×qd×qE×(List qE))⊕(qd×(List qE)))) (fun r=>(∀ y,r= .inl y->y.1≠0/\y.2.1.cs=cs)/\
   ∀y,r= .inr y->y.1.cs=cs/\b.qk<=y.1.qk/\y.1.qk<=cs.l.length/\(qK (y.2.map tn):Int)<=1000*(y.1.qk-a1)):=by
  refine .ret ⟨fun y hy=>(by cases hy),fun y hy=>?_⟩;cases hy;exact⟨h,by simp,h2,hw⟩
 rw[h];refine .tI ?_ ?_<;>intro hT
 ·refine .bind (sX hc b h (by omega)) fun s hs=>?_;refine .tI ?_ ?_<;>intro hT
  ·refine .tI ?_ ?_<;>intro hT
   ·refine .bind (L1 hc a0 DG H deep d0 d1 b h h0 h2) fun y hy=>?_;refine .tI ?_ ?_<;>intro hT
    ·have XE:=hT;refine .ret ⟨fun z hz=>?_,fun z hz=>by cases hz⟩;cases hz;exact⟨XE,hy.1⟩
    have XE:=hT;have Wb:=hy.2 XE;refine .zm qB ?_;refine(ih _ (by omega) y.2.2 _ rfl hy.1 (by omega) (by omega) (by omega) (by rw[jS];omega)).mono fun r hr=>⟨hr.1,fun z hz=>?_⟩;have:=hr.2 z hz;exact⟨this.1,by omega,this.2.2.1,this.2.2.2⟩
   exact stop
  exact stop
 exact stop
theorem MF(deep:Int)(d0:0<=deep)(d1:deep<=16)(t:qE): ∀(m:Nat)(b:qd)(alts:List qE),m=(cs.l.length-b.qk).toNat->b.cs=cs->a0<=b.qk->b.qk<=cs.l.length->
  (qK (alts.map tn):Int)<=1000*(b.qk-a0)->qG (zZ (deep,b,t,alts)) (fun r=>(∀ y,r= .inl y->y.1≠0/\y.2.1.cs=cs)/\
   ∀y,r= .inr y->y.2.1.cs=cs/\a0<=y.2.1.qk/\y.2.1.qk<=cs.l.length/\(tn y.2.2:Int)<=1000*(y.2.1.qk-a0)+2):=by
 have hm:=hc.many;intro m;induction m using Nat.strongRecOn with
 |_ m ih=>
 intro b alts E9 h h0 h2 hw;have hl:=xg eF alts;rw[zZ.eq_1];refine .bind (MG hc a0 DG H deep d0 d1 t alts b.qk (by omega) _ b [] rfl h h0 (by omega) h2 (by simp[qK])) fun v hv=>?_;rcases v with y|y
 ·have:=hv.1 y rfl;refine .ret ⟨fun z hz=>?_,fun z hz=>by cases hz⟩;cases hz;exact this
 obtain⟨g1,g2,g3,g4⟩:=hv.2 y rfl;refine .bind (seq_tot (⟨y.2.isEmpty,y.2⟩:Sl qE) (by simp only;omega)) fun w Tp=>?_;simp only at Tp;refine .zm qB ?_;refine .bind (jG hc _ y.1 g1 (by omega) g3) fun z hz=>?_;refine .tI ?_ ?_<;>intro hT
 ·have XE:=hT;have hz1:=hz.2.2.2.2 XE;refine .bind (alt_tot (⟨false,(alts++[w])⟩:Sl qE) (by simp only[jS];omega)) fun u hu=>?_;simp only[jS]at hu;refine .ret ⟨fun x hx=>(by cases hx),fun x hx=>?_⟩;cases hx;exact⟨hz.1,by simp only;omega,by simp only;omega,by simp only;omega⟩
 have XE:=hT;have hz1:=hz.2.2.2.1 XE;exact ih _ (by omega) z.2 _ rfl hz.1 (by omega) (by omega) (by rw[jS];omega)
end
theorem pat_tot{cs:Sl qa}(hc:lY cs): ∀(m:Nat)(deep:Int)(b:qd),m=(cs.l.length-b.qk).toNat->0<=deep->deep<=16->b.cs=cs->0<=b.qk->b.qk<=cs.l.length->qG (zw (deep,b)) (PatQ cs b.qk):=by
 intro m;induction m using Nat.strongRecOn with
 |_ m ih=>
 intro deep b E9 d0 d1 h h0 h1;rw[zw.eq_1];refine .bind (MF hc b.qk h0 (fun d2 b2 e1 e2 e3 e4 e5=>ih _ (by omega) d2 b2 rfl e1 e2 e3 (by omega) e5) deep d0 d1 _ _ b [] rfl h (by omega) h1 (by simp[qK])) fun v hv=>?_;rcases v with y|y
 ·have:=hv.1 y rfl;exact .ret ⟨this.2,fun h=>absurd h this.1⟩
 obtain⟨g1,g2,g3,g4⟩:=hv.2 y rfl;exact .ret ⟨g1,fun _=>⟨g2,g3,g4⟩⟩
theorem MM(s:qa):qG (cR s) (fun r=>r.2=0->s.length<=256/\tn r.1<=1000*s.length+1002):=by
 unfold cR;refine .tI ?_ ?_<;>intro hT
 ·exact .ret (by simp)
 refine .bind (VN s (by unfold BN;omega)) fun v hv=>?_;have hc:lY v:=⟨by omega,fun c h=>by have:=hv.2 c h;omega⟩;refine .bind (pat_tot hc _ 0 (qd.mk v 0) rfl (by omega) (by omega) rfl (by simp) (by simp)) fun w hw=>?_;refine .tI ?_ ?_<;>intro hT
 ·exact .ret (by simp)
 refine .tI ?_ ?_<;>intro hT
 ·have h:=hT;exact .ret fun h2=>absurd h2 h
 have h:=hT;have:=hw.2 h;refine .ret fun _=>⟨by omega, ?_⟩;simp only at this |-;omega
def vW(f:zf):Nat:=tn f.rx+qK (f.uz.l.map ei)
theorem U0(s:qa)(hs:s.length<=BN)(t:zf): ∀(m:Nat)(k:Int)(b:List UInt8),m=(s.length-k).toNat->0<=k->k<=s.length->(b.length:Int)<=k->
  qG (wJ (s,k,t,b)) (fun r=>k<=r.1/\r.1<=s.length/\(r.2.length:Int)<=b.length+(r.1-k)):=by
 have hB:s.length<=8192:=hs;intro m;induction m using Nat.strongRecOn with
 |_ m ih=>
 intro k b hm h0 h1 hb;rw[wJ.eq_1];refine .tI ?_ ?_<;>intro hT
 ·refine .bind .get fun c hc=>?_;refine .tI ?_ ?_<;>intro hT
  ·refine .tI ?_ ?_<;>intro hT
   ·(repeat (first|(rw [qI];rotate_left;omega;omega)|(rw [xp];rotate_left;omega;omega)))
    refine .bind .get fun c2 Yp=>?_;refine .tI ?_ ?_<;>intro hT
    ·refine .zm qB ?_;refine .zm (qB (by simp;omega) (by omega)) ?_;exact(ih _ (by omega) (k+1+1) _ rfl (by omega) (by omega) (by simp;omega)).mono fun r hr=>by
      simp only[List.length_append,List.length_cons,List.length_nil]at hr;omega
    refine .zm qB ?_;exact(ih _ (by omega) (k+1+1) _ rfl (by omega) (by omega) (by simp;omega)).mono fun r hr=>by
     simp only[List.length_append,List.length_cons,List.length_nil]at hr;omega
   refine .zm qB ?_
   (repeat (first|(rw [qI];rotate_left;omega;omega)|(rw [xp];rotate_left;omega;omega)))
   exact(ih _ (by omega) (k+1) _ rfl (by omega) (by omega) (by simp;omega)).mono fun r hr=>by
    simp only[List.length_append,List.length_cons,List.length_nil]at hr;omega
  exact .ret ⟨by simp,h1,by simp only;omega⟩
 exact .ret ⟨by simp,h1,by simp only;omega⟩
theorem U1(s:qa)(hs:s.length<=BN)(t:zf)(l:List UInt8)(x:qE): ∀(m:Nat)(e:Int)(f:zf),m=(s.length-e).toNat->0<=e->
  qG (wK (s,e,t,l,x,f)) (fun r=>(∀ y,r= .inl y->y.2.1=false)/\ ∀y,r= .inr y->e<=y.1/\vW y.2=vW f):=by
 have hB:s.length<=8192:=hs;intro m;induction m using Nat.strongRecOn with
 |_ m ih=>
 intro e f hm h0;rw[wK.eq_1];have stop:qG (some (Sum.inr (e,f):(Int×Bool×Int×zf×zf)⊕(Int×zf))) (fun r=>(∀ y,r= .inl y->y.2.1=false)/\ ∀y,r= .inr y->e<=y.1/\vW y.2=vW f):=by
  refine .ret ⟨fun y hy=>(by cases hy),fun y hy=>?_⟩;cases hy;exact⟨by simp,rfl⟩
 have go: ∀f2:zf,e<s.length->vW f2=vW f->qG (wK (s,e+1,t,l,x,f2)) (fun r=>(∀ y,r= .inl y->y.2.1=false)/\ ∀y,r= .inr y->e<=y.1/\vW y.2=vW f):=by
  intro f2 he hf;exact(ih _ (by omega) (e+1) f2 rfl (by omega)).mono fun r hr=>⟨hr.1,fun y hy=>by have:=hr.2 y hy;exact⟨by omega,this.2.trans hf⟩⟩
 refine .tI ?_ ?_<;>intro hT
 ·refine .bind .get fun c hc=>?_
  (repeat (first|(rw [qI];rotate_left;omega;omega)|(rw [xp];rotate_left;omega;omega)))
  refine .tI ?_ ?_<;>intro hT
  ·refine .tI ?_ ?_<;>intro hT
   ·exact go _ (by omega) rfl
   (repeat (first|(rw [qI];rotate_left;omega;omega)|(rw [xp];rotate_left;omega;omega)))
   refine .tI ?_ ?_<;>intro hT
   ·exact go _ (by omega) rfl
   refine .ret ⟨fun y hy=>?_,fun y hy=>by cases hy⟩;cases hy;rfl
  exact stop
 exact stop
theorem GU(s:qa)(hs:s.length<=BN)(qk:Int):
  qG (se s qk) (fun r=>r.2.2=true->0<=qk/\qk<r.2.1/\r.2.1<s.length/\(vW r.1:Int)<=1000*(r.2.1-qk)):=by
 have hB:s.length<=8192:=hs;unfold se;refine .tI ?_ ?_<;>intro hT
 ·exact .ret (by simp)
 refine .bind .get fun c hc=>?_;refine .tI ?_ ?_<;>intro hT
 ·exact .ret (by simp)
 (repeat (first|(rw [qI];rotate_left;omega;omega)|(rw [xp];rotate_left;omega;omega)))
 refine .bind (U0 s hs _ _ (qk+1) [] rfl (by omega) (by omega) (by simp;omega)) fun v hv=>?_;simp only[List.length_nil]at hv;refine .tI ?_ ?_<;>intro hT
 ·exact .ret (by simp)
 refine .bind (MM v.2) fun w hw=>?_;refine .tI ?_ ?_<;>intro hT
 ·exact .ret (by simp)
 have XE:=hT;have Tp:=hw XE
 (repeat (first|(rw [qI];rotate_left;omega;omega)|(rw [xp];rotate_left;omega;omega)))
 refine .bind (MN s hs (v.1+1)) fun y hy=>?_;refine .tI ?_ ?_<;>intro hT
 ·exact .ret (by simp)
 have Yp:=hT;have Wb:=hy Yp
 (repeat (first|(rw [qI];rotate_left;omega;omega)|(rw [xp];rotate_left;omega;omega)))
 refine .bind (U1 s hs _ _ _ _ (y.2.1+1) _ rfl (by omega)) fun z hz=>?_;rcases z with z|z
 ·have:=hz.1 z rfl;exact .ret fun h=>by simp only[this]at h;cases h
 obtain⟨g1,g2⟩:=hz.2 z rfl;refine .tI ?_ ?_<;>intro hT
 ·exact .ret (by simp)
 refine .ret fun _=>?_;simp only[g2];simp only[vW];omega
def DW(s:qa):Nat:=1+s.length
mutual
def mj:qA->Nat
 |⟨_,t,_,_,_,f,o,qy⟩=>1+t.length+vW f+qK (o.l.map DW)+snWS qy
def snWS:Sl qA->Nat
 |⟨_,l⟩=>OH l
def OH:List qA->Nat
 |[]=>0
 |x::r=>mj x+OH r
end
theorem Bj: ∀l:List qA,OH l=qK (l.map mj)
 |[]=>by simp[OH,qK]
 |x::r=>by simp[OH,qK,Bj r]
theorem bt(x:qA):mj x=1+x.text.length+vW x.qP+qK (x.opts.l.map DW)+qK (x.qy.l.map mj):=by
 cases x with|mk a b c d e f g h=>cases h;simp[mj,snWS,Bj]
theorem rH(x:qA):1<=mj x:=by rw[bt];omega
theorem YK(x:qa):1<=DW x:=by unfold DW;omega
theorem ln(s:qa)(hs:s.length<=BN)(qk:Int)(h0:0<=qk)(h1:qk<s.length)(c:Bool):qG (mQ s qk c) (fun r=>r=true->qk+1<s.length):=by
 have hB:s.length<=8192:=hs;unfold mQ;refine .bind (qG.get h0 h1) fun b hb=>?_;refine .tI ?_ ?_<;>intro hT
 ·exact .ret (by simp)
 (repeat (first|(rw [qI];rotate_left;omega;omega)|(rw [xp];rotate_left;omega;omega)))
 refine .bind .get fun b2 hb2=>?_
 repeat' (first|(refine .tI ?_ ?_<;>intro hT)|exact .ret (fun _=>by omega))
theorem GD(s:qa)(hs:s.length<=BN)(w:List qA)(es:List Int)(a1:Int)(fR:0<=a1): ∀(m:Nat)(qk:Int)(l:List qa)(t:List UInt8),m=(s.length-qk).toNat->a1<=qk->qk<=s.length->(qK (l.map DW)+t.length:Int)<=qk-a1->
  qG (xL (qk,s,w,es,l,t)) (fun r=>qk<=r.1/\r.1<=s.length/\(qK (r.2.1.map DW)+r.2.2.length:Int)<=r.1-a1):=by
 have hB:s.length<=8192:=hs;intro m;induction m using Nat.strongRecOn with
 |_ m ih=>
 intro qk l t hm h0 h1 hw;have hl:=xg YK l;rw[xL.eq_1];refine .tI ?_ ?_<;>intro hT
 ·refine .bind .get fun c hc=>?_;refine .tI ?_ ?_<;>intro hT
  ·refine .tI ?_ ?_<;>intro hT
   ·refine .zm qB ?_
    (repeat (first|(rw [qI];rotate_left;omega;omega)|(rw [xp];rotate_left;omega;omega)))
    exact(ih _ (by omega) (qk+1) _ _ rfl (by omega) (by omega) (by rw[jS];simp only[DW,List.length_nil];omega)).mono fun r hr=>⟨by omega,hr.2.1,hr.2.2⟩
   refine .bind (ln s hs qk (by omega) (by omega) true) fun v hv=>?_;refine .tI ?_ ?_<;>intro hT
   ·have XE:=hT;have:=hv XE
    (repeat (first|(rw [qI];rotate_left;omega;omega)|(rw [xp];rotate_left;omega;omega)))
    refine .bind .get fun c2 Yp=>?_;refine .zm qB ?_
    (repeat (first|(rw [qI];rotate_left;omega;omega)|(rw [xp];rotate_left;omega;omega)))
    exact(ih _ (by omega) (qk+1+1) _ _ rfl (by omega) (by omega) (by simp;omega)).mono fun r hr=>⟨by omega,hr.2.1,hr.2.2⟩
   refine .zm qB ?_
   (repeat (first|(rw [qI];rotate_left;omega;omega)|(rw [xp];rotate_left;omega;omega)))
   exact(ih _ (by omega) (qk+1) _ _ rfl (by omega) (by omega) (by simp;omega)).mono fun r hr=>⟨by omega,hr.2.1,hr.2.2⟩
  exact .ret ⟨by simp,h1,hw⟩
 exact .ret ⟨by simp,h1,hw⟩
theorem Il(s:qa)(hs:s.length<=BN)(w:List qA)(es:List Int)(qk:Int)(h0:0<=qk)(h1:qk<=s.length):
  qG (uo qk s w es) (fun r=>r.2>=0->qk<=r.2/\r.2<s.length/\(qK (r.1.l.map DW):Int)<=r.2-qk+1):=by
 have hB:s.length<=8192:=hs;unfold uo;refine .bind (GD s hs w es qk h0 _ qk [] [] rfl (by omega) h1 (by simp[qK])) fun v hv=>?_;have hl:=xg YK v.2.1;refine .tI ?_ ?_<;>intro hT
 ·exact .ret (by simp)
 refine .zm qB ?_;refine .ret fun _=>⟨by simp only;omega,by simp only;omega, ?_⟩;simp only[jS,DW];omega
theorem Gc(l:Sl qA)(hw:qK (l.l.map mj)<=100000000): ∀(r:List qA)(k:Nat)(out:List qA),l.l.drop k=r->qK (out.map mj)+qK (r.map mj)<=qK (l.l.map mj)->
  qG (jx (l,(k:Int),out)) (fun t=>qK (t.map mj)<=qK (l.l.map mj)):=by
 have hl:=xg rH l.l;intro r;induction r with
 |nil=>
  intro k out hk hs;rw[jx.eq_1];have:=wU hk;refine .tI ?_ ?_<;>intro hT
  ·omega
  exact .ret (by simp[qK]at hs;exact hs)
 |cons x r ih=>
  intro k out hk hs;obtain⟨h1,h2,h3⟩:=drop_cons hk;have NZ:=xg rH out;simp only[List.map_cons,qK]at hs;rw[jx.eq_1];have e1:IntKind.i64.wrap ((k:Int)+1)=((k+1:Nat):Int):=ct (by omega);rw[e1];have hg:qG (qi l.l (k:Int)) (fun y=>y=x):=⟨x,by rw[j8 h3];simpa[kU h3]using h1,rfl⟩;have put:qG (if qg (out.length+1) 224=true then jx (l,((k+1:Nat):Int),(out++[x]))else none) (fun t=>qK (t.map mj)<=qK (l.l.map mj)):=by
   refine .zm qB ?_;exact ih (k+1) _ h2 (by rw[jS];omega)
  refine .tI ?_ ?_<;>intro hT
  ·refine .bind hg fun y hy=>?_;subst hy;refine .tI ?_ ?_<;>intro hT
   ·refine .tI ?_ ?_<;>intro hT
    ·exact ih (k+1) _ h2 (by omega)
    refine .tI ?_ ?_<;>intro hT
    ·have e2:IntKind.i64.wrap ((out.length:Int)-1)=(out.length:Int)-1:=qI (by omega) (by omega);rw[e2];refine .bind .get fun z hz=>?_;refine .tI ?_ ?_<;>intro hT
     ·have hz2:=xA (f:=mj) hz.2;have hzw:=bt z;have hyw:=bt y;refine .zm (by omega) ?_;refine ih (k+1) _ h2 ?_;have:=iZ mj out ((out.length:Int)-1).toNat (qA.mk z.kind (z.text++y.text) z.n z.has z.qJ z.qP z.opts z.qy) z hz.1;have e3:=bt (qA.mk z.kind (z.text++y.text) z.n z.has z.qJ z.qP z.opts z.qy);simp only[List.length_append]at e3;omega
     exact put
    exact put
   exact put
  omega
theorem ED(l:Sl qA)(hw:qK (l.l.map mj)<=100000000):qG (d5 l) (fun t=>qK (t.l.map mj)<=qK (l.l.map mj)):=by
 unfold d5;have h:=Gc l hw l.l 0 [] rfl (by simp[qK]);rw[show ((0:Nat):Int)=0 from rfl]at h;refine .bind h fun v hv=>?_;exact .ret hv
theorem PD(t:qa):mj (qA.mk (0:Int) t (0:Int) false false (zf.mk (qE.mk (0:Int) ([]:qa) false (⟨true,[]⟩:(Sl qT)) (0:Int) (0:Int) false (⟨true,[]⟩:(Sl qE))) (⟨true,[]⟩:(Sl zl)) false false) (⟨true,[]⟩:(Sl qa)) (⟨true,[]⟩:(Sl qA)))=2+t.length:=by
 rw[bt];simp[vW,vS,qK];omega
set_option maxHeartbeats 1000000
structure VW (s:qa) (w:List qA) (es:List Int):Prop where
 lw:w.length=s.length
 le:es.length=s.length
 ok: ∀(p:Nat)(e:Int)(x:qA),es[p]? =some e->0<e->w[p]? =some x->(p:Int)<e/\e<=s.length/\(mj x+2:Int)<=1000*(e-p)
def QQ(s:qa)(a1 qk:Int)(r:Int×List qA×List UInt8):Prop:=qk<=r.1/\r.1<=s.length/\(qK (r.2.1.map mj)+r.2.2.length:Int)<=1000*(r.1-a1)
theorem YV(s:qa)(hs:s.length<=BN)(w:List qA)(es:List Int)(hS:VW s w es)(br:Bool)(a1:Int)(fR:0<=a1): ∀(m:Nat)(qk:Int)(l:List qA)(t:List UInt8),m=(s.length-qk).toNat->a1<=qk->qk<=s.length->(qK (l.map mj)+t.length:Int)<=1000*(qk-a1)->
  qG (za (qk,br,s,w,es,l,t)) (QQ s a1 qk):=by
 have hB:s.length<=8192:=hs;intro m;induction m using Nat.strongRecOn with
 |_ m ih=>
 intro qk l t hm h0 h1 hw;have hl:=xg rH l;have stop:qG (some (qk,l,t)) (QQ s a1 qk):= .ret ⟨by simp,h1,hw⟩;have go: ∀(a2:Int)(l2:List qA)(t2:List UInt8),qk<a2->a2<=s.length->(qK (l2.map mj)+t2.length:Int)<=1000*(a2-a1)->qG (za (a2,br,s,w,es,l2,t2)) (QQ s a1 qk):=by
  intro a2 l2 t2 g1 g2 g3;exact(ih _ (by omega) a2 l2 t2 rfl (by omega) g2 g3).mono fun r hr=>⟨by have:=hr.1;omega,hr.2.1,hr.2.2⟩
 have two:qk<s.length-> ∀e:Int,es[qk.toNat]? =some e->0<e-> ∀f:qA,mj f=2+t.length->qG (qi w qk>>=fun Wv=>
      if qg (l.length+2) 224=true then
       za (e,br,s,w,es,(l++[f,Wv]),([]:List UInt8))
      else none) (QQ s a1 qk):=by
  intro xB e he h2 f hf;refine .bind (qG.get (by omega) (by have:=hS.lw;omega)) fun x hx=>?_;obtain⟨g1,g2,g3⟩:=hS.ok qk.toNat e x he h2 hx.1;refine .zm qB ?_;refine go e _ _ (by omega) g2 ?_;simp only[List.map_append,List.map_cons,List.map_nil,gu,qK,List.length_nil,hf];omega
 have text:qk<s.length-> ∀c:UInt8,qG (if qg (t.length+1) 1=true then za ((IntKind.i64.wrap (qk+(1:Int))),br,s,w,es,l,(t++[c]))else none) (QQ s a1 qk):=by
  intro xB c;refine .zm qB ?_
  (repeat (first|(rw [qI];rotate_left;omega;omega)|(rw [xp];rotate_left;omega;omega)))
  exact go (qk+1) _ _ (by omega) (by omega) (by simp;omega)
 have esc:qk+1<s.length->qG (qi s (IntKind.i64.wrap (qk+(1:Int)))>>=fun Lo=>
       if qg (t.length+1) 1=true then
        za ((IntKind.i64.wrap ((IntKind.i64.wrap (qk+(1:Int)))+(1:Int))),br,s,w,es,l,(t++[Lo]))
       else none) (QQ s a1 qk):=by
  intro xB
  (repeat (first|(rw [qI];rotate_left;omega;omega)|(rw [xp];rotate_left;omega;omega)))
  refine .bind .get fun c hc=>?_;refine .zm qB ?_
  (repeat (first|(rw [qI];rotate_left;omega;omega)|(rw [xp];rotate_left;omega;omega)))
  exact go (qk+1+1) _ _ (by omega) (by omega) (by simp;omega)
 rw[za.eq_1];refine .tI ?_ ?_<;>intro hT
 ·have xB:=hT;refine .tI ?_ ?_<;>intro hT
  ·refine .bind .get fun c hc=>?_;refine .tI ?_ ?_<;>intro hT
   ·refine .bind (qG.get (by omega) (by have:=hS.le;omega)) fun e he=>?_;refine .tI ?_ ?_<;>intro hT
    ·have h2:=hT;exact two xB e he.1 h2 _ (PD t)
    refine .bind (ln s hs qk (by omega) (by omega) false) fun v hv=>?_;refine .tI ?_ ?_<;>intro hT
    ·have h3:=hT;exact esc (hv h3)
    exact text xB c
   exact stop
  refine .bind (qG.get (by omega) (by have:=hS.le;omega)) fun e he=>?_;refine .tI ?_ ?_<;>intro hT
  ·have h2:=hT;exact two xB e he.1 h2 _ (PD t)
  refine .bind (ln s hs qk (by omega) (by omega) false) fun v hv=>?_;refine .tI ?_ ?_<;>intro hT
  ·have h3:=hT;exact esc (hv h3)
  refine .bind .get fun c hc=>?_;exact text xB c
 exact stop
theorem Vo(s:qa)(hs:s.length<=BN)(w:List qA)(es:List Int)(hS:VW s w es)(qk:Int)(h0:0<=qk)(h1:qk<=s.length)(br:Bool):
  qG (wd qk br s w es) (fun r=>(r.2>=0->qk<=r.2/\r.2<=s.length/\(br=true->r.2<s.length)/\(qK (r.1.l.map mj):Int)<=1000*(r.2-qk)+2)/\(br=false->0<=r.2)):=by
 have hB:s.length<=8192:=hs;unfold wd;refine .bind (YV s hs w es hS br qk h0 _ qk [] [] rfl (by omega) h1 (by simp[qK])) fun v hv=>?_;obtain⟨g1,g2,g3⟩:=hv;have hl:=xg rH v.2.1;have:= @ED;have:= @jS;have:= @PD;exact tW
structure HeadQ (s:qa) (qk:Int) (r:qA×Int×Bool):Prop where
 lt:qk<r.2.1
 le:r.2.1<=s.length
 text:(r.1.text.length:Int)<=r.2.1-qk
 qP:vW r.1.qP=1
 opts:r.1.opts.l=[]
 qy:r.1.qy.l=[]
theorem G2(s:qa)(hs:s.length<=BN)(w:List qA)(es:List Int)(qk:Int)(h0:0<=qk)(h1:qk<=s.length):
  qG (ve qk s w es) (fun r=>r.2.2=true->HeadQ s qk r):=by
 unfold ve;refine .bind (cK s hs qk h0 h1) fun v hv=>?_;refine .tI ?_ ?_<;>intro hT
 ·have hc:=hT;have:=hv.2.2 hc;exact .ret fun _=>⟨by simp only;omega,by simp only;omega,by simp only[List.length_nil];omega,by simp[vW,vS,qK],rfl,rfl⟩
 refine .bind (D4 s hs w es qk h0 h1) fun y hy=>?_;refine .tI ?_ ?_<;>intro hT
 ·have hc:=hT;have:=hy.2.2.2 hc;exact .ret fun _=>⟨by simp only;omega,by simp only;omega,by simp only;omega,by simp[vW,vS,qK],rfl,rfl⟩
 exact .ret (by simp)
def QO(s:qa)(qk:Int)(r:qA×Int×Bool):Prop:=r.2.2=true->qk<r.2.1/\r.2.1<=s.length/\(mj r.1+2:Int)<=1000*(r.2.1-qk)
theorem Ns(s:qa)(hs:s.length<=BN)(w:List qA)(es:List Int)(hS:VW s w es)(qk:Int)(h0:0<=qk)(h1:qk<s.length):qG (vI qk s w es) (QO s qk):=by
 have hB:s.length<=8192:=hs;unfold vI
 (repeat (first|(rw [qI];rotate_left;omega;omega)|(rw [xp];rotate_left;omega;omega)))
 refine .bind (G2 s hs w es (qk+1) (by omega) (by omega)) fun v hv=>?_;refine .tI ?_ ?_<;>intro hT
 ·have hc:=hT;obtain⟨g1,g2,g3,g4,g5,g6⟩:=hv hc;refine .ret fun _=>⟨by simp only;omega,g2, ?_⟩;simp only[bt,g4,g5,g6,List.map_nil,qK];omega
 refine .tI ?_ ?_<;>intro hT
 ·exact .ret (by simp[QO])
 refine .bind .get fun b hb=>?_;refine .tI ?_ ?_<;>intro hT
 ·exact .ret (by simp[QO])
 (repeat (first|(rw [qI];rotate_left;omega;omega)|(rw [xp];rotate_left;omega;omega)))
 refine .bind (G2 s hs w es (qk+2) (by omega) (by omega)) fun v hv=>?_;refine .tI ?_ ?_<;>intro hT
 ·exact .ret (by simp[QO])
 have hc:=hT;obtain⟨g1,g2,g3,g4,g5,g6⟩:=hv hc.1;refine .bind .get fun c Yp=>?_
 (repeat (first|(rw [qI];rotate_left;omega;omega)|(rw [xp];rotate_left;omega;omega)))
 refine .tI ?_ ?_<;>intro hT
 ·refine .ret fun _=>⟨by simp only;omega,by simp only;omega, ?_⟩;simp only[bt,g4,g5,g6,List.map_nil,qK];omega
 (repeat (first|(rw [qI];rotate_left;omega;omega)|(rw [xp];rotate_left;omega;omega)))
 refine .tI ?_ ?_<;>intro hT
 ·refine .bind (Vo s hs w es hS (v.2.1+1) (by omega) (by omega) true) fun y hy=>?_;refine .ret fun h=>?_;simp only[decide_eq_true_eq]at h;obtain⟨k1,k2,k3,k4⟩:=hy.1 h;have:=k3 rfl;simp only;rw[qI (by omega) (by omega)];refine⟨by omega,by omega, ?_⟩;simp only[bt,g4,g5,List.map_nil,qK];omega
 refine .tI ?_ ?_<;>intro hT
 ·refine .bind (GU s hs v.2.1) fun y hy=>?_;refine .ret fun h=>?_;obtain⟨k1,k2,k3,k4⟩:=hy h;simp only;rw[qI (by omega) (by omega)];refine⟨by omega,by omega, ?_⟩;simp only[bt,g5,g6,List.map_nil,qK];omega
 (repeat (first|(rw [qI];rotate_left;omega;omega)|(rw [xp];rotate_left;omega;omega)))
 refine .tI ?_ ?_<;>intro hT
 ·refine .bind (Il s hs w es (v.2.1+1) (by omega) (by omega)) fun y hy=>?_;refine .ite (fun hT=>?_) fun hT=>?_<;>(try simp only[tfx.down]at hT)<;>(try simp(disch:=omega) only[qI,xp]at hT)
  ·have hc3:=hT;obtain⟨k1,k2,k3⟩:=hy hc3.1
   (repeat (first|(rw [qI];rotate_left;omega;omega)|(rw [xp];rotate_left;omega;omega)))
   refine .bind .get fun d hd=>?_;refine .ret fun h=>⟨by simp only;omega,by simp only;omega, ?_⟩;simp only[bt,g4,g6,List.map_nil,qK];omega
  exact .ret (by simp[QO])
 exact .ret (by simp[QO])
theorem VW.set{s:qa}{w:List qA}{es:List Int}(hS:VW s w es){qk:Int}(h0:0<=qk)(h1:qk<s.length){x:qA}{e:Int}(h:qk<e/\e<=s.length/\(mj x+2:Int)<=1000*(e-qk)):
  VW s (w.set qk.toNat x) (es.set qk.toNat e) where
 lw:=by simpa using hS.lw
 le:=by simpa using hS.le
 ok:=by
  intro p e2 x2 h2 h3 h4;rw[List.getElem?_set]at h2 h4;by_cases hp:qk.toNat=p
  ·exact tW
  rw[if_neg hp]at h2 h4;exact hS.ok p e2 x2 h2 h3 h4
theorem Wi(s:qa)(hs:s.length<=BN): ∀(m:Nat)(qk:Int)(w:List qA)(es:List Int),m=(qk+1).toNat-> -1<=qk->qk<s.length->VW s w es->
  qG (vZ (s,qk,w,es,s)) (fun r=>VW s r.1 r.2):=by
 have hB:s.length<=8192:=hs;intro m;induction m using Nat.strongRecOn with
 |_ m ih=>
 intro qk w es hm h0 h1 hS;rw[vZ.eq_1];refine .tI ?_ ?_<;>intro hT
 ·refine .bind .get fun c hc=>?_;refine .tI ?_ ?_<;>intro hT
  ·refine .bind (Ns s hs w es hS qk (by omega) h1) fun y hy=>?_;refine .tI ?_ ?_<;>intro hT
   ·have Yp:=hT;refine .bind (qG.get (by omega) (by have:=hS.lw;omega)) fun p hp=>?_;refine .bind (qG.get (by omega) (by have:=hS.le;omega)) fun q hq=>?_
    (repeat (first|(rw [qI];rotate_left;omega;omega)|(rw [xp];rotate_left;omega;omega)))
    exact ih _ (by omega) (qk-1) _ _ rfl (by omega) (by omega) (hS.set (by omega) h1 (hy Yp))
   exact tW
  exact tW
 exact .ret hS
theorem HN: ∀(n:Nat)(l:Sl qA),qK (l.l.map mj)<=n->n<=100000000->qG (gO l) (fun r=>0<=r/\r<=n):=by
 intro n;induction n using Nat.strongRecOn with
 |_ n ih=>
 intro l hl hn;have hlen:=xg rH l.l;have loop: ∀(r:List qA)(k:Nat)(d:Int),l.l.drop k=r->0<=d->d<=n->qG (kB (l,d,(k:Int))) (fun r=>0<=r/\r<=n):=by
  intro r;induction r with
  |nil=>
   intro k d hk h1 h2;rw[kB.eq_1];have:=wU hk;refine .tI ?_ ?_<;>intro hT
   ·omega
   exact .ret ⟨h1,h2⟩
  |cons x r XH=>
   intro k d hk h1 h2;obtain⟨e1,e2,e3⟩:=drop_cons hk;have hx:=xA (f:=mj) (qX e1);have hxw:=bt x;rw[kB.eq_1];have e4:IntKind.i64.wrap ((k:Int)+1)=((k+1:Nat):Int):=ct (by omega);rw[e4];refine .tI ?_ ?_<;>intro hT
   ·refine .bind (P:=fun y=>y=x) ⟨x,by rw[j8 e3];simpa[kU e3]using e1,rfl⟩ fun y hy=>?_;subst hy;refine .bind (ih (n-1) (by omega) y.qy (by omega) (by omega)) fun z hz=>?_;refine .tI ?_ ?_<;>intro hT
    ·(repeat (first|(rw [qI];rotate_left;omega;omega)|(rw [xp];rotate_left;omega;omega)))
     exact XH (k+1) _ e2 (by split<;>omega) (by split<;>omega)
    exact XH (k+1) _ e2 (by split<;>omega) (by split<;>omega)
   omega
 have h:=loop l.l 0 0 rfl (by omega) (by omega);rw[show ((0:Nat):Int)=0 from rfl]at h;rw[gO.eq_1];first
 |exact h
 |(refine .bind h fun v hv=>?_;exact .ret hv)
theorem Oy(s:qa)(x:qA):VW s (List.replicate s.length x) (List.replicate s.length (0:Int)) where
 lw:=by simp
 le:=by simp
 ok:=by
  intro p e y h1 h2 h3;have:e=0:=by
   have:=qX h1;exact(List.mem_replicate.1 this).2
  omega
theorem MO(s:qa):qG (d6 s) (fun r=>qK (r.1.l.map mj)<=8192002/\(r.2=0->s.length<=BN)):=by
 unfold d6;refine .tI ?_ ?_<;>intro hT
 ·exact .ret ⟨by simp[qK],by simp⟩
 have hc:=hT;have hs:s.length<=BN:=by unfold BN;omega
 have e:(s.length:Int).toNat=s.length:=by simp
 refine .zm (by omega) ?_;rw[e];refine .zm qB ?_;refine .zm (by omega) ?_;refine .zm qB ?_
 (repeat (first|(rw [qI];rotate_left;omega;omega)|(rw [xp];rotate_left;omega;omega)))
 refine .bind (Wi s hs _ ((s.length:Int)-1) _ _ rfl (by omega) (by omega) (Oy s _)) fun v hv=>?_;refine .bind (Vo s hs v.1 v.2 hv 0 (by omega) (by omega) false) fun y hy=>?_;obtain⟨k1,k2,_,k4⟩:=hy.1 (hy.2 rfl);refine .bind (HN 8192002 y.1 (by omega) (by omega)) fun z hz=>?_;refine .tI ?_ ?_<;>intro hT
 ·exact .ret ⟨by simp[qK],fun _=>hs⟩
 exact .ret ⟨by simp only;omega,fun _=>hs⟩
theorem vH{α:Type}{xs:List α}{k:Nat}(h:xs.drop k=[]): ¬((k:Int)<(xs.length:Int)):=by
 have:=wU h;omega
theorem wv{α:Type}{xs r:List α}{x:α}{k:Nat}(h:xs.drop k=x::r):(k:Int)<(xs.length:Int)/\qi xs (k:Int)=some x/\xs.drop (k+1)=r/\x∈xs:=by
 obtain⟨a,b,c⟩:=drop_cons h;refine⟨by omega, ?_,b,qX a⟩;rw[j8 c];exact tW
theorem i9{α:Type}{xs:List α}{k:Nat}(hl:xs.length<=9223372036854775807)(h:(k:Int)<(xs.length:Int)):IntKind.i64.wrap ((k:Int)+1)=((k+1:Nat):Int):=ct (by omega)
theorem wr{n:Int}(h1: -(2^62)<=n)(h2:n<=2^62):IntKind.i64.wrap n=n:=qI (by omega) (by omega)
theorem Kj{P:qE->Prop}(h: ∀x,(∀ y∈x.qy.l,P y)->P x)(x:qE):P x:=by
 have key: ∀n(x:qE),tn x<n->P x:=by
  intro n;induction n with
  |zero=>intro x hx;omega
  |succ n ih=>
   intro x hx;have:= @xA;have:= @vS;exact tW
 exact key _ x (Nat.lt_succ_self _)
theorem dB(x:qE):x.qy.l.length<tn x:=by have:=xg eF x.qy.l;rw[vS];omega
theorem RG{x y:qE}(h:y∈x.qy.l):tn y<tn x:=by have:=xA (f:=tn) h;rw[vS x];omega
abbrev ku(x:qE):Prop:=tn x<=1099511627776
theorem bP{x y:qE}(h:ku x)(hy:y∈x.qy.l):ku y:=by have:=RG hy;unfold ku at *; omega
theorem GL: ∀x:qE,ku x->qG (uf x) (fun _=>True):=by
 apply Kj (P:=fun x=>ku x->qG (uf x) (fun _=>True));intro x ih0 hw;have hk:=dB x;have key: ∀(r:List qE)(k:Nat)(n:Int),x.qy.l.drop k=r->qG (kF (n,(k:Int),x)) (fun _=>True):=by
  intro r;induction r with
  |nil=>
   intro k n hd;rw[kF.eq_1,if_neg (by simpa using vH hd)];exact .ret trivial
  |cons y r ih=>
   intro k n hd;obtain⟨a1,a2,a3,a4⟩:=wv hd;rw[kF.eq_1,if_pos (by simpa using a1),i9 (by unfold ku at hw;omega) a1];refine .go a2 ?_;exact .bind (ih0 y a4 (bP hw a4)) fun v _=>ih (k+1) _ a3
 rw[uf.eq_1];exact .bind (key x.qy.l 0 1 rfl) fun v _=> .ret trivial
theorem NG: ∀x:qE,ku x->qG (gI x) (fun _=>True):=by
 apply Kj (P:=fun x=>ku x->qG (gI x) (fun _=>True));intro x ih0 hw;have hk:=dB x;have key: ∀(r:List qE)(k:Nat)(n:Int),x.qy.l.drop k=r->qG (wy (n,(k:Int),x)) (fun _=>True):=by
  intro r;induction r with
  |nil=>
   intro k n hd;rw[wy.eq_1,if_neg (by simpa using vH hd)];exact .ret trivial
  |cons y r ih=>
   intro k n hd;obtain⟨a1,a2,a3,a4⟩:=wv hd;rw[wy.eq_1,if_pos (by simpa using a1),i9 (by unfold ku at hw;omega) a1];refine .go a2 ?_;exact .bind (ih0 y a4 (bP hw a4)) fun v _=>ih (k+1) _ a3
 rw[gI.eq_1];refine .bind (key x.qy.l 0 0 rfl) fun v _=>?_;refine .tI ?_ ?_<;>intro hT
 ·exact .ret trivial
 exact .ret trivial
mutual
def sx:qE->Nat
 |⟨k,_,_,_,_,_,_,s⟩=>(if k=5 then 1 else 0)+rxGS s
def rxGS:Sl qE->Nat
 |⟨_,l⟩=>Ot l
def Ot:List qE->Nat
 |[]=>0
 |x::r=>sx x+Ot r
end
theorem Be: ∀l:List qE,Ot l=qK (l.map sx)
 |[]=>by simp[Ot,qK]
 |x::r=>by simp[Ot,qK,Be r]
theorem Ki(x:qE):sx x=(if x.kind=5 then 1 else 0)+qK (x.qy.l.map sx):=by
 obtain⟨a,b,c,d,e,f,g,h⟩:=x;obtain⟨u,l⟩:=h;simp[sx,rxGS,Be]
theorem RL{α:Type}{f g:α->Nat}: ∀{l:List α},(∀ a∈l,f a<=g a)->qK (l.map f)<=qK (l.map g)
 |[],_=>by simp[qK]
 |a::l,h=>by
  have h1:=h a (by simp);have h2:=RL (l:=l) fun b hb=>h b (by simp[hb]);simp only[List.map_cons,qK];omega
theorem Pk: ∀x:qE,sx x<=tn x:=by
 apply Kj;intro x ih;have:=RL ih;rw[Ki,vS];split<;>omega
theorem fQ: ∀x:qE,ku x->jC x=some (sx x:Int):=by
 apply Kj (P:=fun x=>ku x->jC x=some (sx x:Int));intro x ih0 hw;have hk:=dB x;have hp:=Pk x;have key: ∀(r:List qE)(k n:Nat),x.qy.l.drop k=r->n+qK (r.map sx)<=1099511627776->jw ((n:Int),(k:Int),x)=some ((n+qK (r.map sx):Nat):Int):=by
  intro r;induction r with
  |nil=>
   intro k n hd _;rw[jw.eq_1,if_neg (by simpa using vH hd)];simp[qK]
  |cons y r ih=>
   intro k n hd hn;obtain⟨a1,a2,a3,a4⟩:=wv hd;simp only[List.map_cons,qK]at hn;have e:IntKind.i64.wrap ((n:Int)+(sx y:Int))=((n+sx y:Nat):Int):=by rw[wr (by omega) (by omega)];omega
   rw[jw.eq_1];simp only[a1,decide_true,if_true,a2,xe,z7,ih0 y a4 (bP hw a4),i9 (by unfold ku at hw;omega) a1,e];rw[ih (k+1) (n+sx y) a3 (by omega)];simp only[List.map_cons,qK,kX,Int.natCast_inj];omega
 have hg:=Ki x;rw[jC.eq_1];unfold ku at hw;by_cases h5:x.kind=5
 ·rw[if_pos h5]at hg;have h:=key x.qy.l 0 1 rfl (by omega);rw[if_pos (by simp[h5]),show((1:Int),(0:Int),x)=(((1:Nat):Int),((0:Nat):Int),x)from rfl,h];simp[hg]
 rw[if_neg h5]at hg;have h:=key x.qy.l 0 0 rfl (by omega);rw[if_neg (by simp[h5]),show((0:Int),(0:Int),x)=(((0:Nat):Int),((0:Nat):Int),x)from rfl,h];simp[hg]
inductive WF:qE->Prop
 |mk (x:qE) (hk: ∀y∈x.qy.l,WF y) (h1:x.kind=5\/x.kind=6\/x.kind=7-> ∃y,x.qy.l=[y]) (h7:x.kind=7-> ∀y∈x.qy.l,2<=y.kind/\y.kind<=6):WF x
theorem WF.qy{x:qE}(h:WF x): ∀y∈x.qy.l,WF y:=by cases h;assumption
theorem WF.one{x:qE}(h:WF x):x.kind=5\/x.kind=6\/x.kind=7-> ∃y,x.qy.l=[y]:=by cases h;assumption
theorem WF.rep{x:qE}(h:WF x):x.kind=7-> ∀y∈x.qy.l,2<=y.kind/\y.kind<=6:=by cases h;assumption
theorem mK(x:qE):qG (yy x) (fun _=>True):=by
 unfold yy;refine .tI ?_ ?_<;>intro hT
 ·exact .ret trivial
 exact .ret trivial
def ZP(b:UInt8):Bool:=decide ((b.toNat:Int)<128) || decide ((b.toNat:Int)>191)
theorem XJ(b:UInt8):vh b=some (ZP b):=by
 unfold vh ZP;by_cases h:(b.toNat:Int)<128<;>simp[h]
theorem Bq(s:qa)(hl:s.length<=1099511627776): ∀(r:qa)(k f:Nat)(l:List qa),s.drop k=r->k<=s.length->f<=k->l.length<=k->
  ∃out,zy (s,(f:Int),(k:Int),l)=some out/\out.length=l.length+r.countP ZP+1:=by
 have Kh: ∀n,n<=1099511627777->qg n 16=true:=by
  intro n hn;simp only[qg,zB,decide_eq_true_eq];omega
 intro r;induction r with
 |nil=>
  intro k f l hk mE hf SQ;have h1:=wU hk;obtain rfl:k=s.length:=by omega
  have hs:kb s (f:Int) (s.length:Int)=some (s.drop f):=by
   unfold kb;rw[if_pos (by simp;omega)];simp
  rw[zy.eq_1];simp only[Int.le_refl,decide_true,if_true,beq_self_eq_true,hs,xe,z7,Kh _ (show l.length+1<=_ by omega)];rw[zy.eq_1,if_neg (by rw[wr (by omega) (by omega)];simp;omega)];exact⟨_,rfl,by simp⟩
 |cons b r ih=>
  intro k f l hk mE hf SQ;obtain⟨a1,a2,a3,_⟩:=wv hk;have h1:((k:Int)<=(s.length:Int)):=by omega
  have h2:((k:Int)==(s.length:Int))=false:=by simp;omega
  have hs:kb s (f:Int) (k:Int)=some ((s.take k).drop f):=by
   unfold kb;rw[if_pos (by simp;omega)];simp
  rw[zy.eq_1];simp only[h1,decide_true,if_true,h2,w9,if_false,a2,xe,z7,XJ,i9 (by omega) a1];cases hb:ZP b
  ·obtain⟨out,o1,o2⟩:=ih (k+1) f l a3 (by omega) (by omega) (by omega);exact⟨out,by simpa using o1,by rw[o2];simp[List.countP_cons,hb]⟩
  obtain⟨out,o1,o2⟩:=ih (k+1) k (l++[(s.take k).drop f]) a3 (by omega) (by omega) (by simp;omega);refine⟨out, ?_,by rw[o2];simp[List.countP_cons,hb];omega⟩;simp only[if_true,hs,z7,Kh _ (show l.length+1<=_ by omega),o1]
theorem eA(c:qa)(hl:c.length<=1099511627776):qG (jf c) (fun _=>True):=by
 unfold jf vX;refine .tI ?_ ?_<;>intro hT
 ·refine .bind .get fun b hb=>?_;refine .go (XJ b) ?_;refine .tI ?_ ?_<;>intro hT
  ·obtain⟨out,o1,o2⟩:=Bq c hl (c.drop 1) 1 0 [] rfl (by omega) (by omega) (by simp);exact .go (Option.bind_eq_some_iff.2 ⟨out,o1,rfl⟩) (.ret trivial)
  exact .ret trivial
 exact .ret trivial
theorem Ph(rows:Sl qT)(hw:qK (rows.l.map uv)<=1099511627776):qG (ah rows) (fun _=>True):=by
 have SQ:rows.l.length<=1099511627776:=by have:=xg sw rows.l;omega
 have key: ∀(r:List qT)(k:Nat),rows.l.drop k=r->qG (ue (rows,(k:Int))) (fun _=>True):=by
  intro r;induction r with
  |nil=>
   intro k hk;rw[ue.eq_1,if_neg (by simpa using vH hk)];exact .ret trivial
  |cons x r ih=>
   intro k hk;obtain⟨a1,a2,a3,a4⟩:=wv hk;have hx:uv x<=1099511627776:=by have:=xA (f:=uv) a4;omega
   have ih:=ih (k+1) a3;unfold uv at hx;rw[ue.eq_1,if_pos (by simpa using a1),i9 (by omega) a1];refine .go a2 ?_;refine .bind (eA x.qO (by omega)) fun v _=>?_;refine .tI ?_ ?_<;>intro hT
   ·exact .ret trivial
   refine .bind (eA x.to (by omega)) fun w _=>?_;refine .tI ?_ ?_<;>intro hT
   ·exact .ret trivial
   refine .tI ?_ ?_<;>intro hT
   ·(repeat (first|(rw [qI];rotate_left;omega;omega)|(rw [xp];rotate_left;omega;omega)))
    refine .bind .get fun b hb=>?_;refine .tI ?_ ?_<;>intro hT
    ·exact .ret trivial
    exact ih
   exact ih
 unfold ah;refine .bind (key rows.l 0 rfl) fun v _=>?_;rcases v with v|v<;>exact .ret trivial
theorem Mk{o:Option (Bool⊕Unit)}{f:Unit->Option Bool}{P:Prop}(h:qG o (fun v=>v= .inl true->False))(h2:o=some (.inr ())->qG (f ()) (fun c=>c=true->P)):
  qG (o>>=fun v=>match v with| .inl y=>some y| .inr y=>f y) (fun c=>c=true->P):=by
 obtain⟨v,rfl,hv⟩:=h;rcases v with v|v
 ·refine .go rfl (.ret fun hc=>?_);exact absurd (congrArg Sum.inl hc) hv
 exact .go rfl (h2 rfl)
theorem YF(x:qE)(hl:x.qy.l.length<=9223372036854775807): ∀(r:List qE)(k:Nat),x.qy.l.drop k=r->qG (gJ ((x.qy.l.length:Int),(k:Int),x)) (fun v=>v= .inl true->False):=by
 intro r;induction r with
 |nil=>
  intro k hk;rw[gJ.eq_1,if_neg (by simpa using vH hk)];exact .ret (by simp)
 |cons y r ih=>
  intro k hk;obtain⟨a1,a2,a3,a4⟩:=wv hk;rw[gJ.eq_1,if_pos (by simpa using a1),i9 hl a1];refine .go a2 ?_;refine .tI ?_ ?_<;>intro hT
  ·exact .ret (by simp)
  refine .tI ?_ ?_<;>intro hT
  ·exact .ret (by simp)
  exact ih (k+1) a3
theorem YG(x:qE)(hl:x.qy.l.length<=9223372036854775807): ∀(r:List qE)(k:Nat),x.qy.l.drop k=r->qG (gK ((x.qy.l.length:Int),(k:Int),x)) (fun v=>v= .inl true->False):=by
 intro r;induction r with
 |nil=>
  intro k hk;rw[gK.eq_1,if_neg (by simpa using vH hk)];exact .ret (by simp)
 |cons y r ih=>
  intro k hk;obtain⟨a1,a2,a3,a4⟩:=wv hk;rw[gK.eq_1,if_pos (by simpa using a1),i9 hl a1];refine .go a2 ?_;refine .tI ?_ ?_<;>intro hT
  ·exact .ret (by simp)
  exact ih (k+1) a3
theorem Ub(x:qE):qG (pU x) (fun c=>c=true-> ∃y,x.qy.l=[y]/\2<=y.kind/\y.kind<=6):=by
 unfold pU;refine .tI ?_ ?_<;>intro hT
 ·exact .ret (by simp)
 have h1:x.qy.l.length=1:=by omega
 obtain⟨y,hy⟩:=List.length_eq_one_iff.1 h1;refine .go (a:=y) (by rw[hy];rfl) ?_;refine .bind (mK _) fun v _=>?_;refine .tI ?_ ?_<;>intro hT
 ·refine .tI ?_ ?_<;>intro hT
  ·exact .ret fun _=>⟨y,hy,by omega,by omega⟩
  refine .ret fun h=>⟨y,hy, ?_⟩;simp only[beq_iff_eq]at h;omega
 exact .ret (by simp)
theorem Uv{x:qE}(hk:x.qy.l=[])(h:x.kind≠5/\x.kind≠6/\x.kind≠7):WF x:= .mk x (by simp[hk]) (fun h2=>by omega) (fun h2=>by omega)
theorem len_nil{α:Type}{l:List α}(h:(l.length:Int)=0):l=[]:=by
 cases l with
 |nil=>rfl
 |cons _ _=>simp at h;omega
theorem Cd: ∀x:qE,ku x->qG (nP x) (fun c=>c=true->WF x):=by
 apply Kj (P:=fun x=>ku x->qG (nP x) (fun c=>c=true->WF x));intro x ih0 hw;have hk:=dB x;have hx:=vS x;have hl:x.qy.l.length<=9223372036854775807:=by unfold ku at hw;omega
 have key: ∀(r:List qE)(k:Nat),x.qy.l.drop k=r->qG (vO ((x.qy.l.length:Int),(k:Int),x)) (fun v=>(v= .inl true->False)/\(v= .inr ()-> ∀y∈r,WF y)):=by
  intro r;induction r with
  |nil=>
   intro k hd;rw[vO.eq_1,if_neg (by simpa using vH hd)];exact .ret ⟨by simp,by simp⟩
  |cons y r ih=>
   intro k hd;obtain⟨a1,a2,a3,a4⟩:=wv hd;rw[vO.eq_1,if_pos (by simpa using a1),i9 hl a1];refine .go a2 ?_;refine .bind (ih0 y a4 (bP hw a4)) fun v hv=>?_;refine .tI ?_ ?_<;>intro hT
   ·exact .ret ⟨by simp,by simp⟩
   have hv:=hv hT;refine(ih (k+1) a3).mono fun w h=>⟨h.1,fun hw=>?_⟩;intro z hz;rcases List.mem_cons.1 hz with rfl|hz
   ·exact hv
   exact h.2 hw z hz
 have key:=key x.qy.l 0 rfl;rw[show ((0:Nat):Int)=0 from rfl]at key;have e3:=YF x hl x.qy.l 0 rfl;have e5:=YG x hl x.qy.l 0 rfl;rw[show ((0:Nat):Int)=0 from rfl]at e3 e5;unfold ku at hw;rw[nP.eq_1];refine Mk (key.mono fun v h=>h.1) fun hr=>?_;obtain⟨v,Ql,DO⟩:=key;rw[hr]at Ql;cases Ql;have qy:=DO.2 rfl;refine .tI ?_ ?_<;>intro hT
 ·have h0:=hT;refine Mk e3 fun _=>?_;refine .bind (mK _) fun v _=>?_;refine .tI ?_ ?_<;>intro hT
  ·exact .ret fun _=> .mk x qy (fun h=>by omega) (fun h=>by omega)
  exact .ret (by simp)
 refine .tI ?_ ?_<;>intro hT
 ·have h0:=hT;refine Mk e5 fun _=>?_;refine .bind (mK _) fun v _=>?_;refine .tI ?_ ?_<;>intro hT
  ·exact .ret fun _=> .mk x qy (fun h=>by omega) (fun h=>by omega)
  exact .ret (by simp)
 refine .tI ?_ ?_<;>intro hT
 ·have h0:=hT;refine .bind (mK _) fun v _=>?_;refine .tI ?_ ?_<;>intro hT
  ·have h1:=hT;refine .bind (eA x.char (by omega)) fun v _=>?_;exact .ret fun _=>Uv (len_nil h1.2) (by omega)
  exact .ret (by simp)
 refine .tI ?_ ?_<;>intro hT
 ·have h0:=hT;refine .bind (mK _) fun v _=>?_;refine .tI ?_ ?_<;>intro hT
  ·refine .ret fun h=>Uv (len_nil (by simpa using h)) (by omega)
  exact .ret (by simp)
 refine .tI ?_ ?_<;>intro hT
 ·have h0:=hT;refine .bind (mK _) fun v _=>?_;refine .tI ?_ ?_<;>intro hT
  ·have h1:=hT;refine .bind (Ph x.rows (by omega)) fun v _=>?_;exact .ret fun _=>Uv (len_nil h1.2) (by omega)
  exact .ret (by simp)
 refine .tI ?_ ?_<;>intro hT
 ·have h0:=hT;refine .bind (mK _) fun v _=>?_;refine .tI ?_ ?_<;>intro hT
  ·refine .ret fun h=> .mk x qy (fun _=>?_) (fun h=>by omega);exact List.length_eq_one_iff.1 (by simp at h;omega)
  exact .ret (by simp)
 refine .tI ?_ ?_<;>intro hT
 ·have h0:=hT;refine .bind (Ub x) fun v hv=>?_;refine .ret fun h=>?_;obtain⟨y,y1,y2⟩:=hv h;refine .mk x qy (fun _=>⟨y,y1⟩) (fun _ z hz=>?_);rw[y1]at hz;simp only[List.mem_singleton]at hz;subst hz;exact y2
 exact .ret (by simp)
theorem QP(x:qE)(hw:ku x):qG (r9 x) (fun c=>c=true->WF x):=by
 unfold r9;refine .bind (GL x hw) fun v _=>?_;refine .tI ?_ ?_<;>intro hT
 ·refine .bind (NG x hw) fun v _=>?_;refine .tI ?_ ?_<;>intro hT
  ·refine .bind (Cd x hw) fun v hv=>?_;exact .ret hv
  exact .ret (by simp)
 exact .ret (by simp)
theorem V9(fs:Sl zl)(hl:fs.l.length<=1099511627776):qG (cd fs) (fun c=>c=true-> ∀f∈fs.l,0<=f.n):=by
 have key: ∀(r:List zl)(k:Nat),fs.l.drop k=r->qG (xw (fs,(k:Int))) (fun v=>(v= .inl true->False)/\(v= .inr ()-> ∀f∈r,0<=f.n)):=by
  intro r;induction r with
  |nil=>
   intro k hk;rw[xw.eq_1,if_neg (by simpa using vH hk)];exact .ret ⟨by simp,by simp⟩
  |cons x r ih=>
   intro k hk;obtain⟨a1,a2,a3,a4⟩:=wv hk;have ih:=ih (k+1) a3;have next:0<=x.n->qG (xw (fs,((k+1:Nat):Int))) (fun v=>(v= .inl true->False)/\(v= .inr ()-> ∀f∈x::r,0<=f.n)):=by
    intro hx;refine ih.mono fun v h=>⟨h.1,fun hw z hz=>?_⟩;rcases List.mem_cons.1 hz with rfl|hz
    ·exact hx
    exact h.2 hw z hz
   have prev: ¬(k:Int)=0-> ∀{f:zl->Option (Bool⊕Unit)}{Q:Bool⊕Unit->Prop},(∀ y,qG (f y) Q)->qG (qi fs.l (IntKind.i64.wrap ((k:Int)-1))>>=f) Q:=by
    intro h f Q hf
    (repeat (first|(rw [qI];rotate_left;omega;omega)|(rw [xp];rotate_left;omega;omega)))
    exact .bind qG.get fun y _=>hf y
   rw[xw.eq_1,if_pos (by simpa using a1),i9 (by omega) a1];refine .go a2 ?_
   repeat' (first|exact .ret ⟨by simp,by simp⟩|(refine .tI ?_ ?_<;>intro hT)|(refine prev ‹_› fun y=>?_)|refine .bind (K1 _) fun v _=>?_)
   all_goals exact next (by omega)
 unfold cd;exact tW
theorem Va(f:zf)(hw:vW f<=1099511627776):qG (cf f) (fun c=>c=true->WF f.rx):=by
 have hl:=xg XB f.uz.l;unfold vW at hw;unfold cf;have:= @QP;have:= @V9;exact tW
def o6:qE:=qE.mk (0:Int) ([]:qa) false (⟨true,[]⟩:(Sl qT)) (0:Int) (0:Int) false (⟨true,[]⟩:(Sl qE))
def sC:zf:=zf.mk o6 (⟨true,([]:List zl)⟩:(Sl zl)) false false
theorem D5(x:qE):qG (nv (x,o6)) (fun _=>True):=by
 rw[nv.eq_1];refine .tI ?_ ?_<;>intro hT
 ·exact .ret trivial
 have h:=hT;simp only[o6,List.length_nil]at h;have h1:x.rows.l.length=0:=by omega
 have h2:x.qy.l.length=0:=by omega
 refine .go (a:= .inr ()) (by rw[my.eq_1];simp[h1]) ?_;refine .go (a:= .inr ()) (by rw[uD.eq_1];simp[h2]) ?_;exact .ret trivial
theorem Z3(f:zf):qG (yC f sC) (fun _=>True):=by
 unfold yC;refine .bind (D5 f.rx) fun v _=>?_;refine .tI ?_ ?_<;>intro hT
 ·exact .ret trivial
 have h:=hT;simp only[sC,List.length_nil]at h;have h1:f.uz.l.length=0:=by omega
 refine .go (a:= .inr ()) (by rw[uk.eq_1];simp[h1]) ?_;exact .ret trivial
inductive WS:qA->Prop
 |mk (x:qA) (hk: ∀y∈x.qy.l,WS y) (h0:x.kind=0->x.qy.l=[]) (h2:x.kind=2->x.has=false/\x.qJ=false/\x.qy.l=[]/\0<x.opts.l.length)
   (h1:x.kind=1\/x.kind=3->x.opts.l=[]/\(x.has=true->x.qJ=false)/\(x.has=false->x.qy.l=[])) (hd:0<=x.kind/\x.kind<=3)
   (hn:x.kind=1\/x.kind=2->0<=x.n/\x.n<=9999):WS x
def XU(l:Sl qA):Prop:= ∀x∈l.l,WS x
theorem snS_ind{P:Sl qA->Prop}(h: ∀l,(∀ x∈l.l,P x.qy)->P l): ∀l,P l:=by
 have key: ∀n(l:Sl qA),qK (l.l.map mj)<n->P l:=by
  intro n;induction n with
  |zero=>intro l hl;omega
  |succ n ih=>
   intro l hl;have:= @xA;have:= @bt;exact tW
 exact fun l=>key _ l (Nat.lt_succ_self _)
abbrev fq(l:Sl qA):Prop:=qK (l.l.map mj)<=1099511627775
theorem Mg{l:Sl qA}(h:fq l):l.l.length<=1099511627775:=by have:=xg rH l.l;unfold fq at h;omega
theorem JV{l:Sl qA}(h:fq l){x:qA}(hx:x∈l.l):mj x<=1099511627775:=by have:=xA (f:=mj) hx;unfold fq at h;omega
theorem Gl{l:Sl qA}(h:fq l){x:qA}(hx:x∈l.l):fq x.qy:=by have:=JV h hx;have:=bt x;unfold fq;omega
theorem Wd(s:qa)(hs:s.length<=1099511627776): ∀(r:qa)(k:Nat),s.drop k=r->qG (xG (s,(k:Int))) (fun _=>True):=by
 intro r;induction r with
 |nil=>
  intro k hk;rw[xG.eq_1,if_neg (by simpa using vH hk)];exact .ret trivial
 |cons b r ih=>
  intro k hk;obtain⟨a1,a2,a3,a4⟩:=wv hk;have h:=ih (k+1) a3;rw[xG.eq_1,if_pos (by simpa using a1),i9 (by omega) a1];refine .go a2 ?_;refine .bind (mN b) fun v hv=>?_
  repeat' (first|exact h|exact .ret trivial|(refine .tI ?_ ?_<;>intro hT)|refine .bind (bL b) fun w _=>?_)
theorem Mo(s:qa)(hs:s.length<=1099511627776):qG (j9 s) (fun _=>True):=by
 unfold j9;refine .tI ?_ ?_<;>intro hT
 ·exact .ret trivial
 refine .bind (Wd s hs s 0 rfl) fun v hv=>?_;rcases v with v|v<;>exact .ret trivial
theorem Pw(x:qA)(hw:mj x<=1099511627775)(ih:qG (uX x.qy) (fun c=>c=true->XU x.qy)):
  qG (kf x) (fun c=>c=true->x.opts.l=[]/\(x.has=true->x.qJ=false)/\(x.has=false->x.qy.l=[])/\XU x.qy):=by
 have hx:=bt x;rw[kf.eq_1];refine .tI ?_ ?_<;>intro hT
 ·exact .ret (by simp)
 have h1:x.opts.l=[]:=len_nil (by omega);refine .tI ?_ ?_<;>intro hT
 ·have hh:=hT;refine .tI ?_ ?_<;>intro hT
  ·exact .ret (by simp)
  have ht:=hT;refine .bind (Z3 x.qP) fun v _=>?_;refine .tI ?_ ?_<;>intro hT
  ·refine .bind ih fun v hv=>?_;exact .ret fun h=>⟨h1,fun _=>ht,fun h=>(by rw[hh]at h;cases h),hv h⟩
  exact .ret (by simp)
 have hh:=hT;refine .tI ?_ ?_<;>intro hT
 ·exact .ret (by simp)
 have hk:x.qy.l=[]:=len_nil (by omega);have hka:XU x.qy:=fun y hy=>by rw[hk]at hy;cases hy
 refine .tI ?_ ?_<;>intro hT
 ·refine .bind (Va x.qP (by omega)) fun v hv=>?_;exact .ret fun _=>⟨h1,fun h=>(by rw[hh]at h;cases h),fun _=>hk,hka⟩
 refine .bind (Z3 x.qP) fun v _=>?_;refine .tI ?_ ?_<;>intro hT
 ·refine .bind ih fun v hv=>?_;exact .ret fun _=>⟨h1,fun h=>(by rw[hh]at h;cases h),fun _=>hk,hka⟩
 exact .ret (by simp)
theorem Ce: ∀l,fq l->qG (uX l) (fun c=>c=true->XU l):=by
 apply snS_ind (P:=fun l=>fq l->qG (uX l) (fun c=>c=true->XU l));intro l ih0 hw;have hl:=Mg hw;have key: ∀(r:List qA)(k:Nat),l.l.drop k=r->qG (zq (l,(k:Int))) (fun v=>(v= .inl true->False)/\(v= .inr ()-> ∀y∈r,WS y)):=by
  intro r;induction r with
  |nil=>
   intro k hd;rw[zq.eq_1,if_neg (by simpa using vH hd)];exact .ret ⟨by simp,by simp⟩
  |cons x r ih=>
   intro k hd;obtain⟨a1,a2,a3,a4⟩:=wv hd;have hx:=bt x;have hxw:=JV hw a4;have XF:=Pw x hxw (ih0 x a4 (Gl hw a4));have ih:=ih (k+1) a3;have next:WS x->qG (zq (l,((k+1:Nat):Int))) (fun v=>(v= .inl true->False)/\(v= .inr ()-> ∀y∈x::r,WS y)):=by
    intro hx;refine ih.mono fun v h=>⟨h.1,fun hw z hz=>?_⟩;rcases List.mem_cons.1 hz with rfl|hz
    ·exact hx
    exact h.2 hw z hz
   have stop: ∀{f:Bool->Option (Bool⊕Unit)},(∀ v,(v=true->x.opts.l=[]/\(x.has=true->x.qJ=false)/\(x.has=false->x.qy.l=[])/\XU x.qy)->qG (f v) (fun v=>(v= .inl true->False)/\(v= .inr ()-> ∀y∈x::r,WS y)))->
     qG (kf x>>=f) (fun v=>(v= .inl true->False)/\(v= .inr ()-> ∀y∈x::r,WS y)):=fun hf=>qG.bind XF hf
   have prev: ¬(k:Int)=0-> ∀{f:qA->Option (Bool⊕Unit)},(∀ y,qG (f y) (fun v=>(v= .inl true->False)/\(v= .inr ()-> ∀y∈x::r,WS y)))->qG (qi l.l (IntKind.i64.wrap ((k:Int)-1))>>=f) (fun v=>(v= .inl true->False)/\(v= .inr ()-> ∀y∈x::r,WS y)):=by
    intro h f hf
    (repeat (first|(rw [qI];rotate_left;omega;omega)|(rw [xp];rotate_left;omega;omega)))
    exact .bind qG.get fun y _=>hf y
   have w1:x.kind=1->0<=x.n->x.n<=9999->(x.opts.l=[]/\(x.has=true->x.qJ=false)/\(x.has=false->x.qy.l=[])/\XU x.qy)->WS x:=fun a b c d=>
    .mk x d.2.2.2 (fun h=>by omega) (fun h=>by omega) (fun _=>⟨d.1,d.2.1,d.2.2.1⟩) (by omega) (fun _=>⟨b,c⟩)
   have w3:x.kind=3->(x.opts.l=[]/\(x.has=true->x.qJ=false)/\(x.has=false->x.qy.l=[])/\XU x.qy)->WS x:=fun a d=>
    .mk x d.2.2.2 (fun h=>by omega) (fun h=>by omega) (fun _=>⟨d.1,d.2.1,d.2.2.1⟩) (by omega) (fun h=>by omega)
   have w0:x.kind=0->x.qy.l=[]->WS x:=fun a b=>
    .mk x (by simp[b]) (fun _=>b) (fun h=>by omega) (fun h=>by omega) (by omega) (fun h=>by omega)
   have w2:x.kind=2->x.qy.l=[]->x.has=false->x.qJ=false->0<x.opts.l.length->0<=x.n->x.n<=9999->WS x:=fun a b c d e f g=>
    .mk x (by simp[b]) (fun h=>by omega) (fun _=>⟨c,d,b,e⟩) (fun h=>by omega) (by omega) (fun _=>⟨f,g⟩)
   have hname:=Mo x.text (by omega);rw[zq.eq_1,if_pos (by simpa using a1),i9 (by omega) a1];refine .go a2 ?_
   repeat' (first|exact .ret ⟨by simp,by simp⟩|(refine .tI ?_ ?_<;>intro hT)|(refine prev ‹_› fun y=>?_)|refine .bind (Z3 x.qP) fun v _=>?_|refine .bind hname fun v _=>?_|refine stop fun v hv=>?_)
   all_goals refine next ?_
   all_goals first|exact w1 (by omega) (by omega) (by omega) (by simp_all)|exact w3 (by omega) (by simp_all)|exact w0 (by omega) (len_nil (by omega))|exact w2 (by omega) (len_nil (by omega)) (by simp_all) (by simp_all) (by omega) (by omega) (by omega)
 rw[uX.eq_1];refine .bind (key l.l 0 rfl) fun v hv=>?_;rcases v with v|v
 ·exact .ret fun h=>by subst h;exact absurd rfl hv.1
 exact .ret fun _=>hv.2 rfl
theorem Wy(l:Sl qA)(hw:qK (l.l.map mj)<=100000000):qG (cj l) (fun c=>c=true->XU l):=by
 unfold cj;refine .bind (HN _ l (xJ _) hw) fun v _=>?_;refine .tI ?_ ?_<;>intro hT
 ·refine .bind (Ce l (by unfold fq;omega)) fun v hv=>?_;exact .ret hv
 exact .ret (by simp)
theorem SH: ∀(m:Nat)(i:Int)(b:List UInt8),m=(b.length-i).toNat->0<=i->b.length<=1099511627776->qG (kz (i,b)) (fun r=>r.length=b.length):=by
 intro m;induction m using Nat.strongRecOn with
 |_ m ih=>
 intro i b hm h0 hB;rw[kz.eq_1];exact tW
theorem lx(s:qa)(hs:s.length<=1099511627776):qG (uC s) (fun r=>r.length=s.length):=by
 unfold uC;have:= @SH;exact tW
theorem PH: ∀(m:Nat)(i:Int)(b:List UInt8),m=(b.length-i).toNat->0<=i->b.length<=1099511627776->qG (wI (i,b)) (fun r=>r.length=b.length):=by
 intro m;induction m using Nat.strongRecOn with
 |_ m ih=>
 intro i b hm h0 hB;rw[wI.eq_1];exact tW
theorem BA(s:qa)(hs:s.length<=1099511627776):qG (s8 s) (fun r=>r.length=s.length):=by
 unfold s8;have:= @PH;exact tW
theorem lO(c:qa):qG (mO c) (fun _=>True):=by
 unfold mO;refine .tI ?_ ?_<;>intro hT
 ·refine .bind .get fun b hb=>?_;refine .bind (mN b) fun v _=>?_;refine .tI ?_ ?_<;>intro hT
  ·exact .ret trivial
  refine .bind (bL b) fun v _=>?_;refine .tI ?_ ?_<;>intro hT
  ·exact .ret trivial
  exact .ret trivial
 exact .ret trivial
theorem JN(rows:Sl qT)(hl:rows.l.length<=1099511627776)(c:qa):qG (cQ rows c) (fun _=>True):=by
 have key: ∀(r:List qT)(k:Nat),rows.l.drop k=r->qG (gn (rows,c,(k:Int))) (fun _=>True):=by
  intro r;induction r with
  |nil=>
   intro k hk;rw[gn.eq_1,if_neg (by simpa using vH hk)];exact .ret trivial
  |cons x r ih=>
   intro k hk;obtain⟨a1,a2,a3,a4⟩:=wv hk;have ih:=ih (k+1) a3;rw[gn.eq_1,if_pos (by simpa using a1),i9 (by omega) a1];exact tW
 unfold cQ;refine .bind (key rows.l 0 rfl) fun v _=>?_;rcases v with v|v<;>exact .ret trivial
theorem SL(rows:Sl qT)(hl:rows.l.length<=1099511627776)(n f:Bool)(c:qa)(hc:c.length<=1099511627776):qG (ag rows n f c) (fun _=>True):=by
 unfold ag;refine .bind (JN rows hl c) fun v _=>?_;refine .tI ?_ ?_<;>intro hT
 ·refine .bind (lx c hc) fun d _=>?_;refine .bind (JN rows hl d) fun w _=>?_;refine .tI ?_ ?_<;>intro hT
  ·exact .ret trivial
  refine .bind (BA c hc) fun d _=>?_;refine .bind (JN rows hl d) fun w _=>?_;refine .tI ?_ ?_<;>intro hT
  ·exact .ret trivial
  exact .ret trivial
 exact .ret trivial
structure nj (s:qa) (n:Nat) (b:qf):Prop where
 hs:s.length<=1048576
 cs:b.cs.l.length=n
 clen: ∀c∈b.cs.l,c.length<=s.length
 kZ:b.kZ.l.length=n+1
 mono:b.kZ.l.Pairwise (· < ·)
 QN: ∀x∈b.kZ.l,0<=x/\x<=s.length
 fuel:0<=b.fuel/\b.fuel<=20000
 hn:n<=1048576
structure rJ (b c:qf):Prop where
 cs:c.cs=b.cs
 kZ:c.kZ=b.kZ
 fold:c.fold=b.fold
 fuel:c.fuel<=b.fuel
theorem rJ.refl(b:qf):rJ b b:=⟨rfl,rfl,rfl,Int.le_refl _⟩
theorem rJ.trans{a b c:qf}(h1:rJ a b)(h2:rJ b c):rJ a c:=⟨h2.cs.trans h1.cs,h2.kZ.trans h1.kZ,h2.fold.trans h1.fold,Int.le_trans h2.fuel h1.fuel⟩
def VY(s:qa)(x:ql):Prop:=x.qO= -1\/(0<=x.qO/\x.qO<=x.to/\x.to<=s.length)
structure nH (s:qa) (g:Nat) (p:Sl ql):Prop where
 len:p.l.length=g
 ok: ∀x∈p.l,VY s x
inductive H5 (g:Nat) (j:Int):Option qe->Prop
 |none:H5 g j none
 |Zz (k:qe) (hk:k.kind=1) (g0:0<=k.g) (g1:k.g<g) (f0:0<=k.qO) (f1:k.qO<=j) (h:H5 g j k.rest):H5 g j (some k)
 |again (k:qe) (hk:k.kind=2) (hx:WF k.x) (hl:ku k.x) (h7:k.x.kind=7) (g0:0<=k.g) (g1:k.g+sx k.x<=g) (h:H5 g j k.rest):H5 g j (some k)
 |hold (k:qe) (hk:k.kind=0) (hx:WF k.x) (hl:ku k.x) (g0:0<=k.g) (g1:k.g+sx k.x<=g) (h:H5 g j k.rest):H5 g j (some k)
theorem H5.eO{g:Nat}{i j:Int}(DJ:i<=j){k:Option qe}(h:H5 g i k):H5 g j k:=by
 induction h with
 |none=>exact .none
 |Zz k hk g0 g1 f0 f1 _ ih=>exact .Zz k hk g0 g1 f0 (by omega) ih
 |again k hk hx hl h7 g0 g1 _ ih=>exact .again k hk hx hl h7 g0 g1 ih
 |hold k hk hx hl g0 g1 _ ih=>exact .hold k hk hx hl g0 g1 ih
mutual
def kW:qe->Nat
 |⟨kd,x,_,_,_,r⟩=>(if kd=0 then tn x else 1)+kWO r
def kWO:Option qe->Nat
 |none=>0
 |some k=>kW k
end
theorem EE(k:qe):kWO (some k)=(if k.kind=0 then tn k.x else 1)+kWO k.rest:=by
 cases k;simp[kW,kWO]
section
variable {s:qa} {n:Nat}
theorem XN{b:qf}(hb:nj s n b){i:Int}(h0:0<=i)(h1:i<=n):qG (qi b.kZ.l i) (fun x=>b.kZ.l[i.toNat]? =some x/\0<=x/\x<=s.length):=
 (qG.get h0 (by have:=hb.kZ;omega)).mono fun x hx=>⟨hx.1,hb.QN x hx.2⟩
theorem My{l:List Int}(hm:l.Pairwise (· < ·)){i j:Nat}{a c:Int}(hi:l[i]? =some a)(hj:l[j]? =some c)(h:i<j):a<c:=by
 obtain⟨i1,rfl⟩:=qF hi;obtain⟨j1,rfl⟩:=qF hj;exact List.pairwise_iff_getElem.1 hm i j i1 j1 h
theorem Zl{l:List Int}(hm:l.Pairwise (· < ·)){i j:Nat}{a c:Int}(hi:l[i]? =some a)(hj:l[j]? =some c)(h:i<=j):a<=c:=by
 have:= @My;exact tW
theorem Dn(x:qE)(hx:ku x)(i:Int)(h0:0<=i)(h1:i<=n)(b:qf)(hb:nj s n b):qG (bF x i b) (fun r=>0<=r.1/\(r.2=true->i+r.1<=n)):=by
 have hc:=hb.cs;have hn:=hb.hn;have hs:=hb.hs;have hxw:=vS x;have hrows:=xg sw x.rows.l;unfold ku at hx;unfold bF;refine .tI ?_ ?_<;>intro hT
 ·exact .ret ⟨by simp,fun _=>by simp only;omega⟩
 refine .tI ?_ ?_<;>intro hT
 ·exact .ret ⟨by simp,fun _=>by simp only;omega⟩
 refine .tI ?_ ?_<;>intro hT
 ·refine .tI ?_ ?_<;>intro hT
  ·(repeat (first|(rw [qI];rotate_left;omega;omega)|(rw [xp];rotate_left;omega;omega)))
   refine .bind .get fun c _=>?_;refine .bind (lO c) fun v _=>?_;refine .tI ?_ ?_<;>intro hT
   ·refine .bind .get fun c _=>?_;refine .bind (lO c) fun v _=>?_;exact .ret ⟨by simp,fun _=>by simp only;omega⟩
   exact .ret ⟨by simp,fun _=>by simp only;omega⟩
  refine .tI ?_ ?_<;>intro hT
  ·refine .bind .get fun c _=>?_;refine .bind (lO c) fun v _=>?_;exact .ret ⟨by simp,fun _=>by simp only;omega⟩
  exact .ret ⟨by simp,fun _=>by simp only;omega⟩
 refine .tI ?_ ?_<;>intro hT
 ·exact .ret ⟨by simp,by simp⟩
 refine .bind .get fun c hcc=>?_;have lW:=hb.clen c hcc.2;refine .tI ?_ ?_<;>intro hT
 ·exact .ret ⟨by simp,fun _=>by simp only;omega⟩
 refine .tI ?_ ?_<;>intro hT
 ·refine .bind (SL x.rows (by omega) _ _ c (by omega)) fun v _=>?_;exact .ret ⟨by simp,fun _=>by simp only;omega⟩
 refine .tI ?_ ?_<;>intro hT
 ·exact .ret ⟨by simp,fun _=>by simp only;omega⟩
 refine .tI ?_ ?_<;>intro hT
 ·refine .bind (lx c (by omega)) fun v _=>?_;refine .bind (lx x.char (by omega)) fun v _=>?_;exact .ret ⟨by simp,fun _=>by simp only;omega⟩
 exact .ret ⟨by simp,by simp⟩
end
abbrev OnR:=Int×Sl ql×Bool×qf
structure Na (s:qa) (n g:Nat) (i:Int) (b:qf) (r:OnR):Prop where
 run:nj s n r.2.2.2
 eO:rJ b r.2.2.2
 ok:r.2.2.1=true->i<=r.1/\r.1<=n/\nH s g r.2.1
theorem Na.mono{s:qa}{n g:Nat}{i j:Int}{b c:qf}{r:OnR}(h:Na s n g j c r)(DJ:i<=j)(hl:rJ b c):Na s n g i b r:=
 ⟨h.run,hl.trans h.eO,fun k=>⟨Int.le_trans DJ (h.ok k).1,(h.ok k).2⟩⟩
theorem Na.fail{s:qa}{n g:Nat}{i:Int}{b:qf}(hb:nj s n b){e:Int}{p:Sl ql}:Na s n g i b (e,p,false,b):=⟨hb,.refl b,by simp⟩
section
variable {s:qa} {n g:Nat}
structure VU (s:qa) (n g:Nat) (k:Option qe) (i:Int) (parts:Sl ql) (b:qf):Prop where
 i0:0<=i
 i1:i<=n
 k:H5 g i k
 p:nH s g parts
 run:nj s n b
 g:g<=1000000000
def H6(s:qa)(n g:Nat)(k:Option qe)(i:Int)(parts:Sl ql)(b:qf):Prop:=qG (qV (k,i,parts,b)) (Na s n g i b)
theorem VI{p:Sl ql}(h:p.l.length=g)(hg:g<=1000000000):qg p.l.length 16=true:=by
 simp only[qg,zB,decide_eq_true_eq];omega
theorem nH.set{p:Sl ql}(h:nH s g p)(i:Nat){x:ql}(hx:VY s x)(b:Bool):nH s g (⟨b,p.l.set i x⟩:Sl ql) where
 len:=by simpa using h.len
 ok:=by
  intro y hy;rcases List.mem_or_eq_of_mem_set hy with hy|rfl
  ·exact h.ok y hy
  exact hx
theorem pQ{o:Option OnR}{Q:OnR->Prop}(h:qG o Q):qG (o>>=fun v=>some (v.1,v.2.1,v.2.2.1,v.2.2.2)) Q:=qG.bind h fun v hv=> .ret hv
theorem Sd(k:qe)(i:Int)(parts:Sl ql)(b:qf)(h:VU s n g (some k) i parts b)(hk:k.kind=0)(h7:k.x.kind≠7)
  (go: ∀k i parts c,VU s n g k i parts c->c.fuel.toNat<b.fuel.toNat->H6 s n g k i parts c):qG (yY (some k,i,parts,b)) (Na s n g i b):=by
 have hf:=h.run.fuel;have hg:=h.g;have hn:=h.run.hn;obtain⟨hx,hl,g0,g1,nW⟩:WF k.x/\ku k.x/\0<=k.g/\k.g+sx k.x<=g/\H5 g i k.rest:=by
  cases h.k with
  |Zz _ h1=>omega
  |again _ h1=>omega
  |hold _ _ a b c d e=>exact⟨a,b,c,d,e⟩
 rw[yY.eq_1];refine .tI ?_ ?_<;>intro hT
 ·exact .ret ⟨⟨h.run.hs,h.run.cs,h.run.clen,h.run.kZ,h.run.mono,h.run.QN,hf,hn⟩,⟨rfl,rfl,rfl,Int.le_refl _⟩,by simp⟩
 have hf0:0<b.fuel:=by omega
 refine .go rfl ?_;have hr:nj s n (qf.mk b.cs b.kZ b.fold (IntKind.i64.wrap (b.fuel-(1:Int))) b.out):=
  ⟨h.run.hs,h.run.cs,h.run.clen,h.run.kZ,h.run.mono,h.run.QN,by simp only;rw[qI (by omega) (by omega)];omega,hn⟩
 have W8:rJ b (qf.mk b.cs b.kZ b.fold (IntKind.i64.wrap (b.fuel-(1:Int))) b.out):=⟨rfl,rfl,rfl,by simp only;rw[qI (by omega) (by omega)];omega⟩;have xB:(qf.mk b.cs b.kZ b.fold (IntKind.i64.wrap (b.fuel-(1:Int))) b.out).fuel.toNat<b.fuel.toNat:=by simp only;rw[qI (by omega) (by omega)];omega
 have UB:=Ki k.x;refine .tI ?_ ?_<;>intro hT
 ·have h5:=hT;obtain⟨y,hy⟩:=hx.one (by omega);refine .go (a:=y) (by rw[hy];rfl) ?_;have DQ:y∈k.x.qy.l:=by rw[hy];simp
  rw[if_pos h5,hy]at UB;simp only[List.map_cons,List.map_nil,qK]at UB;rw[wr (n:=k.g+1) (by omega) (by omega)];refine pQ ((go _ i parts _ ⟨h.i0,h.i1, ?_,h.p,hr,hg⟩ xB).mono fun r hr=>hr.mono (Int.le_refl _) W8);refine .hold _ rfl (hx.qy y DQ) (bP hl DQ) (by simp only;omega) (by simp only;omega) ?_;exact .Zz _ rfl (by simp only;omega) (by simp only;omega) (by simp only;exact h.i0) (by simp only;omega) nW
 refine .tI ?_ ?_<;>intro hT
 ·have h6:=hT;obtain⟨y,hy⟩:=hx.one (by omega);refine .go (a:=y) (by rw[hy];rfl) ?_;have DQ:y∈k.x.qy.l:=by rw[hy];simp
  rw[if_neg (by omega),hy]at UB;simp only[List.map_cons,List.map_nil,qK]at UB;refine pQ ((go _ i parts _ ⟨h.i0,h.i1, ?_,h.p,hr,hg⟩ xB).mono fun r hr=>hr.mono (Int.le_refl _) W8);exact .hold _ rfl (hx.qy y DQ) (bP hl DQ) (by simp only;omega) (by simp only;omega) nW
 refine .bind (Dn k.x hl i h.i0 h.i1 _ hr) fun v hv=>?_;refine .tI ?_ ?_<;>intro hT
 ·exact .ret ⟨hr,W8,by simp⟩
 have DO:=hv.2 (by simpa using hT);have h0:=h.i0;rw[wr (n:=i+v.1) (by omega) (by omega)];refine pQ ((go _ (i+v.1) parts _ ⟨by omega,DO,nW.eO (by omega),h.p,hr,hg⟩ xB).mono fun r hr=>hr.mono (by omega) W8)
theorem JI(k:qe)(i:Int)(parts:Sl ql)(b:qf)(h:VU s n g (some k) i parts b)(hk:k.kind=0)(h0:k.x.kind≠0/\k.x.kind≠1/\k.x.kind≠7)
  (go: ∀k i parts c,VU s n g k i parts c->c.fuel.toNat<b.fuel.toNat->H6 s n g k i parts c):H6 s n g (some k) i parts b:=by
 unfold H6;rw[qV.eq_1];rw[if_neg (by simp)];refine .go rfl ?_;rw[if_neg (by simp[hk]),if_neg (by simp[hk]),if_neg (by simp[h0.1]),if_neg (by simp[h0.2.1]),if_neg (by simp[h0.2.2])];exact pQ (Sd k i parts b h hk h0.2.2 go)
theorem So(k:qe)(i:Int)(b:qf)(hl:ku k.x)(g0:0<=k.g)(g1:k.g+sx k.x<=g)(hg:g<=1000000000):
  ∀(m:Nat)(j:Int)(p:List ql),m=(sx k.x-j).toNat->0<=j->nH s g ⟨false,p⟩->qG (vd (some k,i,j,b,p)) (fun r=>nH s g ⟨false,r⟩):=by
 intro m;induction m using Nat.strongRecOn with
 |_ m ih=>
 intro j p hm h0 hp;have sH:=hp.len;simp only at sH;rw[vd.eq_1];refine .go rfl ?_;refine .go (fQ k.x hl) ?_;refine .tI ?_ ?_<;>intro hT
 ·rw[wr (n:=k.g+j) (by omega) (by omega),wr (n:=j+1) (by omega) (by omega)];refine .bind .get fun y _=>?_;exact ih _ (by omega) (j+1) _ rfl (by omega) (hp.set _ (.inl rfl) false)
 exact .ret hp
theorem L4(k:qe)(i:Int)(parts:Sl ql)(b:qf)(i0:0<=i)(i1:i<=n)(hx:WF k.x)(hl:ku k.x)(h7:k.x.kind=7)(g0:0<=k.g)(g1:k.g+sx k.x<=g)(nW:H5 g i k.rest)(hp:nH s g parts)(hb:nj s n b)(hg:g<=1000000000)
  (go: ∀k i parts c,VU s n g k i parts c->c.fuel.toNat<b.fuel.toNat->H6 s n g k i parts c):qG (xj (some k,i,parts,b)) (Na s n g i b):=by
 rw[xj.eq_1];refine .zm (VI hp.len hg) ?_;refine .bind (So (s:=s) k i b hl g0 g1 hg _ 0 parts.l rfl (by omega) ⟨hp.len,hp.ok⟩) fun v hv=>?_;refine .go rfl ?_;obtain⟨y,hy⟩:=hx.one (by omega);refine .go (a:=y) (by rw[hy];rfl) ?_;have DQ:y∈k.x.qy.l:=by rw[hy];simp
 have hyk:=hx.rep h7 y DQ;have UB:=Ki k.x;rw[if_neg (by omega),hy]at UB;simp only[List.map_cons,List.map_nil,qK]at UB;refine pQ (JI _ i _ b ⟨i0,i1, ?_,hv,hb,hg⟩ rfl (by simp only;omega) go);refine .hold _ rfl (hx.qy y DQ) (bP hl DQ) g0 (by simp only;omega) ?_;exact .again _ rfl hx hl h7 g0 g1 nW
theorem Kg(k:qe)(i:Int)(parts:Sl ql)(b:qf)(i0:0<=i)(i1:i<=n)(hx:WF k.x)(hl:ku k.x)(h7:k.x.kind=7)(g0:0<=k.g)(g1:k.g+sx k.x<=g)(nW:H5 g i k.rest)(hp:nH s g parts)(hb:nj s n b)(hg:g<=1000000000)
  (go: ∀k i parts c,VU s n g k i parts c->c.fuel.toNat<b.fuel.toNat->H6 s n g k i parts c)
  (rest: ∀c,nj s n c->c.fuel<=b.fuel->H6 s n g k.rest i parts c):qG (jF (some k,i,parts,b)) (Na s n g i b):=by
 have tm: ∀c,nj s n c->rJ b c->qG (xj (some k,i,parts,c)) (Na s n g i c):=fun c hc hbc=>
  L4 k i parts c i0 i1 hx hl h7 g0 g1 nW hp hc hg fun k i p d h1 h2=>go k i p d h1 (by have:=hbc.fuel;have:=hc.fuel;have:=hb.fuel;omega)
 have t0:=tm b hb (.refl b);have r0:qG (qV (k.rest,i,parts,b)) (Na s n g i b):=rest b hb (Int.le_refl _);have lazy: ∀{c:OnR->Prop}[DecidablePred c],qG (qV (k.rest,i,parts,b)>>=fun v=>if c v then some (v.1,v.2.1,v.2.2.1,v.2.2.2)else xj (some k,i,parts,v.2.2.2)>>=fun w=>some (w.1,w.2.1,w.2.2.1,w.2.2.2)) (Na s n g i b):=by
  intro c _;refine .bind r0 fun v hv=>?_;refine .ite (fun _=> .ret hv) fun _=>?_;exact pQ ((tm v.2.2.2 hv.run hv.eO).mono fun r hr=>hr.mono (Int.le_refl _) hv.eO)
 have eager: ∀{c:OnR->Prop}[DecidablePred c],qG (xj (some k,i,parts,b)>>=fun v=>if c v then some (v.1,v.2.1,v.2.2.1,v.2.2.2)else qV (k.rest,i,parts,v.2.2.2)>>=fun w=>some (w.1,w.2.1,w.2.2.1,w.2.2.2)) (Na s n g i b):=by
  intro c _;refine .bind t0 fun v hv=>?_;refine .ite (fun _=> .ret hv) fun _=>?_;exact pQ ((rest v.2.2.2 hv.run hv.eO.fuel).mono fun r hr=>hr.mono (Int.le_refl _) hv.eO)
 rw[jF.eq_1];refine .go rfl ?_
 repeat' (first|exact pQ t0|exact pQ r0|exact lazy|exact eager|refine .ite (fun _=>?_) (fun _=>?_))
theorem seq_L1(k:qe)(i:Int)(parts:Sl ql)(b:qf)(hx:WF k.x)(hl:ku k.x)(g0:0<=k.g)(g1:k.g+qK (k.x.qy.l.map sx)<=g)(hg:g<=1000000000):
  ∀(m:Nat)(rest:Option qe),m<=k.x.qy.l.length->H5 g i rest->
   qG (vu (some k,i,parts,rest,k.g+(qK ((k.x.qy.l.take m).map sx):Nat),(m:Int)-1,b)) (fun r=>H5 g i r/\kWO r=qK ((k.x.qy.l.take m).map tn)+kWO rest):=by
 intro m;have mE:=dB k.x;unfold ku at hl;induction m with
 |zero=>
  intro rest _ hr;rw[vu.eq_1,if_neg (by simp)];exact .ret ⟨hr,by simp[qK]⟩
 |succ m ih=>
  intro rest hm hr;rw[vu.eq_1,if_pos (by simp)];refine .go rfl ?_;have xB:m<k.x.qy.l.length:=by omega
  have hy:k.x.qy.l[m]∈k.x.qy.l:=List.getElem_mem xB;have e1:((m+1:Nat):Int)-1=(m:Int):=by omega
  rw[e1];refine .go (j8 xB) ?_;have hlk:ku k.x.qy.l[m]:=bP (by unfold ku;omega) hy;refine .go (fQ _ hlk) ?_;have e2:k.x.qy.l.take (m+1)=k.x.qy.l.take m++[k.x.qy.l[m]]:=by rw[List.take_succ_eq_append_getElem xB]
  have e3:=jS sx (k.x.qy.l.take m) k.x.qy.l[m];have e4:=jS tn (k.x.qy.l.take m) k.x.qy.l[m];have e5:qK (k.x.qy.l.map sx)=qK ((k.x.qy.l.take m).map sx)+qK ((k.x.qy.l.drop m).map sx):=by
   conv=>lhs;rw[<- List.take_append_drop m k.x.qy.l,List.map_append,gu]
  have e6:sx k.x.qy.l[m]<=qK ((k.x.qy.l.drop m).map sx):=xA (by rw[List.drop_eq_getElem_cons xB];exact List.mem_cons_self);rw[e2,e3,e4];have e7:IntKind.i64.wrap (k.g+((qK ((k.x.qy.l.take m).map sx)+sx k.x.qy.l[m]:Nat):Int)-(sx k.x.qy.l[m]:Int))=k.g+(qK ((k.x.qy.l.take m).map sx):Nat):=by
   rw[wr (by omega) (by omega)];omega
  rw[e7,wr (n:=(m:Int)-1) (by omega) (by omega)];refine(ih _ (by omega) (.hold _ rfl (hx.qy _ hy) hlk (by simp only;omega) (by simp only;omega) hr)).mono fun r h=>⟨h.1, ?_⟩;rw[h.2,EE];simp only[if_true];omega
theorem alt_L3(k:qe)(i:Int)(parts:Sl ql)(b:qf)(hx:WF k.x)(hl:ku k.x)(g0:0<=k.g)(g1:k.g+qK (k.x.qy.l.map sx)<=g)(hg:g<=1000000000)(nW:H5 g i k.rest)
  (go: ∀y∈k.x.qy.l,∀(q:Int) c,0<=q->q+sx y<=g->nj s n c->c.fuel<=b.fuel->H6 s n g (some (qe.mk (0:Int) y q (0:Int) (0:Int) k.rest)) i parts c):
  ∀(r:List qE)(m:Nat)(q:Int)(c:qf),k.x.qy.l.drop m=r->k.g<=q->q+qK (r.map sx)<=g->nj s n c->rJ b c->
   qG (k8 (some k,i,parts,q,(m:Int),c)) (fun r=>match r with| .inl v=>Na s n g i b v| .inr d=>nj s n d/\rJ b d):=by
 have mE:=dB k.x;unfold ku at hl;intro r;induction r with
 |nil=>
  intro m q c hm h0 h1 hc hbc;rw[k8.eq_1];have:= @vH;exact tW
 |cons y r ih=>
  intro m q c hm h0 h1 hc hbc;obtain⟨a1,a2,a3,a4⟩:=wv hm;simp only[List.map_cons,qK]at h1;rw[k8.eq_1];refine .go rfl ?_;rw[if_pos (by simpa using a1),i9 (by omega) a1];refine .go a2 ?_;refine .bind (go y a4 q c (by omega) (by omega) hc hbc.fuel) fun v hv=>?_;refine .ite (fun _=> .ret (hv.mono (Int.le_refl _) hbc)) fun _=>?_;refine .go (fQ y (bP (by unfold ku;omega) a4)) ?_;rw[wr (n:=q+(sx y:Int)) (by omega) (by omega)];exact ih (m+1) _ _ a3 (by omega) (by omega) hv.run (hbc.trans hv.eO)
theorem on_tot: ∀(f w:Nat)(k:Option qe)(i:Int)(parts:Sl ql)(b:qf),b.fuel.toNat=f->kWO k=w->VU s n g k i parts b->H6 s n g k i parts b:=by
 intro f;induction f using Nat.strongRecOn with
 |_ f ihf=>
 intro w;induction w using Nat.strongRecOn with
 |_ w ihw=>
 intro k i parts b hf hw h;have go: ∀k i parts c,VU s n g k i parts c->c.fuel.toNat<b.fuel.toNat->H6 s n g k i parts c:=fun k i p c h1 h2=>ihf _ (by omega) _ k i p c rfl rfl h1;have YB: ∀k i parts c,VU s n g k i parts c->c.fuel<=b.fuel->kWO k<w->H6 s n g k i parts c:=by
  intro k' i p c h1 h2 h3;have:=h1.run.fuel;by_cases h4:c.fuel.toNat=f
  ·exact ihw _ h3 k' i p c h4 rfl h1
  exact ihf _ (by omega) _ k' i p c rfl rfl h1
 have hg:=h.g;have hn:=h.run.hn;cases hk:k with
 |none=>
  unfold H6;rw[qV.eq_1,if_pos (by simp)];exact .ret ⟨h.run,.refl b,fun _=>⟨Int.le_refl _,h.i1,h.p⟩⟩
 |some k=>
  rw[hk]at h hw;rw[EE]at hw;cases h.k with
  |Zz _ h1 g0 g1 f0 f1 nW=>
   unfold H6;rw[qV.eq_1,if_neg (by simp)];refine .go rfl ?_;rw[if_pos (by simp[h1])];refine .zm (VI h.p.len hg) ?_;have i1:=h.i1;refine .bind (XN h.run f0 (by omega)) fun x hx=>?_;refine .bind (XN h.run h.i0 h.i1) fun y hy=>?_;refine .bind (qG.get g0 (by have:=h.p.len;omega)) fun z _=>?_;rw[if_neg (by omega)]at hw;refine pQ (YB k.rest i _ b ⟨h.i0,h.i1,nW,h.p.set _ (.inr ⟨hx.2.1, ?_,hy.2.2⟩) false,h.run,hg⟩ (Int.le_refl _) (by omega));exact Zl h.run.mono hx.1 hy.1 (by omega)
  |again _ h1 hx hl h7 g0 g1 nW=>
   have rep:qG (jF (some k,i,parts,b)) (Na s n g i b):=
    Kg k i parts b h.i0 h.i1 hx hl h7 g0 g1 nW h.p h.run hg go fun c hc hcf=>YB k.rest i parts c ⟨h.i0,h.i1,nW,h.p,hc,hg⟩ hcf (by rw[if_neg (by omega)]at hw;omega)
   unfold H6;rw[qV.eq_1,if_neg (by simp)];refine .go rfl ?_;rw[if_neg (by simp[h1]),if_pos (by simp[h1])];refine .ite (fun _=>qG.ite (fun _=> .ret (.fail h.run)) fun _=>pQ rep) fun _=>pQ rep
  |hold _ h1 hx hl g0 g1 nW=>
   rw[if_pos h1]at hw;have UB:=Ki k.x;have hwx:=vS k.x;by_cases k0:k.x.kind=0
   ·rw[if_neg (by omega)]at UB;unfold H6;rw[qV.eq_1,if_neg (by simp)];refine .go rfl ?_;rw[if_neg (by simp[h1]),if_neg (by simp[h1]),if_pos (by simp[k0])];refine .go (fQ k.x hl) ?_;have mE:=dB k.x;unfold ku at hl;have h2:=seq_L1 k i parts b hx (by unfold ku;omega) g0 (by omega) hg k.x.qy.l.length k.rest (xJ _) nW;rw[List.take_length]at h2;rw[wr (n:=k.g+(sx k.x:Int)) (by omega) (by omega),wr (n:=(k.x.qy.l.length:Int)-1) (by omega) (by omega)];rw[show k.g+(sx k.x:Int)=k.g+((qK (k.x.qy.l.map sx):Nat):Int) by omega];refine .bind h2 fun v hv=>?_;exact pQ (YB v i parts b ⟨h.i0,h.i1,hv.1,h.p,h.run,hg⟩ (Int.le_refl _) (by omega))
   by_cases k1:k.x.kind=1
   ·rw[if_neg (by omega)]at UB;unfold H6;rw[qV.eq_1,if_neg (by simp)];refine .go rfl ?_;rw[if_neg (by simp[h1]),if_neg (by simp[h1]),if_neg (by simp[k0]),if_pos (by simp[k1])];refine .bind (alt_L3 (s:=s) (n:=n) k i parts b hx hl g0 (by omega) hg nW ?_ k.x.qy.l 0 k.g b rfl (Int.le_refl _) (by omega) h.run (.refl b)) fun v hv=>?_
    ·intro y hy q c q0 q1 hc hcf;have:=RG hy;refine YB _ i parts c ⟨h.i0,h.i1,.hold _ rfl (hx.qy y hy) (bP hl hy) q0 q1 nW,h.p,hc,hg⟩ hcf ?_;rw[EE];simp only[if_true];omega
    rcases v with v|v
    ·exact .ret hv
    exact .ret ⟨hv.1,hv.2,by simp⟩
   by_cases k7:k.x.kind=7
   ·unfold H6;rw[qV.eq_1,if_neg (by simp)];refine .go rfl ?_;rw[if_neg (by simp[h1]),if_neg (by simp[h1]),if_neg (by simp[k0]),if_neg (by simp[k1]),if_pos (by simp[k7])];refine pQ (Kg _ i parts b h.i0 h.i1 hx hl k7 g0 g1 nW h.p h.run hg go fun c hc hcf=>?_);exact YB k.rest i parts c ⟨h.i0,h.i1,nW,h.p,hc,hg⟩ hcf (by have:=eF k.x;omega)
   exact JI k i parts b h h1 ⟨k0,k1,k7⟩ go
end
theorem splitL(s:qa): ∀(r:qa)(k f:Nat)(l out:List qa),s.drop k=r->k<=s.length->s.length<=1048576->(∀ c∈l,c.length<=s.length)->zy (s,(f:Int),(k:Int),l)=some out-> ∀c∈out,c.length<=s.length:=by
 intro r;induction r with
 |nil=>
  intro k f l out hk mE hs hl h;have h1:=wU hk;obtain rfl:k=s.length:=by omega
  rw[zy.eq_1]at h;simp only[Int.le_refl,decide_true,if_true,beq_self_eq_true,xe,Option.bind_eq_some_iff]at h;obtain⟨r,hr,h⟩:=h;split at h
  ·rw[zy.eq_1,if_neg (by rw[wr (by omega) (by omega)];simp;omega)]at h;cases h;intro c hc;rcases List.mem_append.1 hc with hc|hc
   ·exact hl c hc
   simp only[List.mem_singleton]at hc;subst hc;rw[<- QJ hr];simp
  cases h
 |cons b r ih=>
  intro k f l out hk mE hs hl h;obtain⟨a1,a2,a3,_⟩:=wv hk;have h1:((k:Int)<=(s.length:Int)):=by omega
  have h2:((k:Int)==(s.length:Int))=false:=by simp;omega
  rw[zy.eq_1]at h;simp only[h1,decide_true,if_true,h2,w9,if_false,a2,xe,z7,XJ,i9 (by omega) a1]at h;split at h
  ·rw[Option.bind_eq_some_iff]at h;obtain⟨r1,hr,h⟩:=h;split at h
   ·refine ih (k+1) k _ out a3 (by omega) hs ?_ h;intro c hc;rcases List.mem_append.1 hc with hc|hc
    ·exact hl c hc
    simp only[List.mem_singleton]at hc;subst hc;rw[<- QJ hr];simp;omega
   cases h
  exact ih (k+1) f l out a3 (by omega) hs hl h
theorem Cp(s:qa)(hs:s.length<=1048576): ∀(r:qa)(k:Nat)(l:List Int),s.drop k=r->k<=s.length->l.length<=k->l.Pairwise (· < ·)->(∀ x∈l,0<=x/\x<k)->
  ∃out,xX (s,(k:Int),l)=some out/\out.length=l.length+r.countP ZP+1/\out.Pairwise (· < ·)/\ ∀x∈out,0<=x/\x<=s.length:=by
 have Kh: ∀n,n<=1099511627777->qg n 8=true:=by
  intro n hn;simp only[qg,zB,decide_eq_true_eq];omega
 have Ui: ∀(l:List Int)(k:Nat),l.Pairwise (· < ·)->(∀ x∈l,0<=x/\x<(k:Int))->(l++[(k:Int)]).Pairwise (· < ·):=by
  intro l k h1 h2;refine List.pairwise_append.2 ⟨h1,by simp,fun a ha b hb=>?_⟩;simp only[List.mem_singleton]at hb;subst hb;exact(h2 a ha).2
 intro r;induction r with
 |nil=>
  intro k l hk mE SQ hp hr;have h1:=wU hk;obtain rfl:k=s.length:=by omega
  rw[xX.eq_1];simp only[Int.le_refl,decide_true,if_true,beq_self_eq_true,Kh _ (show l.length+1<=_ by omega)];rw[xX.eq_1,if_neg (by rw[wr (by omega) (by omega)];simp;omega)];refine⟨_,rfl,by simp,Ui l _ hp hr, ?_⟩;intro x hx;rcases List.mem_append.1 hx with hx|hx
  ·have:=hr x hx;omega
  simp only[List.mem_singleton]at hx;omega
 |cons b r ih=>
  intro k l hk mE SQ hp hr;obtain⟨a1,a2,a3,_⟩:=wv hk;have h1:((k:Int)<=(s.length:Int)):=by omega
  have h2:((k:Int)==(s.length:Int))=false:=by simp;omega
  rw[xX.eq_1];simp only[h1,decide_true,if_true,h2,w9,if_false,a2,xe,z7,XJ,i9 (by omega) a1];cases hb:ZP b
  ·obtain⟨out,o1,o2,o3⟩:=ih (k+1) l a3 (by omega) (by omega) hp (fun x hx=>by have:=hr x hx;omega);exact⟨out,by simpa using o1,by rw[o2];simp[List.countP_cons,hb],o3⟩
  obtain⟨out,o1,o2,o3⟩:=ih (k+1) (l++[(k:Int)]) a3 (by omega) (by simp;omega) (Ui l k hp hr) (fun x hx=>by
   rcases List.mem_append.1 hx with hx|hx
   ·have:=hr x hx;omega
   simp only[List.mem_singleton]at hx;omega)
  refine⟨out, ?_,by rw[o2];simp[List.countP_cons,hb];omega,o3⟩;simp only[if_true,Kh _ (show l.length+1<=_ by omega),o1]
theorem VO(fold:Bool)(s:qa)(hs:s.length<=1048576)(fuel:Int):qG (ph fold s fuel) (fun b=> ∃n,nj s n b):=by
 have hfu:0<=(if (20000:Int)<(if (0:Int)>fuel then(0:Int)else fuel)then(20000:Int)else(if (0:Int)>fuel then(0:Int)else fuel))/\(if (20000:Int)<(if (0:Int)>fuel then(0:Int)else fuel)then(20000:Int)else(if (0:Int)>fuel then(0:Int)else fuel))<=20000:=by
  constructor<;>(repeat' split)<;>omega
 unfold ph;by_cases h0:s.length=0
 ·have:s=[]:=by simpa using h0
  subst this;refine .go (a:=(⟨true,[]⟩:Sl qa)) (by unfold vX;rw[zy.eq_1];simp) ?_;refine .go (a:=(⟨false,[0]⟩:Sl Int)) (by unfold pS;rw[xX.eq_1];simp) ?_;exact .ret ⟨0,⟨by simp,rfl,by simp,rfl,by simp,by simp,hfu,by omega⟩⟩
 obtain⟨o1,p1,p2⟩:=Bq s (by omega) (s.drop 1) 1 0 [] rfl (by omega) (by omega) (by simp);have p3:=splitL s (s.drop 1) 1 0 [] o1 rfl (by omega) hs (by simp) p1;obtain⟨o2,q1,q2,q3,q4⟩:=Cp s hs (s.drop 1) 1 [0] rfl (by omega) (by simp) (by simp) (by simp);have hc:(s.drop 1).countP ZP<=s.length-1:=by have:=List.countP_le_length (p:=ZP) (l:=s.drop 1);simp only[List.length_drop]at this;exact this
 refine .go (a:=(⟨o1.isEmpty,o1⟩:Sl qa)) (by unfold vX;exact Option.bind_eq_some_iff.2 ⟨o1,p1,rfl⟩) ?_;refine .go (a:=(⟨false,o2⟩:Sl Int)) (by unfold pS;exact Option.bind_eq_some_iff.2 ⟨o2,q1,rfl⟩) ?_;refine .ret ⟨o1.length,⟨hs,rfl,p3, ?_,q3,q4,hfu, ?_⟩⟩
 ·exact tW
 simp only[List.length_nil]at p2;omega
structure o7 (s:qa) (n g:Nat) (b:qf) (i:Int) (m:qh):Prop where
 ex: ∃j e:Nat,i<=j/\j<=e/\e<=n/\b.kZ.l[j]? =some m.span.qO/\b.kZ.l[e]? =some m.span.to
 parts:nH s g m.parts
section
variable {s:qa} {n:Nat}
theorem Ig(i:Int)(b:qf)(x:qE)(t:qh)(hl:ku x)(hg:sx x<=1000000000): ∀(m:Nat)(j:Int)(l:List ql),m=(sx x-j).toNat->0<=j->j<=sx x->(l.length:Int)=j->(∀ y∈l,VY s y)->
  qG (yX (i,j,b,x,t,l)) (fun r=>r.length=sx x/\ ∀y∈r,VY s y):=by
 intro m;induction m using Nat.strongRecOn with
 |_ m ih=>
 intro j l hm h0 h1 hlen NZ;rw[yX.eq_1];refine .go (fQ x hl) ?_;refine .tI ?_ ?_<;>intro hT
 ·refine .zm (by simp only[qg,zB,decide_eq_true_eq];omega) ?_;rw[wr (n:=j+1) (by omega) (by omega)];refine ih _ (by omega) (j+1) _ rfl (by omega) (by omega) (by simp;omega) ?_;intro y hy;rcases List.mem_append.1 hy with hy|hy
  ·exact NZ y hy
  simp only[List.mem_singleton]at hy;subst hy;exact .inl rfl
 exact .ret ⟨by omega,NZ⟩
theorem Ag(x:qE)(hx:WF x)(hl:tn x<=1000000000)(i:Int)(h0:0<=i)(h1:i<=n)(b:qf)(hb:nj s n b):
  qG (pV x i b) (fun r=>nj s n r.2.2/\rJ b r.2.2/\(r.2.1=true->o7 s n (sx x) b i r.1)):=by
 have hgl:=Pk x;have hli:ku x:=by unfold ku;omega
 unfold pV;refine .bind (Ig (s:=s) i b x _ hli (by omega) _ 0 [] rfl (by omega) (by omega) rfl (by simp)) fun v hv=>?_;refine .bind (on_tot (s:=s) (n:=n) (g:=sx x) _ _ _ i _ b rfl rfl ⟨h0,h1,.hold _ rfl hx hli (by simp only;omega) (by simp only;omega) .none,⟨hv.1,hv.2⟩,hb,by omega⟩) fun w hw=>?_;refine .ite (fun _=> .ret ⟨hw.run,hw.eO,by simp⟩) fun hc=>?_;have JM:=hw.ok (by simpa using hc);refine .bind (XN hw.run h0 h1) fun y hy=>?_;refine .bind (XN hw.run (by omega) JM.2.1) fun z hz=>?_;refine .ret ⟨hw.run,hw.eO,fun _=>⟨⟨i.toNat,w.1.toNat,by omega,by omega,by omega, ?_, ?_⟩,JM.2.2⟩⟩
 ·rw[<- hw.eO.kZ];exact hy.1
 rw[<- hw.eO.kZ];exact hz.1
theorem o7.mono{g:Nat}{b c:qf}{i j:Int}{m:qh}(h:o7 s n g c j m)(DJ:i<=j)(hl:rJ b c):o7 s n g b i m:=by
 obtain⟨⟨p,e,h1,h2,h3,h4,h5⟩,h6⟩:=h;exact⟨⟨p,e,by omega,h2,h3,by rw[<- hl.kZ];exact h4,by rw[<- hl.kZ];exact h5⟩,h6⟩
theorem SD(x:qE)(hx:WF x)(hl:tn x<=1000000000)(t:qh): ∀(m:Nat)(i:Int)(b:qf),m=(n+1-i).toNat->0<=i->nj s n b->
  qG (wZ (i,b,x,t)) (fun r=>match r with| .inl v=>nj s n v.2.1/\rJ b v.2.1/\(v.1=true->o7 s n (sx x) b i v.2.2)| .inr c=>nj s n c/\rJ b c):=by
 intro m;induction m using Nat.strongRecOn with
 |_ m ih=>
 intro i b hm h0 hb;have ho:=hb.kZ;have hn:=hb.hn;rw[wZ.eq_1];refine .tI ?_ ?_<;>intro hT
 ·refine .bind (Ag x hx hl i h0 (by omega) b hb) fun v hv=>?_;refine .ite (fun _=> .ret hv) fun _=>?_;rw[wr (n:=i+1) (by omega) (by omega)];refine(ih _ (by omega) (i+1) v.2.2 rfl (by omega) hv.1).mono fun r hr=>?_;rcases r with r|r
  ·exact⟨hr.1,hv.2.1.trans hr.2.1,fun h=>(hr.2.2 h).mono (by omega) hv.2.1⟩
  exact⟨hr.1,hv.2.1.trans hr.2⟩
 exact .ret ⟨hb,.refl b⟩
theorem Jv(x:qE)(hx:WF x)(hl:tn x<=1000000000)(i:Int)(h0:0<=i)(b:qf)(hb:nj s n b):
  qG (uV x i b) (fun r=>nj s n r.2.2/\rJ b r.2.2/\(r.2.1=true->o7 s n (sx x) b i r.1)):=by
 unfold uV;have:= @SD;exact tW
theorem ZU(a:Int)(b:qf)(hb:nj s n b):qG (yZ a b) (fun r=> -1<=r/\ ∀e:Nat,b.kZ.l[e]? =some a->r=e):=by
 have ho:=hb.kZ;have hn:=hb.hn;have key: ∀(r:List Int)(k:Nat),b.kZ.l.drop k=r->qG (ke (a,(k:Int),b)) (fun v=>match v with| .inl i=> ∃j:Nat,i=j/\b.kZ.l[j]? =some a| .inr _=> ∀e:Nat,k<=e->b.kZ.l[e]? ≠some a):=by
  intro r;induction r with
  |nil=>
   intro k hk;rw[ke.eq_1,if_neg (by simpa using vH hk)];refine .ret fun e he=>?_;rw[List.getElem?_eq_none (by have:=wU hk;omega)];simp
  |cons y r ih=>
   intro k hk;obtain⟨a1,a2,a3,a4⟩:=wv hk;obtain⟨b1,b2,b3⟩:=drop_cons hk;rw[ke.eq_1,if_pos (by simpa using a1),i9 (by omega) a1];exact tW
 unfold yZ;refine .bind (key b.kZ.l 0 rfl) fun v hv=>?_;rcases v with v|v
 ·obtain⟨j,rfl,hj⟩:=hv;refine .ret ⟨by omega,fun e he=>?_⟩;have h1: ¬j<e:=fun h=>by have:=My hb.mono hj he h;omega
  have h2: ¬e<j:=fun h=>by have:=My hb.mono he hj h;omega
  omega
 exact .ret ⟨by omega,fun e he=>absurd he (hv e (Nat.zero_le e))⟩
def Ms(s:qa)(g:Nat):Int->List qh->Prop
 |lo,[]=>0<=lo/\lo<=s.length
 |lo,m::r=>0<=lo/\lo<=m.span.qO/\m.span.qO<=m.span.to/\nH s g m.parts/\Ms s g m.span.to r
def SO:Int->List qh->Int
 |lo,[]=>lo
 |_,m::r=>SO m.span.to r
theorem Ms.lo{g:Nat}: ∀{l:List qh}{lo:Int},Ms s g lo l->0<=lo/\lo<=s.length
 |[],lo,h=>h
 |m::r,lo,h=>by
  have:=Ms.lo h.2.2.2.2;have h1:=h.1;have h2:=h.2.1;have h3:=h.2.2.1;omega
theorem Z6: ∀(l:List qh)(lo:Int)(m:qh),SO lo (l++[m])=m.span.to
 |[],_,_=>rfl
 |_::r,_,m=>Z6 r _ m
theorem Ms.Ui{g:Nat}: ∀{l:List qh}{lo:Int}{m:qh},Ms s g lo l->SO lo l<=m.span.qO->m.span.qO<=m.span.to->m.span.to<=s.length->nH s g m.parts->Ms s g lo (l++[m])
 |[],lo,m,h,h1,h2,h3,h4=>by
  have:=h.1;exact⟨h.1,h1,h2,h4,by simp only[SO]at h1;omega,h3⟩
 |x::r,lo,m,h,h1,h2,h3,h4=>⟨h.1,h.2.1,h.2.2.1,h.2.2.2.1,Ms.Ui h.2.2.2.2 h1 h2 h3 h4⟩
theorem Aa(x:qE)(hx:WF x)(hl:tn x<=1000000000): ∀(m:Nat)(i:Int)(b:qf)(out:List qh),m=(n+1-i).toNat->0<=i->i<=n+1->(out.length:Int)<=i->nj s n b->Ms s (sx x) 0 out->(∀ a,b.kZ.l[i.toNat]? =some a->SO 0 out<=a)->
  qG (gM (i,x,b,out)) (fun r=>match r with| .inl v=>v.2.2.1≠0/\v.1.l=[]| .inr v=>Ms s (sx x) 0 v.2/\v.2.length<=n+1):=by
 intro m;induction m using Nat.strongRecOn with
 |_ m ih=>
 intro i b out hm h0 hi1 hlen hb hM hhi;have ho:=hb.kZ;have hn:=hb.hn;rw[gM.eq_1];refine .tI ?_ ?_<;>intro hT
 ·have hi:=hT;refine .bind (Jv x hx hl i h0 b hb) fun v hv=>?_;refine .tI ?_ ?_<;>intro hT
  ·exact .ret ⟨by simp,rfl⟩
  refine .tI ?_ ?_<;>intro hT
  ·exact .ret ⟨hM,by simp only;omega⟩
  obtain⟨⟨j,e,g1,g2,g3,g4,g5⟩,g6⟩:=hv.2.2 hT;refine .zm (by simp only[qg,zB,decide_eq_true_eq];omega) ?_;refine .bind (ZU v.1.span.to v.2.2 hv.1) fun w hw=>?_;have hwe:w=e:=hw.2 e (by rw[hv.2.1.kZ];exact g5);have hlow:SO 0 out<=v.1.span.qO:=by
   obtain⟨a,ha⟩: ∃a,b.kZ.l[i.toNat]? =some a:=⟨_,kU (by omega)⟩;have h1:=hhi a ha;have h2:=Zl hb.mono ha g4 (by omega);omega
  have hft:=Zl hb.mono g4 g5 g2;have hto:=(hb.QN _ (qX g5)).2;have hM2:=hM.Ui hlow hft hto g6;have cC:=hv.2.1.kZ;refine .tI ?_ ?_<;>intro hT
  ·rw[wr (n:=w+1) (by omega) (by omega)];refine ih _ (by omega) (w+1) v.2.2 _ rfl (by omega) (by omega) (by simp;omega) hv.1 hM2 ?_;intro a ha;rw[Z6];rw[cC]at ha;exact Zl hb.mono g5 ha (by omega)
  have jv:=hT;have hje:j<e:=by
   rcases Nat.eq_or_lt_of_le g2 with rfl|h
   ·exact absurd (Option.some.inj (g4.symm.trans g5)) jv
   exact h
  refine ih _ (by omega) w v.2.2 _ rfl (by omega) (by omega) (by simp;omega) hv.1 hM2 ?_;intro a ha;rw[Z6];rw[cC]at ha;exact Zl hb.mono g5 ha (by omega)
 exact .ret ⟨hM,by simp only;omega⟩
end
theorem RV(x:qE)(hl:tn x<=1000000000)(fold:Bool)(s:qa)(hs:s.length<=1048576)(fuel:Int):qG (au x fold s fuel) (fun r=>r.2.2=0->Ms s (sx x) 0 r.1.l/\r.1.l.length<=1048577):=by
 unfold au;refine .bind (QP x (by unfold ku;omega)) fun v hv=>?_;refine .tI ?_ ?_<;>intro hT
 ·exact .ret (by simp)
 have hx:=hv hT;refine .bind (VO fold s hs fuel) fun b hb=>?_;obtain⟨n,hb⟩:=hb;refine .bind (Aa (s:=s) (n:=n) x hx hl _ 0 b [] rfl (by omega) (by omega) (by simp) hb ⟨by omega,by omega⟩ (fun a ha=>(hb.QN a (qX ha)).1)) fun w hw=>?_;rcases w with w|w
 ·exact .ret fun h=>absurd h hw.1
 exact .ret fun _=>⟨hw.1,by have:=hb.hn;have:=hw.2;simp only;omega⟩
theorem N4(x:qE)(hl:tn x<=1000000000)(fold:Bool)(s:qa)(hs:s.length<=1048576)(a fuel:Int):qG (cT x fold s a fuel) (fun r=>r.2.2.1=true->Ms s (sx x) 0 [r.1]):=by
 unfold cT;refine .bind (QP x (by unfold ku;omega)) fun v hv=>?_;refine .tI ?_ ?_<;>intro hT
 ·exact .ret (by simp)
 have hx:=hv hT;refine .bind (VO fold s hs fuel) fun b hb=>?_;obtain⟨n,hb⟩:=hb;refine .bind (ZU a b hb) fun w hw=>?_;refine .tI ?_ ?_<;>intro hT
 ·exact .ret (by simp)
 refine .bind (Jv x hx hl w (by omega) b hb) fun y hy=>?_;refine .bind (P:=fun r=>r.2.2.1=true->y.2.1=true/\r.1=y.1) ?_ fun z hz=>?_
 ·exact tW
 refine .ret fun h=>?_;obtain⟨z1,z2⟩:=hz h;obtain⟨⟨j,e,g1,g2,g3,g4,g5⟩,g6⟩:=hy.2.2 z1;simp only[z2];have h1:=hb.QN _ (qX g4);have h2:=hb.QN _ (qX g5);exact⟨by omega,h1.1,Zl hb.mono g4 g5 g2,g6,h2⟩
end Go.Proofs.YtmllebdamdnhoaaGreat
