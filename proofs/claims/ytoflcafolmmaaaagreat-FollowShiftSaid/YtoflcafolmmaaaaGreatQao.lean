/-
  A snippet's parts are kept: it ends, and they are as they should be.
-/
import Derived.Test.YtoflcafolmmaaaaGreatQan
open Bool renaming or_eq_true->g!,not_eq_true'->w_,or_assoc->q1g
open Go.IntKind renaming i64->q?
open Go.Proofs.YtoflcafolmmaaaaGreat.qJ renaming ite->C!
open Int renaming toNat_natCast->c?
open List renaming length_cons->g?,mem_append->m?,getElem?_append_left->p?,length_append->t?,map_cons->s?,mem_singleton->d?,getElem?_cons_zero->a?,length_nil->e?,getElem?_map->X?,getElem?_append_right->J?,mem_of_mem_take->W?,getElem?_take_of_lt->Y?,mem_cons->U?,nil_append->F?,length_pos_iff->q!,nodup_append->x!,length_singleton->k!,sum_cons->v!,pairwise_iff_getElem->b!,mem_or_eq_of_mem_set->l!,pairwise_cons->J!,filter_cons->T!,countP_cons->O!,drop_eq_getElem_cons->z_,length_take->W_,mem_filter->P_,drop_of_length_le->E_,filter_append->L',drop_zero->q19,any_cons->q1f
open Nat renaming add_mul->M?,add_zero->D?,zero_add->A?,mul_le_mul->x_
set_option linter.unusedSimpArgs false
set_option linter.unusedVariables false
set_option maxHeartbeats 1000000
namespace Go.Proofs.YtoflcafolmmaaaaGreat
open Go Go.Gm
namespace Xr
theorem lies_eq(s:qn)(l:Sl qn)(hL:l.l.length<2^60):gK s l=some (l.l.any fun p=>decide (xl s p)):=by unfold gK;rw[show (0:Int)=((0:Nat):Int)from rfl,SL s l hL l.l 0 rfl];exact tW
theorem WQ{s:qb}(hs:xD s)(n:Int):(gu n s.insts.l).length<=2^24:=by
 have h1:=ZX hs.2;have h2:s.insts.l.length*2^12<=2^12*2^12:=x_ hs.1 (jv _);have h3: ∀is:List qk,(gu n is).length<=many is:=by intro is;induction is with|nil=>simp[gu,many]|cons i is ih=>have:=Uc n i.stops.l;simp only[gu,many,List.flatMap_cons,t?,s?,v!]at*;omega
 have:=h3 s.insts.l;omega
structure SS (n:Int) (ss:List qb):Prop where
 di:ss.length<=16
 small: ∀s∈ss,xD s
 may: ∀s∈ss,mC s.insts.l n
 stop: ∀s∈ss,∀ i∈s.insts.l,∀ x∈i.stops.l,bI x
theorem mC.filter{is:List qk}{n:Int}(h:mC is n)(p:qk->Bool):mC (is.filter p) n:=by
 have hp:is.Pairwise fun i j=>i.span.to<=j.span.qI:=by rw[b!];intro a b ha hb eR;exact h.Rj a b _ _ eR (wx ha) (wx hb)
 have hf:=hp.sublist (List.filter_sublist (l:=is) (p:=p));constructor;intro a i hi;obtain⟨b,hb⟩:=kh (P_.1 (z7 hi)).1;exact h.may b i hb;intro a b i j eR hi hj;have ha:=(qF hi).1;have hb:=(qF hj).1;have:=b!.1 hf a b ha hb eR;exact tW
def WV(ss:List qb)(i:Nat)(x:qk):Bool:=if i=0 then true else match ss[i-1]? with
 |some p=>(gu p.cur p.insts.l).any fun q=>decide (xl x.span q)
 |none=>false
theorem Oq(w:qa)(w2:Sl qy)(ss:List qb)(fl:Sl (Sl (Sl Int)))(hs: ∀s∈ss,xD s)(Ed:ss.length<=16)(i:Nat)(hi:i<ss.length)(s:qb)(Lc:xD s): ∀(r:List qk)(a:Nat)(is:List qk),s.insts.l.drop a=r->is.length<=a->
  xy ((i:Int),(a:Int),w,w2,ss,fl,s,is)=some (is++r.filter (WV ss i)):=by intro r;have nH:=Lc.1;induction r with|nil=>intro a is h _;have:=qW h;rw[xy.eq_1,if_neg v?];simp|cons x r ih=>intro a is h ho;obtain⟨h1,h2,h3⟩:=zl h;rw[xy.eq_1,if_pos v?,ws (k:=a) o?];have e1:=ih (a+1) (is++[x]) h2 v?;have e2:=ih (a+1) is h2 o?;by_cases c:i=0;subst c;rw[if_pos z?,gi h1];simp only[zJ,qS];rw[if_pos qA,e1];simp[T!,WV];(obtain⟨p,hp⟩:=gl (l:=ss) (k:=i-1) o?;have Fh:=hs p (z7 hp);rw[if_neg v?,gi h1];simp only[zJ,qS];rw[show q?.wrap ((i:Int)-1)=((i-1:Nat):Int)from by rw[qG o? o?];omega,gi hp];simp only[qS];rw[Xe p.cur p.insts Fh.2 Fh.1];simp only[qS];have hsl:=WQ Fh p.cur;rw[lies_eq _ _ u?];simp only[qS];have Z5:WV ss i x=(gu p.cur p.insts.l).any fun q=>decide (xl x.span q):=by unfold WV;rw[if_neg c,hp]);rw[T!,Z5];cases(gu p.cur p.insts.l).any fun q=>decide (xl x.span q)with|true=>rw[if_pos rfl,if_pos qA,e1];simp|false=>rw[if_neg z?,e2];simp
def GH(k:Nat)(ss:List qb):Prop:= ∀(j:Nat) s,j<k->ss[j]? =some s->s.insts.l≠[]/\gu s.cur s.insts.l≠[]/\(0<j-> ∀p,ss[j-1]? =some p-> ∀x∈s.insts.l,Za x.span (gu p.cur p.insts.l))
def Curs(aD ss:List qb):Prop:=ss.length<=aD.length/\ ∀(j:Nat) s',ss[j]? =some s' -> ∃s,aD[j]? =some s/\s'.cur=s.cur
structure Fin (n:Int) (aD ss:List qb):Prop where
 ok:SS n ss
 closed:GH ss.length ss
 JH:Curs aD ss
theorem Oo(n:Int)(w:qa)(w2:Sl qy)(fl:Sl (Sl (Sl Int)))(aD:List qb): ∀(d i:Nat)(ss:List qb),i+d=ss.length->SS n ss->GH i ss->Curs aD ss->
  qJ (jB ((i:Int),w,w2,ss,fl)) (fun v=>match v with| .inl y=>Fin n aD y.2| .inr y=>Fin n aD y):=by
 intro d;induction d with
  |zero=>intro i ss h H hc UY;rw[jB.eq_1,if_neg v?];obtain rfl:i=ss.length:=o?;exact .ret ⟨H,hc,UY⟩
  |succ d ih=>
   (intro i ss h H hc UY;have Ed:=H.di;obtain⟨s,hs⟩:=gl (l:=ss) (k:=i) o?;have sx:=z7 hs;have dF:=H.small s sx;rw[jB.eq_1,if_pos v?,ws (k:=i) o?];refine .go (gi hs) ?_;have e2:=Oq w w2 ss fl H.small Ed i o? s dF s.insts.l 0 [] rfl z?;rw[F?,show((0:Nat):Int)=0 from rfl]at e2;refine .go e2 ?_;generalize hF:s.insts.l.filter (WV ss i)=F;have hFs: ∀x∈F,x∈s.insts.l/\WV ss i x=true:=fun x hx=>by rw[<- hF]at hx;exact P_.1 hx);(have hFl:F.length<=s.insts.l.length:=by rw[<- hF];exact List.length_filter_le _ _);have hsmF:xD ⟨s.cur,⟨F.isEmpty,F⟩⟩:=⟨by have:=dF.1;simp only;omega,fun x hx=>dF.2 x (hFs x hx).1⟩;refine .go (Xe s.cur ⟨F.isEmpty,F⟩ hsmF.2 hsmF.1) ?_;by_cases ce:gu s.cur F=[];(rw[if_pos (by simp[ce])];refine .go (JI _ _ o?) ?_;have tk: ∀(j:Nat) x,(ss.take i)[j]? =some x->j<i/\ss[j]? =some x:=fun j x hx=>by have:=(qF hx).1;simp at this;rw[Y? o?]at hx;exact⟨o?,hx⟩);refine .ret ⟨⟨v?,fun s hs=>H.small s (W? hs),fun s hs=>H.may s (W? hs),fun s hs=>H.stop s (W? hs)⟩, ?_,⟨by have:=UY.1;simp;omega,fun j x hx=>UY.2 j x (tk j x hx).2⟩⟩;intro j x hj hx;obtain⟨k1,k2⟩:=tk j x hx;obtain⟨q1,q2,q3⟩:=hc j x k1 k2;exact⟨q1,q2,fun hj0 p hp=>q3 hj0 p (tk (j-1) p hp).2⟩;(rw[if_neg (by simpa using ce),c?];have jx:F≠[]:=fun c=>ce (by rw[c];rfl);have qo: ∀(j:Nat) x,(ss.set i ⟨s.cur,⟨F.isEmpty,F⟩⟩)[j]? =some x->(j=i/\x=⟨s.cur,⟨F.isEmpty,F⟩⟩)\/(j≠i/\ss[j]? =some x):=fun j x hx=>by rw[zm]at hx;split at hx;rename_i c;cases hx;exact .inl ⟨c.1.symm,rfl⟩;rename_i c;refine .inr ⟨fun c2=>c ⟨c2.symm,o?⟩,hx⟩);refine ih (i+1) _ v? ⟨v?, ?_, ?_, ?_⟩ ?_ ⟨by have:=UY.1;simp;omega, ?_⟩;intro x hx;rcases l! hx with hx|rfl;exact H.small x hx;exact hsmF;intro x hx;rcases l! hx with hx|rfl;exact H.may x hx;show mC F n;rw[<- hF];exact(H.may s sx).filter _;intro x hx;rcases l! hx with hx|rfl;exact H.stop x hx;exact fun y hy=>H.stop s sx y (hFs y hy).1;intro j x hj hx;rcases qo j x hx with ⟨rfl,rfl⟩|⟨hji,hx⟩;refine⟨jx,ce,fun hj0 p hp y hy=>?_⟩;rw[zm,if_neg o?]at hp;have:=(hFs y hy).2;unfold WV at this;rw[if_neg o?,hp]at this;simpa[Za]using this;obtain⟨q1,q2,q3⟩:=hc j x o? hx;refine⟨q1,q2,fun hj0 p hp=>q3 hj0 p ?_⟩;rw[zm,if_neg o?]at hp;exact hp;intro j x hx;rcases qo j x hx with ⟨rfl,rfl⟩|⟨_,hx⟩
   ·exact(by
     obtain⟨s0,k1,k2⟩:=UY.2 j s hs
     exact⟨s0,k1,k2⟩)
   exact UY.2 j x hx
theorem Y6(w:World)(hw:WO w):qJ (vS w.1 w.2.1 w.2.2.1 w.2.2.2) (fun v=>match v with| .inl y=>Fin w.1.length w.2.2.1 y| .inr y=>Fin w.1.length w.2.2.1 y):=by unfold vS;refine .bind (Oo w.1.length w.1 w.2.1 w.2.2.2 w.2.2.1 w.2.2.1.length 0 w.2.2.1 o? ⟨hw.di,hw.small,hw.may,hw.stop⟩ (fun j s hj=>o?) ⟨jv _,fun j s hs=>⟨s,hs,rfl⟩⟩) fun v hv=>?_;rcases v with v|v<;>exact .ret hv
end Xr
namespace Xr
def RZ(l:List qr)(k:Nat):Prop:= ∀(r:Nat) x,r<k->l[r]? =some x-> -1<=x.up/\x.up<r/\ ∀(q:Nat) y,q<r->x.up<q->l[q]? =some y->x.up<=y.up
theorem Lr(l:Sl qr)(b:Nat): ∀a:Nat,a<l.l.length->RZ l.l (a+1)-> ∃t:Bool,bG (l,(a:Int),(b:Int))=some (if t=true then .inl true else .inr ())/\(t=true↔b<a/\ ∀(q:Nat) y,b<q->q<=a->l.l[q]? =some y->(b:Int)<=y.up):=by intro a;induction a using Nat.strongRecOn with|_ a ih=>intro ha hp;obtain⟨x,hx⟩:=gl ha;obtain⟨p1,p2,p3⟩:=hp a x o? hx;rw[bG.eq_1,if_pos v?,gi hx];simp only[zJ,qS];by_cases c0:0<=x.up;obtain⟨u,hu⟩: ∃u:Nat,x.up=u:=⟨x.up.toNat,o?⟩;rw[if_pos (by simpa using c0),if_pos (by simpa using p2)];by_cases c1:x.up=b;rw[if_pos (by simpa using c1)];refine⟨true,rfl,fun _=>⟨o?,fun q y h1 h2 hy=>?_⟩,fun _=>rfl⟩;by_cases c:q=a;subst c;rw[hx]at hy;cases hy;omega;have:=p3 q y o? o? hy;omega;rw[if_neg (by simpa using c1),hu];obtain⟨t,g1,g2⟩:=ih u o? o? (fun r z hr hz=>hp r z o? hz);refine⟨t,g1,g2.trans ⟨fun h=>⟨o?,fun q y h1 h2 hy=>?_⟩,fun h=>?_⟩⟩;by_cases c:q=a;subst c;rw[hx]at hy;cases hy;omega;by_cases c2:q<=u;exact h.2 q y h1 c2 hy;have:=p3 q y o? o? hy;omega;have:=h.2 a x h.1 (jv _) hx;exact⟨o?,fun q y h1 h2 hy=>h.2 q y h1 o? hy⟩;rw[if_neg (by simpa using c0)];refine⟨false,rfl,fun h=>(by cases h),fun h=>?_⟩;have:=h.2 a x h.1 (jv _) hx;omega
theorem in_ok(l:Sl qr)(a b:Nat)(ha:a<l.l.length)(hp:RZ l.l (a+1)): ∃t:Bool,cP l (a:Int) (b:Int)=some t/\(t=true↔b<a/\ ∀(q:Nat) y,b<q->q<=a->l.l[q]? =some y->(b:Int)<=y.up):=by obtain⟨t,h1,h2⟩:=Lr l b a ha hp;refine⟨t, ?_,h2⟩;unfold cP;rw[h1];cases t<;>rfl
def Sibs(l:List qr)(x:qr)(j k:Nat):Prop:= ∀(q:Nat) y,j<=q->q<k->l[q]? =some y->y.up=x.up->y.span.to<=x.span.qI
theorem LQ(i:qk)(x:qr)(b:qn)(k:Nat)(hk:k<=i.stops.l.length)(hl:i.stops.l.length<2^60): ∀(d j:Nat),j+d=k-> ∃t:Bool,jr ((k:Int),(j:Int),i,x,b)=some (if t=true then .inr ()else .inl false)/\(t=true↔Sibs i.stops.l x j k):=by intro d;induction d with|zero=>intro j h;rw[jr.eq_1,if_neg v?];exact⟨true,rfl,fun _ q y h1 h2=>o?,fun _=>rfl⟩|succ d ih=>intro j h;obtain⟨y,hy⟩:=gl (l:=i.stops.l) (k:=j) o?;obtain⟨t,g1,g2⟩:=ih (j+1) o?;rw[jr.eq_1,if_pos v?,gi hy,ws (k:=j) o?];simp only[zJ,qS,g1];by_cases c1:y.up=x.up;by_cases c2:x.span.qI<y.span.to;rw[if_pos (by simpa using c1),if_pos (by simpa using c2)];refine⟨false,rfl,fun h=>(by cases h),fun h=>?_⟩;have:=h j y (jv _) o? hy c1;omega;rw[if_pos (by simpa using c1),if_neg (by simpa using c2)];refine⟨t,rfl,g2.trans ⟨fun h q z h1 h2 hz hu=>?_,fun h q z h1 h2 hz hu=>h q z o? h2 hz hu⟩⟩;by_cases c:q=j;subst c;rw[hy]at hz;cases hz;omega;exact h q z o? h2 hz hu;rw[if_neg (by simpa using c1)];refine⟨t,rfl,g2.trans ⟨fun h q z h1 h2 hz hu=>?_,fun h q z h1 h2 hz hu=>h q z o? h2 hz hu⟩⟩;by_cases c:q=j;subst c;rw[hy]at hz;cases hz;exact absurd hu c1;exact h q z o? h2 hz hu
structure Good (i:qk) (k:Nat) (x:qr):Prop where
 up: -1<=x.up/\x.up<k
 pre: ∀(q:Nat) y,q<k->x.up<q->i.stops.l[q]? =some y->x.up<=y.up
 le:x.span.qI<=x.span.to
 top:x.up= -1->xl x.span i.span
 nest: ∀(p:Nat) y,x.up=p->i.stops.l[p]? =some y->xl x.span y.span
 Md:Sibs i.stops.l x 0 k
theorem Ng(i:qk)(k:Nat)(x:qr)(hx:i.stops.l[k]? =some x)(hl:i.stops.l.length<2^60)(hp:RZ i.stops.l k): ∃t:Bool,xI ((k:Int),i)=(if t=true then xI (((k+1:Nat):Int),i)else some (.inl false))/\(t=true↔Good i k x):=by
 have hk:=(qF hx).1;have tail: ∀(b:qn),∃ t:Bool,(if decide (x.span.qI>x.span.to)=true then some (.inl false)else xz x.span b>>=fun v=>if(!v)=true then some (.inl false)else
   jr ((k:Int),(0:Int),i,x,b)>>=fun v=>match v with
    | .inl y=>some (.inl y)
    | .inr _=>xI (((k+1:Nat):Int),i))=(if t=true then xI (((k+1:Nat):Int),i)else some (.inl false))/\(t=true↔x.span.qI<=x.span.to/\xl x.span b/\Sibs i.stops.l x 0 k):=by
  intro b;by_cases c1:x.span.qI>x.span.to
  ·rw[if_pos (by simpa using c1)];exact⟨false,rfl,fun h=>(by cases h),fun h=>o?⟩
  rw[if_neg (by simpa using c1),iU];simp only[zJ,qS];by_cases c2:xl x.span b
  ·rw[if_neg (by simpa using c2)];obtain⟨t,g1,g2⟩:=LQ i x b k o? hl k 0 o?;rw[show ((0:Nat):Int)=0 from rfl]at g1;rw[g1];refine⟨t, ?_,g2.trans ⟨fun h=>⟨o?,c2,h⟩,fun h=>h.2.2⟩⟩;cases t<;>rfl
  rw[if_pos (by simpa using c2)];exact⟨false,rfl,fun h=>(by cases h),fun h=>absurd h.2.1 c2⟩
 rw[xI.eq_1,if_pos v?,gi hx,ws (k:=k) o?,qG (n:=(k:Int)-1) o? o?];simp only[zJ,qS]at tail |-;by_cases hu:x.up= -1;rw[if_neg (by simp[hu]),if_neg (by simp[hu])];obtain⟨t,g1,g2⟩:=tail i.span;refine⟨t,g1,g2.trans ⟨fun h=>⟨o?,fun q y _ _ hy=>?_,h.1,fun _=>h.2.1,fun p y hpp=>o?,h.2.2⟩,fun h=>⟨h.le,h.top hu,h.Md⟩⟩⟩;have:=(hp q y o? hy).1;omega;rw[if_pos (by simpa using hu)];by_cases hr:0<=x.up/\x.up<k;{(obtain⟨p,hpu⟩: ∃p:Nat,x.up=p:=⟨x.up.toNat,o?⟩;obtain⟨y,hy⟩:=gl (l:=i.stops.l) (k:=p) o?;have hgy:qh i.stops.l x.up=some y:=by rw[hpu];exact gi hy);(rw[if_neg v?];obtain⟨t,g1,g2⟩:=tail y.span;have conv:(x.span.qI<=x.span.to/\xl x.span y.span/\Sibs i.stops.l x 0 k)/\(∀(q:Nat) y,q<k->x.up<q->i.stops.l[q]? =some y->x.up<=y.up)↔Good i k x:=by constructor;rintro⟨⟨a1,a2,a3⟩,a4⟩;refine⟨o?,a4,a1,fun h=>absurd h hu,fun p' y' Sx hy' =>?_,a3⟩;obtain rfl:p=p' :=o?;rw[hy]at hy';cases hy';exact a2;intro h;exact⟨⟨h.le,h.nest p y hpu hy,h.Md⟩,h.pre⟩);by_cases h7:x.up=(k:Int)-1;rw[if_neg (by simp[h7]),if_pos v?,hgy];simp only[qS];exact⟨t,g1,g2.trans ⟨fun h=>conv.1 ⟨h,fun q y _ _=>o?⟩,fun h=>(conv.2 h).1⟩⟩;rw[if_pos (by simpa using h7)];obtain⟨t2,q1,q2⟩:=in_ok i.stops (k-1) p o? (fun r z hr' hz=>hp r z o? hz);rw[show (k:Int)-1=((k-1:Nat):Int) by omega,hpu,q1];simp only[qS];cases t2 with|false=>rw[if_pos z?];refine⟨false,rfl,fun h=>(by cases h),fun h=>?_⟩;have:=q2.2 ⟨o?,fun q z h1 h2 hz=>by have:=h.pre q z o? o? hz;omega⟩;cases this|true=>have q3:=q2.1 rfl;rw[if_neg z?,if_pos z?,<- hpu,hgy];simp only[qS];exact⟨t,g1,g2.trans ⟨fun h=>conv.1 ⟨h,fun q z h1 h2 hz=>by have:=q3.2 q z o? o? hz;omega⟩,fun h=>(conv.2 h).1⟩⟩};rw[if_pos (by simp only[g!,decide_eq_true_eq];omega)];exact⟨false,rfl,fun h=>(by cases h),fun h=>by have:=h.up;omega⟩
theorem LP(i:qk)(hl:i.stops.l.length<2^60): ∀(d k:Nat),k+d=i.stops.l.length->RZ i.stops.l k-> ∃t:Bool,xI ((k:Int),i)=some (if t=true then .inr ()else .inl false)/\(t=true↔ ∀(r:Nat) x,k<=r->i.stops.l[r]? =some x->Good i r x):=by
 intro d;induction d with
 |zero=>
  intro k h _;rw[xI.eq_1,if_neg v?];exact⟨true,rfl,fun _ r x hr hx=>by have:=(qF hx).1;omega,fun _=>rfl⟩
 |succ d ih=>
  intro k h hp;obtain⟨x,hx⟩:=gl (l:=i.stops.l) (k:=k) o?;obtain⟨t,g1,g2⟩:=Ng i k x hx hl hp;rw[g1];cases t with
  |false=>
   rw[if_neg z?];refine⟨false,rfl,fun h=>(by cases h),fun h=>?_⟩;have:=g2.2 (h k x (jv _) hx);cases this
  |true=>
   rw[if_pos z?];have hg:=g2.1 rfl;obtain⟨t2,q1,q2⟩:=ih (k+1) o? (fun r z hr hz=>by
    by_cases c:r=k
    ·subst c
     rw[hx]at hz
     cases hz
     exact⟨hg.up.1,hg.up.2,hg.pre⟩
    exact hp r z o? hz)
   refine⟨t2,q1,q2.trans ⟨fun h r z hr hz=>?_,fun h r z hr hz=>h r z o? hz⟩⟩;by_cases c:r=k
   ·subst c;rw[hx]at hz;cases hz;exact hg
   exact h r z o? hz
theorem LR(i:qk)(n:Int)(hl:i.stops.l.length<2^60): ∃t:Bool,iz i n=some t/\(t=true↔Ul i n):=by
 obtain⟨b,g1,g2⟩:=SO i.span n;obtain⟨t,q1,q2⟩:=LP i hl i.stops.l.length 0 o? (fun r x hr=>o?);rw[show ((0:Nat):Int)=0 from rfl]at q1;unfold iz;rw[g1];simp only[zJ,qS];cases b with
 |false=>
  refine⟨false,rfl,fun h=>(by cases h),fun h=>?_⟩;have:=g2.2 h.Zg;cases this
 |true=>
  rw[if_neg z?,q1];refine⟨t,by cases t<;>rfl,q2.trans ⟨fun h=>?_,fun h r x _ hx=>?_⟩⟩
  ·exact⟨g2.1 rfl,fun k x hx=>(h k x o? hx).up,fun k x hx=>(h k x o? hx).le,fun k x hx hu=>by have:=(h k x o? hx).top hu;unfold xl at this;exact this,fun k x hx p y hp hy=>by have:=(h k x o? hx).nest p y hp hy;unfold xl at this;exact this,
    fun k x hx j y hj hy hu=>(h k x o? hx).Md j y o? hj hy hu,fun k x hx q y hq hu hy=>(h k x o? hx).pre q y hq hu hy⟩
  exact⟨h.up r x hx,fun q y hq hu hy=>h.pre r x hx q y hq hu hy,h.le r x hx,fun hu=>h.top r x hx hu,fun p y hp hy=>h.nest r x hx p y hp hy,fun j y _ hj hy hu=>h.Md r x hx j y hj hy hu⟩
end Xr
namespace Xr
def RX(ss:List qb):Prop:= ∀(j:Nat) s,ss[j]? =some s->s.insts.l≠[]/\(0<j-> ∀p,ss[j-1]? =some p-> ∀x∈s.insts.l,Za x.span (gu p.cur p.insts.l))
structure MayP (st:qw):Prop where
 text:st.text.length<=65536
 di:st.qm.l.length<=8
 ne:st.xO.l≠[]
 VJ:st.xO.l.length<=64
 K7:Wc st.text.length st.xO.l
 S7:RV st.xO.l
 may: ∀s∈st.qm.l,mC s.insts.l st.text.length
 lies:RX st.qm.l
theorem LS(l:Sl qy)(st:qw)(hl:l.l.length=st.xO.l.length)(h60:l.l.length<2^60): ∀(d i:Nat),i+d=l.l.length-> ∃t:Bool,n9 (l,(i:Int),st)=some (if t=true then .inr ()else .inl false)/\(t=true↔l.l.drop i=st.xO.l.drop i):=by intro d;induction d with|zero=>intro i h;rw[n9.eq_1,if_neg v?];refine⟨true,rfl,fun _=>?_,fun _=>rfl⟩;rw[E_ o?,E_ o?]|succ d ih=>(intro i h;obtain⟨x,hx⟩:=gl (l:=l.l) (k:=i) o?;obtain⟨y,hy⟩:=gl (l:=st.xO.l) (k:=i) o?;obtain⟨t,g1,g2⟩:=ih (i+1) o?;have ex:l.l.drop i=x::l.l.drop (i+1):=by have hk:=(qF hx).1;rw[z_ hk];rw[wx hk]at hx;cases hx;rfl);(have ey:st.xO.l.drop i=y::st.xO.l.drop (i+1):=by have hk:=(qF hy).1;rw[z_ hk];rw[wx hk]at hy;cases hy;rfl);rw[n9.eq_1,if_pos v?,gi hx,ws (k:=i) o?,ex,ey];simp only[zJ,qS];rw[gi hy];simp only[qS,g1];cases x with|mk xa xh=>cases y with|mk ya yh=>by_cases c:xa=ya/\xh=yh;obtain⟨rfl,rfl⟩:=c;rw[if_neg z?];exact⟨t,rfl,g2.trans ⟨fun h=>by rw[h],fun h=>by simpa using h⟩⟩;rw[if_pos v?];refine⟨false,rfl,fun h=>(by cases h),fun h=>?_⟩;simp only[List.cons.injEq,qy.mk.injEq]at h;exact absurd h.1 c
def GK(st:qw)(i:Nat)(is:List qk)(k:Nat)(x:qk):Prop:=
 Ul x st.text.length/\(0<k-> ∀y,is[k-1]? =some y->y.span.to<=x.span.qI)/\(0<i-> ∀p,st.qm.l[i-1]? =some p->Za x.span (gu p.cur p.insts.l))
theorem LV(st:qw)(Lc: ∀s∈st.qm.l,xD s)(h60:st.qm.l.length<2^60)(i:Nat)(hi:i<st.qm.l.length)(is:Sl qk)(his:is.l.length<=2^12)(Z5: ∀x∈is.l,x.stops.l.length<=2^12):
  ∀(d k:Nat),k+d=is.l.length-> ∃t:Bool,kr ((i:Int),is,(k:Int),st)=some (if t=true then .inr ()else .inl false)/\(t=true↔ ∀(r:Nat) x,k<=r->is.l[r]? =some x->GK st i is.l r x):=by
 intro d;induction d with
  |zero=>intro k h;rw[kr.eq_1,if_neg v?];exact⟨true,rfl,fun _ r x hr hx=>by have:=(qF hx).1;omega,fun _=>rfl⟩
  |succ d ih=>
   intro k h;obtain⟨x,hx⟩:=gl (l:=is.l) (k:=k) o?;obtain⟨t,g1,g2⟩:=ih (k+1) o?;have hxs:=Z5 x (z7 hx);obtain⟨b,m1,m2⟩:=LR x (st.text.length:Int) o?;have split: ∀(P:Prop),(P↔GK st i is.l k x)->((P/\ ∀(r:Nat) z,k+1<=r->is.l[r]? =some z->GK st i is.l r z)↔ ∀(r:Nat) z,k<=r->is.l[r]? =some z->GK st i is.l r z):=by intro P hP;rw[hP];constructor;intro h r z hr hz;by_cases c:r=k;subst c;rw[hx]at hz;cases hz;exact h.1;exact h.2 r z o? hz;exact fun h=>⟨h k x (jv _) hx,fun r z hr hz=>h r z o? hz⟩
   have tail: ∃q:Bool,(if (decide ((i:Int)>(0:Int)))=true then
      qh st.qm.l (q?.wrap ((i:Int)-(1:Int)))>>=fun V8=>
      wu V8.cur V8.insts>>=fun vI=>
      gK x.span vI>>=fun oJ=>
      if(!oJ)=true then some (.inl false)else kr ((i:Int),is,((k+1:Nat):Int),st)
     else kr ((i:Int),is,((k+1:Nat):Int),st))=some (if q=true then .inr ()else .inl false)/\
     (q=true↔(0<i-> ∀p,st.qm.l[i-1]? =some p->Za x.span (gu p.cur p.insts.l))/\t=true):=by
    by_cases c:0<i
    ·obtain⟨p,hp⟩:=gl (l:=st.qm.l) (k:=i-1) o?;have Fh:=Lc p (z7 hp);have hsl:=WQ Fh p.cur;obtain⟨u,l1,l2⟩:=lies_ok x.span ⟨(gu p.cur p.insts.l).isEmpty,gu p.cur p.insts.l⟩ u?;rw[if_pos (by simpa using c),show q?.wrap ((i:Int)-1)=((i-1:Nat):Int)from by rw[qG o? o?];omega,gi hp];simp only[zJ,qS];rw[Xe p.cur p.insts Fh.2 Fh.1];simp only[qS,l1];cases u with
     |false=>
      rw[if_pos z?];refine⟨false,rfl,fun h=>(by cases h),fun h=>?_⟩;have:=l2.2 (h.1 c p hp);cases this
     |true=>
      rw[if_neg z?,g1];refine⟨t,rfl,fun h=>⟨fun _ p' Sx=>?_,h⟩,fun h=>h.2⟩;rw[hp]at Sx;cases Sx;exact l2.1 rfl
    rw[if_neg (by simpa using c),g1];exact⟨t,rfl,fun h=>⟨fun h0=>absurd h0 c,h⟩,fun h=>h.2⟩
   obtain⟨q,q1,q2⟩:=tail;rw[kr.eq_1,if_pos v?,gi hx,ws (k:=k) o?];simp only[zJ,qS,m1]at q1 |-;cases b with|false=>rw[if_pos z?];refine⟨false,rfl,fun h=>(by cases h),fun h=>?_⟩;have:=m2.2 (h k x (jv _) hx).1;cases this|true=>have hm:=m2.1 rfl;rw[if_neg z?];by_cases c:0<k;obtain⟨y,hy⟩:=gl (l:=is.l) (k:=k-1) o?;rw[if_pos (by simpa using c),show q?.wrap ((k:Int)-1)=((k-1:Nat):Int)from by rw[qG o? o?];omega,gi hy];simp only[qS];by_cases c2:x.span.qI<y.span.to;rw[if_pos (by simpa using c2)];refine⟨false,rfl,fun h=>(by cases h),fun h=>?_⟩;have:=(h k x (jv _) hx).2.1 c y hy;omega;rw[if_neg (by simpa using c2),q1];refine⟨q,rfl,q2.trans ?_⟩;rw[g2];refine split _ ⟨fun h=>⟨hm,fun _ z hz=>?_,h⟩,fun h=>h.2.2⟩;rw[hy]at hz;cases hz;omega;rw[if_neg (by simpa using c),q1];refine⟨q,rfl,q2.trans ?_⟩;rw[g2];exact split _ ⟨fun h=>⟨hm,fun h0=>absurd h0 c,h⟩,fun h=>h.2.2⟩
theorem rise_of{is:List qk}{n:Int}(h: ∀(k:Nat) x,is[k]? =some x->Ul x n/\(0<k-> ∀y,is[k-1]? =some y->y.span.to<=x.span.qI)):mC is n:=by
 have hc:=KJ (is.map (·.span)) fun j p hp=>by rw[X?,yS]at hp;obtain⟨x,hx,rfl⟩:=hp;refine⟨(h j x hx).1.Zg.2.1,fun y h0 hy=>?_⟩;rw[X?,yS]at hy;obtain⟨z,hz,rfl⟩:=hy;exact(h j x hx).2 h0 z hz
 rw[List.pairwise_map]at hc;refine⟨fun a i hi=>(h a i hi).1,fun a b i j eR hi hj=>?_⟩;have ha:=(qF hi).1;have hb:=(qF hj).1;have:=b!.1 hc a b ha hb eR;rw[wx ha]at hi;rw[wx hb]at hj;cases hi;cases hj;exact this
def GoodS(st:qw)(i:Nat)(s:qb):Prop:=s.insts.l≠[]/\ ∀(r:Nat) x,s.insts.l[r]? =some x->GK st i s.insts.l r x
theorem LU(st:qw)(Lc: ∀s∈st.qm.l,xD s)(h60:st.qm.l.length<2^60): ∀(d i:Nat),i+d=st.qm.l.length-> ∃t:Bool,nf ((i:Int),st)=some (if t=true then .inr ()else .inl false)/\(t=true↔ ∀(r:Nat) s,i<=r->st.qm.l[r]? =some s->GoodS st r s):=by intro d;induction d with|zero=>intro i h;rw[nf.eq_1,if_neg v?];exact⟨true,rfl,fun _ r s hr hs=>by have:=(qF hs).1;omega,fun _=>rfl⟩|succ d ih=>intro i h;obtain⟨s,hs⟩:=gl (l:=st.qm.l) (k:=i) o?;obtain⟨t,g1,g2⟩:=ih (i+1) o?;have dF:=Lc s (z7 hs);rw[nf.eq_1,if_pos v?,gi hs,ws (k:=i) o?];simp only[zJ,qS];by_cases c:s.insts.l=[];rw[if_pos (by simp[c])];refine⟨false,rfl,fun h=>(by cases h),fun h=>?_⟩;exact absurd c (h i s (jv _) hs).1;obtain⟨u,u1,u2⟩:=LV st Lc h60 i o? s.insts dF.1 dF.2 s.insts.l.length 0 o?;rw[show ((0:Nat):Int)=0 from rfl]at u1;rw[if_neg (by simpa using c),u1];simp only[qS];cases u with|false=>refine⟨false,rfl,fun h=>(by cases h),fun h=>?_⟩;have:=u2.2 fun r x _ hx=>(h i s (jv _) hs).2 r x hx;cases this|true=>refine⟨t,g1,g2.trans ⟨fun h r z hr hz=>?_,fun h r z hr hz=>h r z o? hz⟩⟩;by_cases c2:r=i;subst c2;rw[hs]at hz;cases hz;exact⟨c,fun r x hx=>u2.1 rfl r x o? hx⟩;exact h r z o? hz
theorem Nh(st:qw)(Lc: ∀s∈st.qm.l,xD s)(hq:st.xO.l.length<2^60): ∃t:Bool,bo st=some t/\(t=true↔MayP st):=by unfold bo;by_cases c:st.text.length<=65536/\st.qm.l.length<=8;rw[if_neg v?];obtain⟨q,co,n1,n2⟩:=SU (st.text.length:Int) st.xO hq;rw[n1];simp only[zJ,qS];rcases n2 with ⟨rfl,n3,n4,n5,rfl⟩|⟨n3,rfl,n4⟩;have Vc:=Zb _ _ n5;by_cases c2:(mm st.xO.l).length=st.xO.l.length;(rw[if_neg v?];obtain⟨t,g1,g2⟩:=LS ⟨(mm st.xO.l).isEmpty,mm st.xO.l⟩ st c2 u? _ 0 (A? _);rw[show ((0:Nat):Int)=0 from rfl]at g1;rw[g1];cases t with|false=>refine⟨false,rfl,fun h=>(by cases h),fun h=>?_⟩;have:=g2.2 (by simp only[q19];exact Yy _ h.S7);cases this|true=>have hid:=g2.1 rfl;simp only[q19]at hid;obtain⟨u,u1,u2⟩:=LU st Lc o? _ 0 (A? _);rw[show ((0:Nat):Int)=0 from rfl]at u1;simp only[if_true,qS,u1];refine⟨u,by cases u<;>rfl,u2.trans ⟨fun h=>⟨c.1,c.2,n3,n4,n5,hid ▸ Vc.1,fun s hs=>?_,fun j s hs=>?_⟩,fun h r s _ hs=>?_⟩⟩;obtain⟨j,hj⟩:=kh hs;exact rise_of fun k x hx=>⟨((h j s o? hj).2 k x hx).1,((h j s o? hj).2 k x hx).2.1⟩;refine⟨(h j s o? hs).1,fun h0 p hp x hx=>?_⟩;obtain⟨k,hk⟩:=kh hx;exact((h j s o? hs).2 k x hk).2.2 h0 p hp;have hm:=h.may s (z7 hs);have hl:=h.lies r s hs;exact⟨hl.1,fun k x hx=>⟨hm.may k x hx,fun h0 y hy=>hm.Rj (k-1) k y x o? hy hx,fun h0 p hp=>hl.2 h0 p hp x (z7 hx)⟩⟩);rw[if_pos (by simp only[g!,bne_iff_ne,ne_eq];omega)];refine⟨false,rfl,fun h=>(by cases h),fun h=>?_⟩;exact absurd (congrArg List.length (Yy _ h.S7)) c2;rw[if_pos (by simp[n3])];exact⟨false,rfl,fun h=>(by cases h),fun h=>absurd ⟨h.ne,h.VJ,h.K7⟩ n4⟩;rw[if_pos v?];exact⟨false,rfl,fun h=>(by cases h),fun h=>absurd ⟨h.text,h.di⟩ c⟩
end Xr
namespace Xr
def zfl(i:qk):Sl Int:=⟨false,List.replicate i.stops.l.length (0:Int)⟩
theorem BG(s:qb)(hs:xD s): ∀(r:List qk)(a:Nat)(out:List (Sl Int)),s.insts.l.drop a=r->out.length=a->wc ((a:Int),s,⟨out.isEmpty,out⟩)=some ⟨(out++r.map zfl).isEmpty,out++r.map zfl⟩:=by intro r;have nH:=hs.1;induction r with|nil=>intro a out h _;have:=qW h;rw[wc.eq_1,if_neg v?];simp|cons i r ih=>intro a out h ho;obtain⟨h1,h2,h3⟩:=zl h;have hi:=hs.2 i (z7 h1);rw[wc.eq_1,if_pos v?,gi h1,ws (k:=a) o?];simp only[zJ,qS];rw[if_pos o?,if_pos qA,if_pos qA];have:=ih (a+1) (out++[zfl i]) h2 v?;rw[show (out++[zfl i]).isEmpty=false from z?]at this;simp only[zfl,c?]at this |-;rw[this];simp[zfl]
theorem lF(s:qb)(hs:xD s): ∃f,vC s=some f/\so s.insts.l f:=by refine⟨⟨(s.insts.l.map zfl).isEmpty,s.insts.l.map zfl⟩, ?_,z?,z?,fun a i f hi hf=>?_⟩;unfold vC;have:=BG s hs s.insts.l 0 [] rfl rfl;exact tW;simp only[X?,hi,Option.map_some,kG]at hf;subst hf;refine⟨by simp[zfl],fun _=>rfl,fun v hv=>?_⟩;have:=(List.mem_replicate.1 hv).2;omega
theorem O9(st:qw)(hs: ∀s∈st.qm.l,xD s)(Ed:st.qm.l.length<=16)(q:List qy)(ss:List qb)(w:qa): ∀(r:List qb)(i:Nat)(out:List (Sl (Sl Int))),st.qm.l.drop i=r->out.length=i->
  ∃fs:List (Sl (Sl Int)),uy ((i:Int),st,q,ss,w,⟨out.isEmpty,out⟩)=some ⟨(out++fs).isEmpty,out++fs⟩/\fs.length=r.length/\ ∀(j:Nat) s f,r[j]? =some s->fs[j]? =some f->so s.insts.l f:=by intro r;induction r with|nil=>intro i out h _;have:=qW h;rw[uy.eq_1,if_neg v?];exact⟨[],z?,rfl,fun j s f hs=>by simp at hs⟩|cons s r ih=>intro i out h ho;obtain⟨h1,h2,h3⟩:=zl h;obtain⟨f,f1,f2⟩:=lF s (hs s (z7 h1));rw[uy.eq_1,if_pos v?,gi h1,ws (k:=i) o?];simp only[zJ,qS,f1];rw[if_pos qA];obtain⟨fs,g1,g2,g3⟩:=ih (i+1) (out++[f]) h2 v?;rw[show (out++[f]).isEmpty=false from z?]at g1;refine⟨f::fs, ?_,by simp[g2],fun j s' f' oM UZ=>?_⟩;rw[show (⟨f.nil,f.l⟩:Sl (Sl Int))=f from rfl,g1];simp;cases j with|zero=>simp only[a?,kG]at oM UZ;subst oM UZ;exact f2|succ j=>exact g3 j s' f' (by simpa using oM) (by simpa using UZ)
structure vj (st:qw):Prop where
 may:MayP st
 small: ∀s∈st.qm.l,xD s
 stop: ∀s∈st.qm.l,∀ i∈s.insts.l,∀ x∈i.stops.l,bI x
 JH: ∀s∈st.qm.l,gu s.cur s.insts.l≠[]
theorem Bj(st:qw)(h:vj st): ∃fl,tZ st=some (st.text,⟨false,st.xO.l⟩,st.qm.l,fl)/\WK (st.text,⟨false,st.xO.l⟩,st.qm.l,fl):=by have h8:=h.may.di;have h64:=h.may.VJ;have ht:=h.may.text;obtain⟨fs,g1,g2,g3⟩:=O9 st h.small o? st.xO.l st.qm.l st.text st.qm.l 0 [] rfl rfl;rw[show ((0:Nat):Int)=0 from rfl]at g1;simp only[List.isEmpty_nil,F?]at g1;refine⟨⟨fs.isEmpty,fs⟩, ?_,⟨⟨u?,h.may.ne,h64,h.may.S7,h.may.K7,u?,h.small,h.may.may,g2,fun c=>?_,g3,h.stop⟩,ht⟩⟩;unfold tZ;rw[if_pos qA,if_pos qA,g1];rfl;exact tW
theorem sum_fit{n:Nat}{es:List ql}(hn:n<=65536)(hl:es.length<=2^19)(h:JX n es)(h2:(n:Int)+sa es<=65536):wR es<=2^36:=by have h3:=sumT_sp o? es h.K7;have h4:es.length*n<=2^19*65536:=x_ hl hn;exact tW
def Less(st st' :qw):Prop:=Curs st.qm.l st'.qm.l
theorem BA(st:qw)(h:vj st)(es:Sl ql)(hl:es.l.length<=2^19)(hT:wR es.l<=2^60):qJ (rS st es) (fun v=>v.2≠0\/v.2=0/\vj v.1/\Less st v.1):=by
 have ht:=h.may.text;have h8:=h.may.di;obtain⟨t,m1,m2⟩:=Nh st h.small (by have:=h.may.VJ;omega);obtain rfl:=m2.2 h.may;unfold rS;refine .go m1 ?_;rw[if_neg z?];refine .bind (SP (st.text.length:Int) o? es hl hT) fun c hc=>?_;refine .ite (fun c0=> .ret (.inl (by simpa using c0))) fun c0=>?_;obtain⟨e1,e2⟩:=hc (by simpa using c0);have hT2:wR es.l<=2^36:=sum_fit ht hl e1 e2;obtain⟨fl,b1,b2⟩:=Bj st h;refine .go b1 ?_;refine .bind (cB (st.text,⟨false,st.xO.l⟩,st.qm.l,fl) b2.ok ht es e1 hT2 hl) fun w hw=>?_;have hwt:=hw.text;refine .bind (Wo w ⟨hw.ok,by simp only at hwt;omega⟩) fun u hu=>?_;refine .ite (fun c1=> .ret (.inl (by simpa using c1))) fun c1=>?_;rcases hu with hu|⟨_,hu,hlk⟩;exact absurd (by simpa using c1) hu;have oX: ∀y,Fin u.2.1.length u.2.2.2.1 y->vj ⟨u.2.1,u.2.2.1,⟨false,y⟩⟩/\Less st ⟨u.2.1,u.2.2.1,⟨false,y⟩⟩:=by intro y hy;have Fa:=hlk.len;have hwl:=hw.len;have Xl:=hy.JH.1;simp only at Fa hwl Xl;refine⟨⟨⟨hu.text,u?,hu.ok.ne,hu.ok.VJ,hu.ok.K7,hu.ok.S7,hy.ok.may,fun j s hs=>?_⟩,hy.ok.small,hy.ok.stop,fun s hs=>?_⟩,⟨u?,fun j s' oM=>?_⟩⟩;have:=hy.closed j s (qF hs).1 hs;exact⟨this.1,this.2.2⟩;obtain⟨j,hj⟩:=kh hs;exact(hy.closed j s (qF hj).1 hj).2.1;obtain⟨s2,k1,k2⟩:=hy.JH.2 j s' oM;obtain⟨s1,k3⟩:=gl (l:=w.2.2.1) (k:=j) (by have h9:j<u.2.2.2.1.length:=(qF k1).1;omega);obtain⟨s3,k4,k5⟩:=hlk.cur j s1 k3;have k1' :u.2.2.2.1[j]? =some s2:=k1;have k4' :u.2.2.2.1[j]? =some s3:=k4;rw[k1']at k4';cases k4';obtain⟨s0,k6,k7⟩:=hw.cur j s1 k3;exact⟨s0,k6,k2.trans (k5.trans k7)⟩
 refine .bind (Y6 u.2 hu.ok) fun v hv=>?_;rcases v with y|y;exact .ret (.inr ⟨rfl,oX y hv⟩);exact .ret (.inr ⟨rfl,oX y hv⟩)
end Xr
namespace Xr
theorem wi{n:Int}(h: -9223372036854775808<=n:=by omega)(h2:n<=9223372036854775807:=by omega):IntKind.i64.wrap n=n:=qG h h2
def isB(b:UInt8):Bool:=(b.toNat:Int)==10
def JY(s:qa):Nat:=s.countP isB
theorem Pu(s:qa):JY s<=s.length:=List.countP_le_length
theorem Ob(b:UInt8)(s:qa):(JY (b::s):Int)=JY s+if isB b=true then 1 else 0:=by unfold JY;rw[O!];split<;>simp
structure S0 (i:Nat) (t:qX):Prop where
 a:0<=t.bytes/\t.bytes<=i
 b:0<=t.breaks/\t.breaks<=i
 c:0<=t.aq/\t.aq<=i
 d:0<=t.dp/\t.dp<=2*i
theorem of_L0(s:qa)(hs:s.length<=2^40)(t2:qX): ∀(r:qa)(i:Nat)(t:qX),s.drop i=r->i+r.length=s.length->S0 i t->
  qJ (wd (s,(i:Int),t2,t)) (fun v=>v.breaks=t.breaks+JY r/\S0 s.length v):=by intro r;induction r with|nil=>intro i t h hi ht;have:=qW h;rw[wd.eq_1,if_neg v?];simp only[e?,D?]at hi;exact .ret ⟨by simp[JY],hi ▸ ht⟩|cons b r ih=>intro i t h hi ht;simp only[g?]at hi;obtain⟨h1,h2,h3⟩:=zl h;have⟨p1,p2⟩:=ht.a;have⟨p3,p4⟩:=ht.b;have⟨p5,p6⟩:=ht.c;have⟨p7,p8⟩:=ht.d;rw[wd.eq_1,if_pos v?,ws o?];refine .go (gi h1) ?_;rw[wi (n:=t.bytes+1),wi (n:=t.breaks+1),wi (n:=t.aq+1),wi (n:=t.dp+1),wi (n:=t.dp+1+1)];have hb:=Ob b r;refine .ite (fun c=>?_) fun c=>?_;{rw[if_pos (show isB b=true from c)]at hb;refine .bind (Go.Proofs.YtoflcafolmmaaaaGreat.cB b) fun v _=>?_;refine .ite (fun _=>C! (fun _=>?_) fun _=>?_) fun _=>C! (fun _=>?_) fun _=>?_;all_goals exact .mono (ih (i+1) _ h2 (by omega) ⟨by simp only;omega,by simp only;omega,by simp only;omega,by simp only;omega⟩) fun v hv=>⟨by have:=hv.1;simp only at this;omega,hv.2⟩};rw[if_neg (show ¬isB b=true by unfold isB;simp[c])]at hb;refine .bind (Go.Proofs.YtoflcafolmmaaaaGreat.cB b) fun v _=>?_;refine .ite (fun _=>C! (fun _=>?_) fun _=>?_) fun _=>C! (fun _=>?_) fun _=>?_;all_goals exact .mono (ih (i+1) _ h2 (by omega) ⟨by simp only;omega,by simp only;omega,by simp only;omega,by simp only;omega⟩) fun v hv=>⟨by have:=hv.1;simp only at this;omega,hv.2⟩
theorem XS(s:qa)(hs:s.length<=2^40):qJ (oC s) (fun v=>v.breaks=JY s/\S0 s.length v):=by unfold oC;refine .bind (of_L0 s hs _ s 0 ⟨0,0,0,0⟩ rfl z? ⟨z?,z?,z?,z?⟩) fun v hv=>?_;exact .ret ⟨by have:=hv.1;simp only at this;omega,hv.2⟩
theorem Oc(t:qX)(n:Nat)(h:S0 n t):qJ (gY t 1) (fun v=>0<=v/\v<=n):=by unfold gY;rw[if_neg (by decide),if_pos (by decide)];exact .ret h.c
theorem Pq(s:qa)(hs:s.length<=2^40)(off:Int):qJ (dz s off) (fun v=>(v.2=0/\0<=off/\off<=s.length/\v.1=JY (s.take off.toNat))\/(v.2≠0/\v.1=0/\ ¬(0<=off/\off<=s.length))):=by unfold dz;refine .ite (fun c=> .ret (.inr ⟨by decide,rfl, ?_⟩)) fun c=>?_;simp only[g!,decide_eq_true_eq]at c;omega;simp only[g!,decide_eq_true_eq,not_or]at c;refine .bind .kQ fun r hr=>?_;obtain⟨rfl,h2⟩:=hr;refine .bind (XS _ (by rw[W_];omega)) fun v hv=>?_;exact .ret (.inl ⟨rfl,o?,o?,hv.1⟩)
def Jw:qa->Nat->List Int
 |[],_=>[]
 |b::r,i=>if isB b=true then((i+1:Nat):Int)::Jw r (i+1)else Jw r (i+1)
theorem AK(s:qa)(hs:s.length<=2^28): ∀(r:qa)(i:Nat)(l:List Int),s.drop i=r->l.length<=i+1->vG (s,(i:Int),l)=some (l++Jw r i):=by intro r;induction r with|nil=>intro i l h _;have:=qW h;rw[vG.eq_1,if_neg v?];simp[Jw]|cons b r ih=>intro i l h hl;obtain⟨h1,h2,h3⟩:=zl h;rw[vG.eq_1,if_pos v?,gi h1,ws o?];simp only[zJ,qS];by_cases c:isB b=true;rw[if_pos (show ((b.toNat:Int)==10)=true from c),if_pos qA,ih (i+1) _ h2 v?];simp[Jw,c];rw[if_neg (show ¬((b.toNat:Int)==10)=true from c),ih (i+1) _ h2 o?];simp[Jw,c]
theorem Uf(s:qa)(hs:s.length<=2^28):mV s=some ⟨false,0::Jw s 0⟩:=by unfold mV;rw[show (0:Int)=((0:Nat):Int)from rfl,AK s hs s 0 _ rfl z?];simp
theorem st4_len: ∀(r:qa)(i:Nat),(Jw r i).length=JY r:=by intro r;induction r with|nil=>intro i;rfl|cons b r ih=>intro i;simp only[Jw,JY,O!];split;simp only[g?,ih];rfl;simp only[ih];rfl
theorem Ry: ∀(r:qa)(i:Nat),∀ x∈Jw r i,(i:Int)<x/\x<=i+r.length:=by intro r;induction r with|nil=>intro i x h;simp[Jw]at h|cons b r ih=>intro i x h;simp only[Jw]at h;simp only[g?];split at h;rcases U?.1 h with rfl|h;omega;have:=ih (i+1) x h;omega;have:=ih (i+1) x h;omega
theorem st4_pair: ∀(r:qa)(i:Nat),(Jw r i).Pairwise (· < ·):=by intro r;induction r with|nil=>intro i;simp[Jw]|cons b r ih=>intro i;simp only[Jw];split;refine J!.2 ⟨fun x hx=>?_,ih (i+1)⟩;have:=Ry r (i+1) x hx;omega;exact ih (i+1)
theorem st4_at: ∀(r:qa)(i n k:Nat)(x:Int),k<JY (r.take n)->(Jw r i)[k]? =some x->x<=i+n:=by intro r;induction r with|nil=>intro i n k x h;simp[JY]at h|cons b r ih=>intro i n k x h hx;cases n with|zero=>simp[JY]at h|succ n=>simp only[Jw]at hx;simp only[List.take_succ_cons,JY,O!]at h;split at hx;(rename_i c;rw[if_pos c]at h;cases k with|zero=>simp only[a?,kG]at hx;omega|succ k=>have:=ih (i+1) n k x (by unfold JY;omega) (by simpa using hx);omega);rename_i c;rw[if_neg c]at h;have:=ih (i+1) n k x (by unfold JY;omega) hx;omega
theorem Tm(s:qa):(0::Jw s 0).Pairwise (fun a b:Int=>a<b):=J!.2 ⟨fun x hx=>by have:=Ry s 0 x hx;omega,st4_pair s 0⟩
theorem Nc(s:qa): ∀x∈(0::Jw s 0:List Int),0<=x/\x<=s.length:=by intro x hx;rcases U?.1 hx with rfl|hx;omega;have:=Ry s 0 x hx;omega
theorem Qg(s:qa)(hs:s.length<=2^28)(line:Int): ∃a b c:Int,uF s line=some (a,c)/\rW s line=some (b,c)/\0<=a/\a<=b/\b<=s.length/\
  (0<=line->line<=JY s->c=0)/\(∀ n:Nat,line=JY (s.take n)->a<=n):=by
 have hbl:=Pu s;have hL:((0::Jw s 0:List Int).length:Int)=JY s+1:=by simp[st4_len]
 unfold uF rW;rw[Uf s hs];simp only[zJ,qS];by_cases c:0<=line/\line<JY s+1;(obtain⟨k,rfl⟩: ∃k:Nat,line=k:=⟨line.toNat,o?⟩;obtain⟨x,hx⟩:=gl (l:=(0::Jw s 0:List Int)) (k:=k) o?;have hxi:=Nc s x (z7 hx);have PY: ∀n:Nat,(k:Int)=JY (s.take n)->x<=n:=by intro n hn;cases k with|zero=>simp only[a?,kG]at hx;omega|succ k=>have:=st4_at s 0 n k x o? (by simpa using hx);omega);(have e1:(decide ((k:Int)<0) || decide ((k:Int)>=((0::Jw s 0:List Int).length:Int)))=false:=by simp only[Bool.or_eq_false_iff,decide_eq_false_iff_not];omega);rw[e1];simp only[wA,if_false];rw[gi hx,ws o?];simp only[qS];by_cases c2:k+1<(0::Jw s 0:List Int).length;(obtain⟨y,hy⟩:=gl (l:=(0::Jw s 0:List Int)) (k:=k+1) c2;have hyi:=Nc s y (z7 hy);have xQ:x<y:=by obtain⟨h1,h1'⟩:=qF hx;obtain⟨h2,h2'⟩:=qF hy;have:=b!.1 (Tm s) k (k+1) h1 h2 o?;rw[h1',h2']at this;exact this);rw[if_pos (by simp only[decide_eq_true_eq];omega),gi hy];simp only[qS];rw[wi (n:=y-1)];exact⟨x,y-1,0,rfl,rfl,hxi.1,o?,o?,fun _ _=>rfl,PY⟩;rw[if_neg (by simp only[decide_eq_true_eq];omega)];exact⟨x,s.length,0,rfl,rfl,hxi.1,o?,o?,fun _ _=>rfl,PY⟩;have e1:(decide (line<0) || decide (line>=((0::Jw s 0:List Int).length:Int)))=true:=by simp only[g!,decide_eq_true_eq];omega
 rw[e1];simp only[if_true];exact⟨0,0,3,rfl,rfl,o?,o?,o?,fun h1 h2=>o?,fun n hn=>o?⟩
theorem V0(s:qa)(n:Nat):JY (s.take n)<=JY s:=List.Sublist.countP_le (List.take_sublist n s)
theorem FK(s:qa)(hs:s.length<=2^28)(off:Int)(h0:0<=off)(h1:off<=s.length):qJ (fX s off 1) (fun v=>v.1=JY (s.take off.toNat)/\0<=v.2.1):=by unfold fX;refine .go (a:=true) (by unfold dM;simp) ?_;rw[if_neg z?];refine .bind (Pq s o? off) fun v hv=>?_;rcases hv with ⟨e,_,_,hv⟩|⟨_,_,hv⟩;rotate_left;exact absurd ⟨h0,h1⟩ hv;rw[if_neg (by simp[e])];have hb:=V0 s off.toNat;obtain⟨a,b,c,g1,_,g3,_,_,g4,g5⟩:=Qg s hs v.1;refine .go g1 ?_;have:=g5 off.toNat hv;refine .bind (qJ.kv o? u? o?) fun r hr=>?_;have Sy:=hr.2;refine .bind (XS r (by simp only at Sy;omega)) fun w hw=>?_;refine .bind (Oc w _ hw.2) fun u hu=>?_;exact .ret ⟨hv,hu.1⟩
theorem upto_tot(s:qa)(hs:s.length<=2^28)(n:Int)(hn:0<=n):qJ (iH s 1 n) (fun v=>0<=v/\v<=s.length):=by
 have loop: ∀(d k:Nat)(many:Int),k+d=s.length->0<=many->many<=k->qJ (ni (s,1,n,many,(k:Int))) (fun v=>match v with| .inl y=>0<=y/\y<=s.length| .inr _=>True):=by intro d;induction d with|zero=>intro k many h _ _;rw[ni.eq_1,if_neg v?];exact .ret trivial|succ d ih=>intro k many h m0 m1;rw[ni.eq_1,if_pos v?,ws o?];refine .bind .kv fun r hr=>?_;have Sy:=hr.2;refine .bind (XS r o?) fun w hw=>?_;refine .bind (Oc w _ hw.2) fun u hu=>?_;rw[wi (n:=many+u)];refine .ite (fun _=> .ret ⟨o?,o?⟩) fun _=>ih (k+1) _ o? o? o?
 unfold iH;rw[if_neg v?];refine .bind (loop s.length 0 0 o? o? o?) fun v hv=>?_;rcases v with v|v;exact .ret hv;exact .ret ⟨o?,o?⟩
theorem Ws(s:qa)(hs:s.length<=2^28)(line col:Int)(hc:0<=col):qJ (rb s line col 1) (fun v=>0<=v.1/\v.1<=s.length):=by unfold rb;refine .go (a:=true) (by unfold dM;simp) ?_;rw[if_neg z?];obtain⟨a,b,c,g1,g2,g3,g4,g5,_⟩:=Qg s hs line;refine .go g1 ?_;refine .ite (fun _=> .ret ⟨u?,u?⟩) fun _=>?_;refine .go g2 ?_;refine .bind (qJ.kv u? u? u?) fun r hr=>?_;have Sy:=hr.2;simp only at Sy |-;refine .bind (upto_tot r o? col hc) fun u hu=>?_;rw[wi (n:=a+u)];exact .ret ⟨u?,u?⟩
end Xr
namespace Xr
structure Kj (n:Int) (q:List qy):Prop where
 ne:q≠[]
 VJ:q.length<=64
 K7:Wc n q
 S7:RV q
theorem i7(n:Int)(l:Sl qy)(hl:l.l.length<2^60):qJ (bt n l) (fun v=>v.2=0->Kj n v.1.l):=by obtain⟨q,c,g1,g2⟩:=SU n l hl;refine⟨(q,c),g1,fun hc=>?_⟩;rcases g2 with ⟨_,h1,h2,h3,rfl⟩|⟨h,_⟩;obtain⟨k1,k2⟩:=Wn l.l;obtain⟨k3,k4⟩:=Zb n l.l h3;exact⟨k2 h1,u?,k4,k3⟩;exact absurd hc h
theorem leadT(b:UInt8):qJ (vT b) (fun _=>True):=Go.Proofs.YtoflcafolmmaaaaGreat.cB b
theorem d8(b:UInt8):qJ (yZ b) (fun _=>True):=by unfold yZ;split<;>exact .ret trivial
section
variable (s:qa) (hs:s.length<=2^28)
include hs
theorem left_L0: ∀k:Nat,k<s.length->qJ (yG (s,(k:Int))) (fun v=>0<=v/\v<=k):=by intro k;induction k with|zero=>intro _;rw[yG.eq_1,if_neg z?];exact .ret ⟨o?,o?⟩|succ k ih=>intro h;obtain⟨b,hb⟩:=gl h;rw[yG.eq_1,if_pos (by simp only[decide_eq_true_eq];omega)];refine .go (gi hb) ?_;refine .bind (leadT b) fun v _=>?_;refine .ite (fun _=>?_) fun _=> .ret ⟨o?,o?⟩;rw[show (((k+1:Nat):Int)-1)=(k:Int)from o?,wi (n:=(k:Int))];exact .mono (ih o?) fun v hv=>⟨hv.1,o?⟩
theorem LD(a:Int)(h0:0<=a)(h1:a<=s.length):qJ (iN s a) (fun v=>0<=v/\v<=s.length):=by
 unfold iN;rw[wi (n:=a-1)];have hl:qJ (yG (s,a-1)) (fun v=>v<=s.length):=by by_cases c:0<a;obtain⟨k,hk⟩: ∃k:Nat,a-1=k:=⟨(a-1).toNat,o?⟩;rw[hk];exact .mono (left_L0 s hs k o?) fun v hv=>o?;rw[yG.eq_1,if_neg v?];exact .ret o?
 refine .bind hl fun v hv=> .ret ?_;constructor<;>split<;>omega
theorem right_L0: ∀(d k:Nat),k+d=s.length->qJ (vi (s,(k:Int))) (fun v=>0<=v/\v<=s.length):=by intro d;induction d with|zero=>intro k h;rw[vi.eq_1,if_neg v?];exact .ret ⟨o?,o?⟩|succ d ih=>intro k h;obtain⟨b,hb⟩:=gl (l:=s) (k:=k) o?;rw[vi.eq_1,if_pos v?,ws o?];refine .go (gi hb) ?_;refine .bind (leadT b) fun v _=>?_;exact .ite (fun _=>ih (k+1) o?) fun _=> .ret ⟨o?,o?⟩
theorem Aq(a:Int)(h0:0<=a)(h1:a<=s.length):qJ (ag s a) (fun v=>0<=v/\v<=s.length):=by
 unfold ag;rw[wi (n:=a+1)];have hl:qJ (vi (s,a+1)) (fun v=>0<=v):=by by_cases c:a+1<=s.length;obtain⟨k,hk⟩: ∃k:Nat,a+1=k:=⟨(a+1).toNat,o?⟩;rw[hk];exact .mono (right_L0 s hs (s.length-k) k o?) fun v hv=>hv.1;rw[vi.eq_1,if_neg v?];exact .ret o?
 refine .bind hl fun v hv=> .ret ?_;constructor<;>split<;>omega
theorem step_L5: ∀k:Nat,k<=s.length->qJ (nA (s,(k:Int))) (fun v=>0<=v/\v<=s.length):=by intro k;induction k with|zero=>intro _;rw[nA.eq_1,if_neg z?];exact .ret ⟨o?,o?⟩|succ k ih=>intro h;obtain⟨b,hb⟩:=gl (l:=s) (k:=k) o?;rw[nA.eq_1,if_pos (by simp only[decide_eq_true_eq];omega),wi (n:=((k+1:Nat):Int)-1),show(((k+1:Nat):Int)-1)=(k:Int)from o?];refine .go (gi hb) ?_;refine .bind (d8 b) fun v _=>?_;exact .ite (fun _=>ih o?) fun _=> .ret ⟨o?,o?⟩
theorem step_L7: ∀k:Nat,k<=s.length->qJ (nB (s,(k:Int))) (fun v=>0<=v/\v<=s.length):=by intro k;induction k with|zero=>intro _;rw[nB.eq_1,if_neg z?];exact .ret ⟨o?,o?⟩|succ k ih=>intro h;obtain⟨b,hb⟩:=gl (l:=s) (k:=k) o?;rw[nB.eq_1,if_pos (by simp only[decide_eq_true_eq];omega),wi (n:=((k+1:Nat):Int)-1),show(((k+1:Nat):Int)-1)=(k:Int)from o?];refine .go (gi hb) ?_;refine .bind (d8 b) fun v _=>?_;exact .ite (fun _=>ih o?) fun _=> .ret ⟨o?,o?⟩
theorem step_L1: ∀(d k:Nat),k+d=s.length->qJ (nw (s,(k:Int))) (fun v=>0<=v/\v<=s.length):=by intro d;induction d with|zero=>intro k h;rw[nw.eq_1,if_neg v?];exact .ret ⟨o?,o?⟩|succ d ih=>intro k h;obtain⟨b,hb⟩:=gl (l:=s) (k:=k) o?;rw[nw.eq_1,if_pos v?,ws o?];refine .go (gi hb) ?_;refine .bind (d8 b) fun v _=>?_;exact .ite (fun _=>ih (k+1) o?) fun _=> .ret ⟨o?,o?⟩
theorem step_L3: ∀(d k:Nat),k+d=s.length->qJ (ny (s,(k:Int))) (fun v=>0<=v/\v<=s.length):=by intro d;induction d with|zero=>intro k h;rw[ny.eq_1,if_neg v?];exact .ret ⟨o?,o?⟩|succ d ih=>intro k h;obtain⟨b,hb⟩:=gl (l:=s) (k:=k) o?;rw[ny.eq_1,if_pos v?,ws o?];refine .go (gi hb) ?_;refine .bind (d8 b) fun v _=>?_;exact .ite (fun _=>ih (k+1) o?) fun _=> .ret ⟨o?,o?⟩
theorem WW(a wC:Int)(h0:0<=a)(h1:a<=s.length):qJ (sS s a wC) (fun v=>0<=v.1/\v.1<=s.length):=by have oX: ∀{o:Option Int},qJ o (fun v=>0<=v/\v<=s.length)->qJ (o>>=fun v=>some (v,(0:Int))) (fun v=>0<=v.1/\v.1<=s.length):=fun h=>qJ.bind h fun v hv=> .ret hv;unfold sS;refine .ite (fun _=> .ret ⟨u?,u?⟩) fun _=>?_;rw[if_neg v?];refine .bind (FK s hs a h0 h1) fun v hv=>?_;obtain⟨v1,v2⟩:=hv;have hbl:=Pu s;have htb:=V0 s a.toNat;refine .ite (fun _=>oX (LD s hs a h0 h1)) fun _=>?_;refine .ite (fun _=>oX (Aq s hs a h0 h1)) fun _=>?_;refine .ite (fun _=>?_) fun _=>?_;obtain⟨x,y,c,g1,g2,g3,g4,g5,_⟩:=Qg s hs v.1;exact .go g1 (.ret ⟨u?,u?⟩);refine .ite (fun _=>?_) fun _=>?_;obtain⟨x,y,c,g1,g2,g3,g4,g5,_⟩:=Qg s hs v.1;exact .go g2 (.ret ⟨u?,u?⟩);refine .ite (fun _=>C! (fun _=>?_) fun _=> .ret ⟨u?,u?⟩) fun _=>?_;exact .bind (Ws s hs _ _ v2) fun w hw=> .ret hw;refine .ite (fun _=>?_) fun _=>?_;refine .go (a:=((0::Jw s 0:List Int).length:Int)) (by unfold Qk;rw[Uf s hs];rfl) ?_;refine .ite (fun _=>?_) fun _=> .ret ⟨u?,u?⟩;exact .bind (Ws s hs _ _ v2) fun w hw=> .ret hw;refine .ite (fun _=> .ret ⟨u?,u?⟩) fun _=>?_;refine .ite (fun _=> .ret ⟨u?,u?⟩) fun _=>?_;obtain⟨k,rfl⟩: ∃k:Nat,a=k:=⟨a.toNat,o?⟩;refine .ite (fun _=>?_) fun _=>?_;refine .bind (step_L5 s hs k o?) fun w hw=>?_;obtain⟨j,rfl⟩: ∃j:Nat,w=j:=⟨w.toNat,o?⟩;exact oX (step_L7 s hs j o?);refine .bind (step_L1 s hs (s.length-k) k o?) fun w hw=>?_;obtain⟨j,rfl⟩: ∃j:Nat,w=j:=⟨w.toNat,o?⟩;exact oX (step_L3 s hs (s.length-j) j o?)
end
theorem head_in{n:Int}{q:List qy}(h:Wc n q){x:qy}(hx:x∈q):0<=x.head/\x.head<=n:=by have:=h x hx;have:=Q2 x;omega
theorem go_L0(s:qa)(hs:s.length<=2^28)(wC:Int)(ext:Bool)(l:Sl qy)(hl:l.l.length<=64)(hi:Wc s.length l.l): ∀(r:List qy)(i:Nat)(out:List qy),l.l.drop i=r->out.length<=i->i<=l.l.length->qJ (wQ (s,wC,ext,l,(i:Int),out)) (fun v=>v.length<=64):=by intro r;induction r with|nil=>intro i out h ho hi;have:=qW h;rw[wQ.eq_1,if_neg v?];exact .ret o?|cons x r ih=>(intro i out h ho MI;obtain⟨h1,h2,h3⟩:=zl h;have hx:=head_in hi (z7 h1);rw[wQ.eq_1,if_pos v?,ws o?];refine .go (gi h1) ?_;refine .go (Jv x) ?_;refine .bind (WW s hs x.head wC hx.1 hx.2) fun v hv=>?_;have k: ∀y:qy,qJ (if qg (out.length+1) 16=true then wQ (s,wC,ext,l,((i+1:Nat):Int),out++[y])else none) (fun v=>v.length<=64):=by intro y;rw[if_pos qA];exact ih (i+1) _ h2 v? o?);refine .ite (fun _=>C! (fun _=>C! (fun _=>C! (fun _=>k _) fun _=>k _) fun _=>C! (fun _=>k _) fun _=>k _) fun _=>k _) fun _=>k _
theorem go_tot(s:qa)(hs:s.length<=2^28)(wC:Int)(ext:Bool)(q:Sl qy)(hq:q.l.length<2^60):qJ (X9 s wC ext q) (fun v=>v.2=0->Kj s.length v.1.l):=by unfold X9;refine .ite (fun _=> .ret fun h=>absurd h (by decide)) fun _=>?_;refine .bind (i7 (s.length:Int) q hq) fun v hv=>?_;refine .ite (fun c=> .ret fun h=>absurd h (by simpa using c)) fun c=>?_;have hg:=hv (by simpa using c);refine .bind (go_L0 s hs wC ext v.1 hg.VJ hg.K7 v.1.l 0 [] rfl z? z?) fun w hw=>?_;exact .bind (i7 (s.length:Int) ⟨w.isEmpty,w⟩ u?) fun u hu=> .ret hu
theorem typed_L0(l:Sl qy)(text:qa)(hl:l.l.length<=64): ∀(r:List qy)(i:Nat)(es:List ql),l.l.drop i=r->es.length=i->qJ (ue (l,text,(i:Int),es)) (fun v=>v.length=es.length+r.length/\ ∀e∈v,e∈es\/e.text=text):=by intro r;induction r with|nil=>intro i es h ho;have:=qW h;rw[ue.eq_1,if_neg v?];exact .ret ⟨z?,fun e he=> .inl he⟩|cons x r ih=>intro i es h ho;obtain⟨h1,h2,h3⟩:=zl h;rw[ue.eq_1,if_pos v?,ws o?];refine .go (gi h1) ?_;refine .go (Jv x) ?_;rw[if_pos qA];refine .mono (ih (i+1) _ h2 v?) fun v hv=>⟨by have:=hv.1;simp at this |-; omega,fun e he=>?_⟩;rcases hv.2 e he with h|h;rcases m?.1 h with h|h;exact .inl h;simp only[d?]at h;subst h;exact .inr rfl;exact .inr h
theorem G4(l:List ql)(n:Nat)(h: ∀e∈l,e.text.length<=n):wR l<=l.length*n:=by induction l with|nil=>simp[wR]|cons e l ih=>have h1:=h e z?;have h2:=ih fun e' Vz=>h e' (by simp[Vz]);simp only[wR,s?,v!,g?]at*;rw[M?];omega
theorem E1(l:Sl qy)(text:qa)(hl:l.l.length<=64)(ht:text.length<=65536):qJ (cF l text) (fun v=>v.l.length<=64/\wR v.l<=4194304):=by
 unfold cF;refine .bind (typed_L0 l text hl l.l 0 [] rfl rfl) fun v hv=> .ret ?_;have h1:=hv.1;have h2:=G4 v 65536 fun e he=>by rcases hv.2 e he with h|h;simp at h;rw[h];exact ht
 simp only[e?,A?]at h1;refine⟨u?, ?_⟩;have:v.length*65536<=64*65536:=mulR _ o?;simp only;omega
theorem DU(s:qa)(hs:s.length<=2^28)(l:Sl qy)(f:Bool)(hl:l.l.length<=64)(hi:Wc s.length l.l): ∀(r:List qy)(i:Nat)(sp:List qn),l.l.drop i=r->sp.length<=i->i<=l.l.length->qJ (xm (s,l,f,(i:Int),sp)) (fun v=>v.length<=64):=by intro r;induction r with|nil=>intro i sp h ho MI;have:=qW h;rw[xm.eq_1,if_neg v?];exact .ret o?|cons x r ih=>(intro i sp h ho MI;obtain⟨h1,h2,h3⟩:=zl h;have hx:=hi x (z7 h1);have hle:=Q2 x;rw[xm.eq_1,if_pos v?,ws o?];refine .go (gi h1) ?_;refine .go (Jv x) ?_;refine .bind (WW s hs (uL x).qI 1 hx.1 o?) fun a ha=>?_;refine .bind (WW s hs (uL x).qI 2 hx.1 o?) fun b hb=>?_;have k: ∀y:qn,qJ (if qg (sp.length+1) 16=true then xm (s,l,f,((i+1:Nat):Int),sp++[y])else none) (fun v=>v.length<=64):=by intro y;rw[if_pos qA];exact ih (i+1) _ h2 v? o?);have k0:qJ (xm (s,l,f,((i+1:Nat):Int),sp)) (fun v=>v.length<=64):=ih (i+1) _ h2 o? o?;exact .ite (fun _=>C! (fun _=>C! (fun _=>k _) fun _=>k0) fun _=>C! (fun _=>k _) fun _=>k0) fun _=>C! (fun _=>k _) fun _=>k0
end Xr
namespace Xr
theorem touch5(a b:qn):sQ a b=some (decide (QQ a b)):=rfl
theorem union_L0(s:Sl qn)(hs:s.l.length<=2^20): ∀(r:List qn)(i:Nat)(out:List qn),s.l.drop i=r->out.length<=i->i<=s.l.length->qJ (km (s,(i:Int),out)) (fun v=>v.length<=s.l.length):=by intro r;induction r with|nil=>intro i out h ho hi;have:=qW h;rw[km.eq_1,if_neg v?];exact .ret o?|cons x r ih=>(intro i out h ho hi;obtain⟨h1,h2,h3⟩:=zl h;rw[km.eq_1,if_pos v?,ws o?];refine .go (gi h1) ?_;have k: ∀y:qn,qJ (if qg (out.length+1) 16=true then km (s,((i+1:Nat):Int),out++[y])else none) (fun v=>v.length<=s.l.length):=by intro y;rw[if_pos qA];exact ih (i+1) _ h2 v? o?);(refine .ite (fun _=>ih (i+1) _ h2 o? o?) fun _=>?_;refine .ite (fun c=>?_) fun _=>k _;have c0:0<out.length:=by simpa using c);rw[wi (n:=(out.length:Int)-1),show(out.length:Int)-1=((out.length-1:Nat):Int)from o?];obtain⟨y,hy⟩:=gl (l:=out) (k:=out.length-1) o?;refine .go (gi hy) ?_;refine .go (touch5 _ _) ?_;exact .ite (fun _=>ih (i+1) _ h2 (by rw[List.length_set];omega) o?) fun _=>k _
theorem XZ(l:Sl qn)(hl:l.l.length<=64):qJ (fZ l) (fun v=>v.l.length<=64):=by unfold fZ;have hp:=(tO id l.l []).length_eq;simp only[F?]at hp;refine .go (Mi l o?) ?_;refine .bind (union_L0 _ u? _ 0 [] rfl z? z?) fun v hv=> .ret ?_;simp only at hv |-;omega
theorem DV(u:Sl qn)(hu:u.l.length<=64): ∀(r:List qn)(i:Nat)(es:List ql),u.l.drop i=r->es.length<=i->i<=u.l.length->(∀ e∈es,e.text=[])->qJ (ye (u,(i:Int),es)) (fun v=>v.length<=64/\ ∀e∈v,e.text=[]):=by intro r;induction r with|nil=>intro i es h ho hi he;have:=qW h;rw[ye.eq_1,if_neg v?];exact .ret ⟨o?,he⟩|cons x r ih=>intro i es h ho hi he;obtain⟨h1,h2,h3⟩:=zl h;rw[ye.eq_1,if_pos v?,ws o?];refine .go (gi h1) ?_;rw[if_pos qA];refine ih (i+1) _ h2 v? o? fun e h=>?_;rcases m?.1 h with h|h;exact he e h;simp only[d?]at h;subst h;rfl
theorem PL(s:qa)(hs:s.length<=2^28)(l:Sl qy)(f:Bool)(hl:l.l.length<=64)(hi:Wc s.length l.l):qJ (rI s l f) (fun v=>v.l.length<=64/\wR v.l<=4194304):=by
 unfold rI;refine .bind (DU s hs l f hl hi l.l 0 [] rfl z? z?) fun v hv=>?_;refine .bind (XZ ⟨v.isEmpty,v⟩ hv) fun u hu=>?_;refine .bind (DV u hu u.l 0 [] rfl z? z? z?) fun w hw=> .ret ⟨hw.1, ?_⟩;have:=G4 w 0 fun e he=>by rw[hw.2 e he];simp
 simp only;omega
def free(x:qr):Prop:=x.qL=false
structure Nums (is:List qk) (ns:List Int):Prop where
 of: ∀n∈ns,gu n is≠[]
 len:ns.length<=2^24+1
theorem CU{n:Int}{is:List qk}{i:qk}(hi:i∈is){x:qr}(hx:x∈i.stops.l)(h1:x.n=n)(h2:x.qL=false):gu n is≠[]:=by
 intro h;have:x.span∈gu n is:=by unfold gu Xd;simp only[List.mem_flatMap,List.mem_map,P_,isN,zQ,w_,beq_iff_eq];exact⟨i,hi,x,⟨hx,h2,h1⟩,rfl⟩
 rw[h]at this;simp at this
structure P9 (is:List qk) (m:Nat) (ns:List Int) (z met:Bool):Prop where
 of: ∀n∈ns,gu n is≠[]
 zero:z=true->gu 0 is≠[]
 len:ns.length<=m
 met:met=true->ns≠[]\/z=true
theorem Tz(is:Sl qk)(hL:many is.l<=2^24)(i:Nat)(x:qk)(hx:is.l[i]? =some x)(hxl:x.stops.l.length<=2^12): ∀(r:List qr)(k:Nat)(m:Nat)(ns:Sl Int)(z met:Bool),x.stops.l.drop k=r->m+r.length<=2^24->P9 is.l m ns.l z met->
  qJ (xk (is,ns,z,(i:Int),(k:Int))) (fun v=>P9 is.l (m+r.length) v.1.l v.2 (met || r.any fun y=> !y.qL)):=by intro r;induction r with|nil=>intro k m ns z met h hm W;have:=qW h;rw[xk.eq_1];refine .go (gi hx) ?_;rw[if_neg v?];exact .ret (by simpa using W)|cons y r ih=>(intro k m ns z met h hm W;simp only[g?]at hm;obtain⟨h1,h2,h3⟩:=zl h;have Lh:=z7 hx;have Eo:=z7 h1;rw[xk.eq_1];refine .go (gi hx) ?_;rw[if_pos v?,ws o?];refine .go (gi h1) ?_;have hlen:=W.len;have oX: ∀(ns' :Sl Int)(z' :Bool),P9 is.l (m+1) ns'.l z' (met || !y.qL)->qJ (xk (is,ns',z',(i:Int),((k+1:Nat):Int))) (fun v=>P9 is.l (m+(y::r).length) v.1.l v.2 (met || (y::r).any fun y=> !y.qL)):=by intro ns' z' W';have:=ih (k+1) (m+1) ns' z' (met || !y.qL) h2 o? W';rw[show m+(y::r).length=m+1+r.length from by simp only[g?];omega,q1f,<- q1g];exact this);(have put: ∀z' :Bool,y.qL=false->(z' =true->gu 0 is.l≠[])->qJ (tU ns y.n>>=fun v=>xk (is,v,z',(i:Int),((k+1:Nat):Int))) (fun v=>P9 is.l (m+(y::r).length) v.1.l v.2 (met || (y::r).any fun y=> !y.qL)):=by intro z' ht hz;refine .bind (C5 ns y.n o?) fun v hv=>?_;obtain⟨v1,v2,v3,v4⟩:=hv;refine oX v z' ⟨fun n hn=>?_,hz,o?,fun _=> .inl ?_⟩;rcases v2 n hn with rfl|h;exact CU Lh Eo rfl ht;exact W.of n h;intro h;rw[h]at v3;simp at v3);refine .ite (fun c=>?_) fun c=>?_;(have ht:y.qL=false:=by simpa using c);refine .ite (fun c2=>?_) fun c2=>?_;have h0:gu 0 is.l≠[]:=CU Lh Eo (by simpa using c2) ht;refine .ite (fun _=>put true ht fun _=>h0) fun _=>?_;exact oX ns true ⟨W.of,fun _=>h0,o?,fun _=> .inr rfl⟩;refine .ite (fun _=>put z ht W.zero) fun c3=>?_;simp at c2 c3;exact absurd c3 c2;(have ht:y.qL=true:=by simpa using c);exact oX ns z ⟨W.of,W.zero,o?,by rw[ht];simpa using W.met⟩
theorem Ty(is:Sl qk)(hL:many is.l<=2^24)(hb: ∀i∈is.l,i.stops.l.length<=2^12)(hn:is.l.length<=2^12): ∀(r:List qk)(i m:Nat)(ns:Sl Int)(z met:Bool),is.l.drop i=r->m+many r<=2^24->P9 is.l m ns.l z met->
  qJ (wN (is,ns,z,(i:Int))) (fun v=>P9 is.l (m+many r) v.1.l v.2 (met || r.any fun x=>x.stops.l.any fun y=> !y.qL)):=by intro r;induction r with|nil=>intro i m ns z met h hm W;have:=qW h;rw[wN.eq_1,if_neg v?];exact .ret (by simpa[many]using W)|cons x r ih=>(intro i m ns z met h hm W;obtain⟨h1,h2,h3⟩:=zl h;have hx:=hb x (z7 h1);have hmc:many (x::r)=x.stops.l.length+many r:=by simp[many]);rw[wN.eq_1,if_pos v?,ws o?];refine .bind (Tz is hL i x h1 hx x.stops.l 0 m ns z met rfl o? W) fun v hv=>?_;have:=ih (i+1) (m+x.stops.l.length) v.1 v.2 _ h2 o? hv;rw[hmc,<- Nat.add_assoc,q1f,<- q1g];exact this
theorem lR(is:Sl qk)(hb: ∀i∈is.l,i.stops.l.length<=2^12)(hn:is.l.length<=2^12):qJ (gI is) (fun v=>Nums is.l v.l/\((∃ i∈is.l,∃ x∈i.stops.l,x.qL=false)->v.l≠[])):=by
 have h1:=ZX hb;have h2:is.l.length*2^12<=2^12*2^12:=x_ hn (jv _);have hm:many is.l<=2^24:=o?;unfold gI;refine .bind (Ty is hm hb hn is.l 0 0 ⟨true,[]⟩ false false rfl o? ⟨z?,z?,z?,z?⟩) fun v hv=>?_;have hlen:=hv.len;have hmet:(∃ i∈is.l,∃ x∈i.stops.l,x.qL=false)->v.1.l≠[]\/v.2=true:=by rintro⟨i,hi,x,hx,h⟩;refine hv.met ?_;simp only[Bool.false_or,List.any_eq_true];exact⟨i,hi,x,hx,by simp[h]⟩
 refine .ite (fun c=>?_) fun c=>?_;refine .zz qA (qJ.zz qA (.ret ⟨⟨fun n hn=>?_,v?⟩,fun _=>z?⟩));rcases m?.1 hn with h|h;exact hv.of n h;simp only[d?]at h;subst h;exact hv.zero c;refine .ret ⟨⟨hv.of,o?⟩,fun h=>?_⟩;rcases hmet h with h|h;exact h;exact absurd h c
theorem Y3(a b:Int):qJ (tY a b) (fun _=>True):=by unfold tY;split;split<;>exact .ret trivial;exact .ret trivial
theorem q08(cur:Int)(is:Sl qk)(hb: ∀i∈is.l,i.stops.l.length<=2^12)(hn:is.l.length<=2^12):qJ (fN cur is) (fun v=>v.2=true->gu v.1 is.l≠[]):=by
 have loop: ∀(ns:Sl Int),Nums is.l ns.l-> ∀(d k:Nat),k+d=ns.l.length->qJ (gH (cur,ns,(k:Int))) (fun v=>match v with| .inl y=>y.2=true->gu y.1 is.l≠[]| .inr _=>True):=by intro ns hN d;have:=hN.len;induction d with|zero=>intro k h;rw[gH.eq_1,if_neg v?];exact .ret trivial|succ d ih=>intro k h;obtain⟨x,hx⟩:=gl (l:=ns.l) (k:=k) o?;rw[gH.eq_1,if_pos v?,ws o?];refine .go (gi hx) ?_;refine .bind (Y3 _ _) fun v _=>?_;exact .ite (fun _=> .ret fun _=>hN.of x (z7 hx)) fun _=>ih (k+1) o?
 unfold fN;refine .bind (lR is hb hn) fun v hv=>?_;refine .bind (loop v hv.1 v.l.length 0 o?) fun w hw=>?_;rcases w with w|w;exact .ret hw;exact .ret fun h=>absurd h (by decide)
theorem prev_tot(cur:Int)(is:Sl qk)(hb: ∀i∈is.l,i.stops.l.length<=2^12)(hn:is.l.length<=2^12):qJ (fO cur is) (fun v=>v.2=true->gu v.1 is.l≠[]):=by
 have loop: ∀(ns:Sl Int),Nums is.l ns.l-> ∀k:Nat,k<=ns.l.length->qJ (gJ (cur,ns,(k:Int)-1)) (fun v=>match v with| .inl y=>y.2=true->gu y.1 is.l≠[]| .inr _=>True):=by intro ns hN k;have:=hN.len;induction k with|zero=>intro h;rw[gJ.eq_1,if_neg z?];exact .ret trivial|succ k ih=>intro h;obtain⟨x,hx⟩:=gl (l:=ns.l) (k:=k) o?;rw[show ((k+1:Nat):Int)-1=(k:Int)from o?,gJ.eq_1,if_pos z?,wi (n:=(k:Int)-1)];refine .go (gi hx) ?_;refine .bind (Y3 _ _) fun v _=>?_;exact .ite (fun _=> .ret fun _=>hN.of x (z7 hx)) fun _=>ih o?
 unfold fO;refine .bind (lR is hb hn) fun v hv=>?_;have:=hv.1.len;rw[wi (n:=(v.l.length:Int)-1)];refine .bind (loop v hv.1 v.l.length (jv _)) fun w hw=>?_;rcases w with w|w;exact .ret hw;exact .ret fun h=>absurd h (by decide)
end Xr
namespace Xr
theorem vj.sel{st:qw}(h:vj st){q:Sl qy}(g:Kj st.text.length q.l):vj ⟨st.text,q,st.qm⟩:=
 ⟨⟨h.may.text,h.may.di,g.ne,g.VJ,g.K7,g.S7,h.may.may,h.may.lies⟩,h.small,h.stop,h.JH⟩
theorem RX.take{ss:List qb}(h:RX ss)(k:Nat):RX (ss.take k):=by intro j s hs;have hj:=(qF hs).1;rw[W_]at hj;rw[Y? o?]at hs;obtain⟨h1,h2⟩:=h j s hs;exact tW
theorem vj.take{st:qw}(h:vj st)(k:Nat)(b:Bool):vj ⟨st.text,st.xO,⟨b,st.qm.l.take k⟩⟩:=
 ⟨⟨h.may.text,by simp only[W_];have:=h.may.di;omega,h.may.ne,h.may.VJ,h.may.K7,h.may.S7,fun s hs=>h.may.may s (W? hs),h.may.lies.take k⟩,
  fun s hs=>h.small s (W? hs),fun s hs=>h.stop s (W? hs),fun s hs=>h.JH s (W? hs)⟩
theorem vj.cur{st:qw}(h:vj st)(ss:List qb)(s:qb)(e:st.qm.l=ss++[s])(n:Int)(hn:gu n s.insts.l≠[])(b:Bool):vj ⟨st.text,st.xO,⟨b,ss++[⟨n,s.insts⟩]⟩⟩:=by
 have hm: ∀{P:qb->Prop},(∀ x∈st.qm.l,P x)->P ⟨n,s.insts⟩-> ∀x∈ss++[(⟨n,s.insts⟩:qb)],P x:=by intro P h1 h2 x hx;rcases m?.1 hx with hx|hx;exact h1 x (by rw[e];exact List.mem_append_left _ hx);simp only[d?]at hx;subst hx;exact h2
 have hs:s∈st.qm.l:=by rw[e];simp
 have hl:=h.may.di;rw[e]at hl;refine⟨⟨h.may.text,by simpa using hl,h.may.ne,h.may.VJ,h.may.K7,h.may.S7,hm h.may.may (h.may.may s hs), ?_⟩,hm h.small (h.small s hs),hm h.stop (h.stop s hs),hm h.JH hn⟩;have hL:=h.may.lies;rw[e]at hL;intro j x hx;have hj:=(qF hx).1;simp only[t?,k!]at hj;have hprev: ∀p,0<j->(ss++[(⟨n,s.insts⟩:qb)])[j-1]? =some p->(ss++[s])[j-1]? =some p:=by intro p h0 hp;rw[p? o?]at hp |-;exact hp
 by_cases c:j<ss.length;rw[p? c]at hx;obtain⟨h1,h2⟩:=hL j x (by rw[p? c];exact hx);exact⟨h1,fun h0 p hp=>h2 h0 p (hprev p h0 hp)⟩;have Sq:j=ss.length:=o?;subst Sq;rw[J? (jv _)]at hx;simp only[Nat.sub_self,a?,kG]at hx;subst hx;obtain⟨h1,h2⟩:=hL ss.length s (by rw[J? (jv _)];simp);exact⟨h1,fun h0 p hp=>h2 h0 p (hprev p h0 hp)⟩
theorem OB(n k:Int)(sp:Sl qn)(st t4:qw)(s:qb)(hs:sp.l.length<=2^24): ∀(r:List qn)(i:Nat)(l:List qy),sp.l.drop i=r->l.length<=i->i<=sp.l.length->qJ (uD (n,k,sp,(i:Int),st,t4,s,l)) (fun v=>v.length<=2^24):=by intro r;induction r with|nil=>intro i l h ho hi;have:=qW h;rw[uD.eq_1,if_neg v?];exact .ret o?|cons x r ih=>intro i l h ho hi;obtain⟨h1,h2,h3⟩:=zl h;rw[uD.eq_1,if_pos v?,ws o?];refine .go (gi h1) ?_;rw[if_pos qA];exact ih (i+1) _ h2 v? o?
theorem DR(n k:Int)(sp:Sl qn)(st t4:qw)(s:qb)(hs:sp.l.length<=2^24): ∀(r:List qn)(i:Nat)(l:List qy),sp.l.drop i=r->l.length<=i->i<=sp.l.length->qJ (wP (n,k,sp,(i:Int),st,t4,s,l)) (fun v=>v.length<=2^24):=by intro r;induction r with|nil=>intro i l h ho hi;have:=qW h;rw[wP.eq_1,if_neg v?];exact .ret o?|cons x r ih=>intro i l h ho hi;obtain⟨h1,h2,h3⟩:=zl h;rw[wP.eq_1,if_pos v?,ws o?];refine .go (gi h1) ?_;rw[if_pos qA];exact ih (i+1) _ h2 v? o?
theorem Wh{α:Type}{l:List α}{x:α}(h:l[l.length-1]? =some x):l=l.take (l.length-1)++[x]:=by
 obtain⟨h1,h2⟩:=qF h;have h3:l.take (l.length-1+1)=l.take (l.length-1)++[x]:=by rw[List.take_add_one,h];rfl
 exact tW
section
variable {st:qw} (h:vj st)
include h
theorem spl(x:qb)(hx:x∈st.qm.l)(n:Int):wu n x.insts=some ⟨(gu n x.insts.l).isEmpty,gu n x.insts.l⟩/\(gu n x.insts.l).length<=2^24:=
 ⟨Xe n x.insts (h.small x hx).2 (h.small x hx).1,WQ (h.small x hx) n⟩
theorem DT(n:Int)(hn: ∀x∈st.qm.l,st.qm.l[st.qm.l.length-1]? =some x->gu n x.insts.l≠[])(jx:st.qm.l≠[]):qJ (mS st.text st.xO n st.qm.l) (fun v=>v.2=0->vj v.1):=by have hl:=h.may.di;have pT:=q!.2 jx;unfold mS;rw[wi (n:=(st.qm.l.length:Int)-1),show(st.qm.l.length:Int)-1=((st.qm.l.length-1:Nat):Int)from o?];obtain⟨x,hx⟩:=gl (l:=st.qm.l) (k:=st.qm.l.length-1) o?;have Lh:=z7 hx;refine .go (gi hx) ?_;obtain⟨s1,s2⟩:=spl h x Lh n;refine .go s1 ?_;refine .bind (OB n _ ⟨(gu n x.insts.l).isEmpty,gu n x.insts.l⟩ _ _ x s2 _ 0 [] rfl z? z?) fun w hw=>?_;refine .bind (i7 (st.text.length:Int) ⟨w.isEmpty,w⟩ u?) fun u hu=>?_;refine .ite (fun c=> .ret fun h0=>absurd h0 (by simpa using c)) fun c=>?_;have hg:=hu (by simpa using c);refine .go (JI _ _ o?) ?_;refine .zz (qA v? o?) ?_;have Wa:=vj.sel h hg;refine .ite (fun _=>qJ.zz (qA v? o?) (.ret fun _=>?_)) fun _=> .ret fun _=>?_;exact Wa.cur _ x (Wh hx) n (hn x Lh hx) false;exact Wa.take _ false
theorem Z0(n:Int)(hn: ∀x∈st.qm.l,st.qm.l[st.qm.l.length-1]? =some x->gu n x.insts.l≠[])(jx:st.qm.l≠[]):qJ (gN st n) (fun v=>v.2=0->vj v.1):=by have hl:=h.may.di;have pT:=q!.2 jx;unfold gN;rw[wi (n:=(st.qm.l.length:Int)-1),show(st.qm.l.length:Int)-1=((st.qm.l.length-1:Nat):Int)from o?];obtain⟨x,hx⟩:=gl (l:=st.qm.l) (k:=st.qm.l.length-1) o?;have Lh:=z7 hx;refine .go (gi hx) ?_;obtain⟨s1,s2⟩:=spl h x Lh n;refine .go s1 ?_;refine .bind (DR n _ ⟨(gu n x.insts.l).isEmpty,gu n x.insts.l⟩ _ _ x s2 _ 0 [] rfl z? z?) fun w hw=>?_;refine .bind (i7 (st.text.length:Int) ⟨w.isEmpty,w⟩ u?) fun u hu=>?_;refine .ite (fun c=> .ret fun h0=>absurd h0 (by simpa using c)) fun c=>?_;have hg:=hu (by simpa using c);refine .go (JI _ _ o?) ?_;refine .zz (qA v? o?) ?_;have Wa:=vj.sel h hg;refine .ite (fun _=>qJ.zz (qA v? o?) (.ret fun _=>?_)) fun _=> .ret fun _=>?_;exact Wa.cur _ x (Wh hx) n (hn x Lh hx) false;exact Wa.take _ false
theorem Na(jx:st.qm.l≠[]):qJ (sO st) vj:=by have hl:=h.may.di;have pT:=q!.2 jx;unfold sO;rw[wi (n:=(st.qm.l.length:Int)-1),show(st.qm.l.length:Int)-1=((st.qm.l.length-1:Nat):Int)from o?];refine .go (JI _ _ o?) ?_;exact .zz (qA v? o?) (.ret (h.take _ false))
theorem Wl{α:Type}{k:Bool->Option α}{Q:α->Prop}(hk:qJ (k true) Q):qJ (bo st>>=k) Q:=by obtain⟨t,m1,m2⟩:=Nh st h.small (by have:=h.may.VJ;omega);obtain rfl:=m2.2 h.may;exact .go m1 hk
theorem Tv:qJ (fV st) (fun v=>v.2=0->vj v.1):=by
 have hl:=h.may.di;unfold fV;refine Wl h ?_;rw[if_neg z?];refine .ite (fun _=> .ret fun h0=>absurd h0 (by decide)) fun c=>?_;have jx:st.qm.l≠[]:=by intro e;rw[e]at c;simp at c
 have pT:=q!.2 jx;rw[wi (n:=(st.qm.l.length:Int)-1),show(st.qm.l.length:Int)-1=((st.qm.l.length-1:Nat):Int)from o?];obtain⟨x,hx⟩:=gl (l:=st.qm.l) (k:=st.qm.l.length-1) o?;have hs:=h.small x (z7 hx);refine .go (gi hx) ?_;refine .bind (q08 x.cur x.insts hs.2 hs.1) fun v hv=>?_;refine .ite (fun _=>qJ.bind (Na h jx) fun u hu=> .ret fun _=>hu) fun c2=>?_;refine .bind (Z0 h v.1 (fun y _ hy=>?_) jx) fun u hu=> .ret hu;rw[hx]at hy;cases hy;exact hv (by simpa using c2)
theorem TO:qJ (fW st) (fun v=>v.2=0->vj v.1):=by
 have hl:=h.may.di;unfold fW;refine Wl h ?_;rw[if_neg z?];refine .ite (fun _=> .ret fun h0=>absurd h0 (by decide)) fun c=>?_;have jx:st.qm.l≠[]:=by intro e;rw[e]at c;simp at c
 have pT:=q!.2 jx;rw[wi (n:=(st.qm.l.length:Int)-1),show(st.qm.l.length:Int)-1=((st.qm.l.length-1:Nat):Int)from o?];obtain⟨x,hx⟩:=gl (l:=st.qm.l) (k:=st.qm.l.length-1) o?;have hs:=h.small x (z7 hx);refine .go (gi hx) ?_;refine .bind (prev_tot x.cur x.insts hs.2 hs.1) fun v hv=>?_;refine .ite (fun _=> .ret fun h0=>absurd h0 (by decide)) fun c2=>?_;refine .bind (Z0 h v.1 (fun y _ hy=>?_) jx) fun u hu=> .ret hu;rw[hx]at hy;cases hy;exact hv (by simpa using c2)
theorem N9:qJ (cU st) (fun v=>v.2=0->vj v.1):=by unfold cU;refine Wl h ?_;rw[if_neg z?];have:= @Na;exact tW
theorem DG(k n:Int)(x:qb)(hx:x∈st.qm.l)(a:Nat)(i:qk)(hi:x.insts.l[a]? =some i)(t4:qw): ∀(r:List qr)(j:Nat)(has f:Bool)(es:List ql),i.stops.l.drop j=r->es.length<=a+(if f=true then 1 else 0)->wR es<=es.length*17592186044416->
  qJ (xL (k,n,has,(a:Int),f,(j:Int),st,t4,x,es)) (fun v=>v.2.length<=a+1/\wR v.2<=v.2.length*17592186044416):=by have hs:=h.small x hx;have ha:=(qF hi).1;have db:=hs.2 i (z7 hi);have ha12:=hs.1;intro r;induction r with|nil=>intro j has f es h0 h1 h2;have:=qW h0;rw[xL.eq_1];refine .go (gi hi) ?_;rw[if_neg v?];exact .ret ⟨by simp only;split at h1<;>omega,h2⟩|cons y r ih=>(intro j has f es h0 h1 h2;obtain⟨g1,g2,g3⟩:=zl h0;have hso:=h.stop x hx i (z7 hi) y (z7 g1);rw[xL.eq_1];refine .go (gi hi) ?_;rw[if_pos v?,ws o?];refine .go (gi g1) ?_;refine .ite (fun _=>ih (j+1) _ _ _ g2 h1 h2) fun _=>?_;have take: ∀has' :Bool,((!f)&&((decide (k>=(0:Int)))&&(decide (k<(y.opts.l.length:Int)))))=true->qJ (qh y.opts.l k>>=fun z=>if qg (es.length+1) 32=true then xL (k,n,has',(a:Int),true,((j+1:Nat):Int),st,t4,x,es++[(ql.mk y.span z)])else none) (fun v=>v.2.length<=a+1/\wR v.2<=v.2.length*17592186044416):=by (intro has' c;simp only[zQ,w_,decide_eq_true_eq]at c;obtain⟨c1,c2,c3⟩:=c;subst c1;simp only[wA,if_false,D?]at h1;refine .bind (qJ.get o? c3) fun z hz=>?_;have hzl:=hso.2.1 z hz.2;rw[if_pos qA];refine ih (j+1) _ _ _ g2 v? ?_;have:wR (es++[(ql.mk y.span z)])=wR es+z.length:=by simp[wR]);rw[this,t?,k!,M?];omega);exact .ite (fun _=>C! (fun c=>take _ c) fun _=>ih (j+1) _ _ _ g2 h1 h2) fun _=>C! (fun c=>take _ c) fun _=>ih (j+1) _ _ _ g2 h1 h2
theorem DF(k n:Int)(x:qb)(hx:x∈st.qm.l)(t4:qw): ∀(r:List qk)(a:Nat)(has:Bool)(es:List ql),x.insts.l.drop a=r->a<=x.insts.l.length->es.length<=a->wR es<=es.length*17592186044416->
  qJ (yj (k,n,has,(a:Int),st,t4,x,es)) (fun v=>v.2.length<=4096/\wR v.2<=v.2.length*17592186044416):=by have hs:=h.small x hx;have ha12:=hs.1;intro r;induction r with|nil=>intro a has es h0 Vb h1 h2;have:=qW h0;rw[yj.eq_1,if_neg v?];exact .ret ⟨u?,h2⟩|cons i r ih=>intro a has es h0 Vb h1 h2;obtain⟨g1,g2,g3⟩:=zl h0;rw[yj.eq_1,if_pos v?,ws o?];have:= @DG;exact tW
end
end Xr
theorem Xw(s lead unit:qa)(hs:s.length<=8192002)(hl:lead.length<=1048576)(hu:unit.length<=1048576):qJ (bF s lead unit) (fun r=>r.length<=17592186044416):=by
 have key: ∀(r:qa)(k:Nat)(behind:Bool)(b:qa),s.drop k=r->k<=s.length->b.length<=2097153*k->qJ (xn (s,lead,unit,behind,(k:Int),b)) (fun r=>r.length<=17592186044416):=by (have WG: ∀n,n<=17592186044416->qg n 1=true:=by intro n hn;simp only[qg,zQ,decide_eq_true_eq];omega);intro r;induction r with|nil=>intro k behind b hk BS hb;rw[xn.eq_1,if_neg (by simpa using yq hk)];exact .ret o?|cons c r ih=>(intro k behind b hk BS hb;obtain⟨a1,a2,a3,a4⟩:=wV hk;have next: ∀(h:Bool)(e:qa),e.length<=b.length+2097153->qJ (xn (s,lead,unit,h,((k+1:Nat):Int),e)) (fun r=>r.length<=17592186044416):=fun h e he=>ih (k+1) h e a3 o? o?);rw[xn.eq_1,if_pos (by simpa using a1),lg o? a1,a2];exact tW
 unfold bF;exact tW
theorem Yh(name:qa)(env:Sl qv)(he:env.l.length<=1099511627776):qJ (yU name env) (fun r=>(∃ p∈env.l,r.1=p.value)\/(r.1=[]/\r.2=false)):=by
 have key: ∀(r:List qv)(k:Nat),env.l.drop k=r->qJ (vd (name,env,(k:Int))) (fun v=>match v with| .inl y=> ∃p∈env.l,y.1=p.value| .inr _=>True):=by intro r;induction r with|nil=>intro k hk;rw[vd.eq_1,if_neg (by simpa using yq hk)];exact .ret trivial|cons c r ih=>intro k hk;obtain⟨a1,a2,a3,a4⟩:=wV hk;rw[vd.eq_1,if_pos (by simpa using a1),lg o? a1];exact tW
 unfold yU;exact tW
theorem Jk(name:qa):qJ (tV name) (fun _=>True):=by
 have key: ∀(l:Sl qa)(hl:l.l.length<=1000)(r:List qa)(k:Nat),l.l.drop k=r->qJ (um (name,l,(k:Int))) (fun _=>True):=by intro l hl r;induction r with|nil=>intro k hk;rw[um.eq_1,if_neg (by simpa using yq hk)];exact .ret trivial|cons c r ih=>intro k hk;obtain⟨a1,a2,a3,a4⟩:=wV hk;rw[um.eq_1,if_pos (by simpa using a1),lg o? a1];exact tW
 unfold tV aV;refine .go rfl ?_;refine .bind (key _ z? _ 0 rfl) fun v _=>?_;rcases v with v|v<;>exact .ret trivial
theorem tJ(n:Int)(l:List Int)(hl:l.length<=1099511627776):qJ (yO n l) (fun r=>r=true↔n∈l):=by
 have key: ∀(r:List Int)(k:Nat),l.drop k=r->qJ (ur (n,(k:Int),l)) (fun v=>(v= .inl true/\n∈r)\/(v= .inr ()/\n∉r)):=by intro r;induction r with|nil=>intro k hk;rw[ur.eq_1,if_neg (by simpa using yq hk)];exact .ret (.inr ⟨rfl,z?⟩)|cons c r ih=>intro k hk;obtain⟨a1,a2,a3,a4⟩:=wV hk;rw[ur.eq_1,if_pos (by simpa using a1),lg o? a1];refine .go a2 ?_;exact tW
 unfold yO;exact tW
abbrev Pt:=qc
inductive tn:Int->Nat->List Pt->Prop
 |nil (up:Int) (b:Nat):tn up b []
 |cons (up:Int) (b:Nat) (x:Pt) (qz rest:List Pt) (hu:x.up=up) (he:x.end_=((b+1+qz.length:Nat):Int)) (hd:x.xW=false->qz=[]) (ho:x.opts.l≠[]->qz=[])
   (hk:tn b (b+1) qz) (hr:tn up (b+1+qz.length) rest):tn up b (x::(qz++rest))
theorem tn.app{up:Int}{b:Nat}{l r:List Pt}(h:tn up b l):tn up (b+l.length) r->tn up b (l++r):=by
 induction h with
 |nil up b=>intro hr;simpa using hr
 |cons up b x qz rest hu he hd ho hk _ _ ih=>
  intro hr;have:=tn.cons up b x qz (rest++r) hu he hd ho hk (ih (by
   have:b+(x::(qz++rest)).length=b+1+qz.length+rest.length:=v?
   rwa[this]at hr))
  simpa using this
theorem tn.one{up:Int}{b:Nat}(x:Pt)(hu:x.up=up)(he:x.end_=((b+1:Nat):Int)):tn up b [x]:=by simpa using tn.cons up b x [] [] hu (by simpa using he) (fun _=>rfl) (fun _=>rfl) (.nil _ _) (.nil _ _)
structure E6 (k:Nat) (x:Pt):Prop where
 kind:0<=x.kind/\x.kind<=2
 other:x.kind≠1->x.n=0/\x.xW=false/\x.opts.l=[]
 n: -(k:Int)<=x.n/\x.n<=9999
 qR:vq x.qR<=1000000000
 dt:x.xW=true->x.qL=false
 od:x.xW=false->x.opts.l=[]
 tt:x.qL=true->x.text.length<=1048576
 tl:x.text.length<=17592186044416
 ol:(∀ o∈x.opts.l,o.length<=17592186044416)/\QP x.opts=0/\x.opts.l.length<=8192002
theorem E6.mono{j k:Nat}(h:j<=k){x:Pt}(p:E6 j x):E6 k x:=⟨p.kind,p.other,⟨by have:=p.n;omega,p.n.2⟩,p.qR,p.dt,p.od,p.tt,p.tl,p.ol⟩
def defs(r:List Pt):List Int:=(r.filter (·.xW)).map (·.n)
structure sq (r:List Pt) (ds:List Int) (ns:List qa):Prop where
 ok: ∀x∈r,E6 ns.length x
 dk: ∀n∈defs r,n∈ds
 un:(defs r).Nodup
 dl:ds.length<=r.length
 nl:ns.length<=r.length
structure oV (env:Sl qv) (lead unit:qa) (up:Int) (r:List Pt) (ns:List qa) (m:Nat) (v:Sl qv×qa×qa×List Pt×List Int×List qa):Prop where
 e1:v.1=env
 e2:v.2.1=lead
 e3:v.2.2.1=unit
 ex: ∃t,v.2.2.2.1=r++t/\tn up r.length t/\t.length<=2*m
 inv:sq v.2.2.2.1 v.2.2.2.2.1 v.2.2.2.2.2
 ns:ns.length<=v.2.2.2.2.2.length
theorem me(p:Pt)(b:Sl qv)(b2 b3:qa)(r:List Pt)(r2:List Int)(r3:List qa)(h:r.length<=100000000):
  qJ (zX p b b2 b3 r r2 r3) (fun v=>v=r++[{ p with end_:=((r.length+1:Nat):Int) }]):=by unfold zX;have:= @wr;exact tW
theorem ct(a b:List Pt):defs (a++b)=defs a++defs b:=by simp[defs]
theorem cu(x:Pt):defs [x]=if x.xW then[x.n]else[]:=by unfold defs;cases h:x.xW<;>simp[h]
theorem sq.put{r:List Pt}{ds:List Int}{ns:List qa}(h:sq r ds ns)(x:Pt)(hx:E6 ns.length x)(hd:x.xW=false):sq (r++[x]) ds ns where
 ok:=by intro y hy;rcases m?.1 hy with hy|hy;exact h.ok y hy;exact tW
 dk:=by rw[ct,cu,hd];simpa using h.dk
 un:=by rw[ct,cu,hd];simpa using h.un
 dl:=by have:=h.dl;simp;omega
 nl:=by have:=h.nl;simp;omega
theorem sq.define{r:List Pt}{ds:List Int}{ns:List qa}(h:sq r ds ns)(x:Pt)(hx:E6 ns.length x)(hd:x.xW=true)(hn:x.n∉ds):sq (r++[x]) (ds++[x.n]) ns where
 ok:=by intro y hy;rcases m?.1 hy with hy|hy;exact h.ok y hy;exact tW
 dk:=by rw[ct,cu,hd];intro n hn;rcases m?.1 hn with hn|hn;exact m?.2 (.inl (h.dk n hn));exact m?.2 (.inr hn)
 un:=by rw[ct,cu,hd];refine x!.2 ⟨h.un,z?,fun a ha b hb=>?_⟩;simp only[if_true,d?]at hb;subst hb;exact fun e=>hn (e ▸ h.dk a ha)
 dl:=by have:=h.dl;simp;omega
 nl:=by have:=h.nl;simp;omega
theorem sq.putN{r:List Pt}{ds:List Int}{ns ms:List qa}(h:sq r ds ns)(hm:ns.length<=ms.length/\ms.length<=ns.length+1)(x:Pt)(hx:E6 ms.length x)(hd:x.xW=false):sq (r++[x]) ds ms where
 ok:=by intro y hy;rcases m?.1 hy with hy|hy;exact(h.ok y hy).mono hm.1;exact tW
 dk:=by rw[ct,cu,hd];simpa using h.dk
 un:=by rw[ct,cu,hd];simpa using h.un
 dl:=by have:=h.dl;simp;omega
 nl:=by have:=h.nl;simp;omega
theorem sq.defineN{r:List Pt}{ds:List Int}{ns ms:List qa}(h:sq r ds ns)(hm:ns.length<=ms.length/\ms.length<=ns.length+1)(x:Pt)(hx:E6 ms.length x)(hd:x.xW=true)(hn:x.n∉ds):sq (r++[x]) (ds++[x.n]) ms where
 ok:=by intro y hy;rcases m?.1 hy with hy|hy;exact(h.ok y hy).mono hm.1;exact tW
 dk:=by rw[ct,cu,hd];intro n hn;rcases m?.1 hn with hn|hn;exact m?.2 (.inl (h.dk n hn));exact m?.2 (.inr hn)
 un:=by rw[ct,cu,hd];refine x!.2 ⟨h.un,z?,fun a ha b hb=>?_⟩;simp only[if_true,d?]at hb;subst hb;exact fun e=>hn (e ▸ h.dk a ha)
 dl:=by have:=h.dl;simp;omega
 nl:=by have:=h.nl;simp;omega
theorem sq.names{r:List Pt}{ds:List Int}{ns:List qa}(h:sq r ds ns){ms:List qa}(h1:ns.length<=ms.length)(h2:ms.length<=r.length):sq r ds ms:=
 ⟨fun x hx=>(h.ok x hx).mono h1,h.dk,h.un,h.dl,h2⟩
theorem sq.J7{r t:List Pt}{p q:Pt}{ds:List Int}{ns:List qa}(h:sq (r++p::t) ds ns)(e:Int)(hq:q={ p with end_:=e }):sq (r++q::t) ds ns where
 ok:=by subst hq;intro y hy;rcases m?.1 hy with hy|hy;exact h.ok y (by simp[hy]);rcases U?.1 hy with rfl|hy;have:=h.ok p z?;exact⟨this.kind,this.other,this.n,this.qR,this.dt,this.od,this.tt,this.tl,this.ol⟩;exact h.ok y (by simp[hy])
 dk:=by (have e1:defs (r++q::t)=defs (r++p::t):=by subst hq;simp only[defs,L',T!];cases p.xW<;>simp);rw[e1];exact h.dk
 un:=by (have e1:defs (r++q::t)=defs (r++p::t):=by subst hq;simp only[defs,L',T!];cases p.xW<;>simp);rw[e1];exact h.un
 dl:=by have:=h.dl;simpa using this
 nl:=by have:=h.nl;simpa using this
theorem UQ:vq da=1:=by simp[da,Q8,vq,yn,dD,Zk,qO]
structure GI (env:Sl qv) (lead unit:qa):Prop where
 len:env.l.length<=1099511627776
 val: ∀p∈env.l,p.value.length<=1048576
 lead:lead.length<=1048576
 unit:unit.length<=1048576
section
variable {env:Sl qv} {lead unit:qa}
theorem Jn(name:qa)(r:List Pt)(r2:List Int)(ns:List qa)(hn:ns.length<=100000000):
  qJ (yV name env lead unit r r2 ns) (fun v=>ns.length<=v.2.length/\v.2.length<=ns.length+1/\ -(v.2.length:Int)<=v.1/\v.1<0):=by
 have key: ∀(q:List qa)(k:Nat),ns.drop k=q->qJ (jY (name,(k:Int),env,lead,unit,r,r2,ns)) (fun v=>match v with| .inl y=> -(ns.length:Int)<=y/\y<0| .inr _=>True):=by intro q;induction q with|nil=>intro k hk;rw[jY.eq_1,if_neg (by simpa using yq hk)];exact .ret trivial|cons c q ih=>intro k hk;obtain⟨a1,a2,a3,a4⟩:=wV hk;rw[jY.eq_1,if_pos (by simpa using a1),lg o? a1];have:= @wr;exact tW
 unfold yV;refine .bind (key ns 0 rfl) fun v hv=>?_;rcases v with v|v;exact tW;have:= @wr;exact tW
theorem Wv(plain:Bool)(a:Int)(r:List Pt)(r2:List Int)(r3:List qa)(x:qC)(hx:pO x<=8192002)(hE:GI env lead unit)(p1:Int)(p2:qa)(p3:Int)(d:Bool)(p5 p6:Bool)(p7:Int)(p8:qa)(p9:Bool)(p10:Sl qV)(p11 p12:Int)(p13:Bool)(p14:Sl qE)(p15:Sl zs)(p16 p17:Bool)(p18 p19:Int):
  qJ (xg (plain,a,(0:Int),env,lead,unit,r,r2,r3,x,p1,p2,p3,d,p5,p6,p7,p8,p9,p10,p11,p12,p13,p14,p15,p16,p17,p18,p19,([]:List qa)))
   (fun o=>(d=false->o=[])/\(x.opts.l=[]->o=[])/\(∀ y∈o,y.length<=17592186044416)/\o.length<=8192002):=by
 have hw:=nG x;have Sw:=zZ Hj x.opts.l;cases d with
 |false=>
  rw[xg.eq_1,if_neg z?];exact .ret ⟨fun _=>rfl,fun _=>rfl,z?,z?⟩
 |true=>
  have key: ∀(q:List qa)(k:Nat)(o:List qa),x.opts.l.drop k=q->o.length=k->k<=x.opts.l.length->(∀ y∈o,y.length<=17592186044416)->
    qJ (xg (plain,a,(k:Int),env,lead,unit,r,r2,r3,x,p1,p2,p3,true,p5,p6,p7,p8,p9,p10,p11,p12,p13,p14,p15,p16,p17,p18,p19,o)) (fun o=>o.length=x.opts.l.length/\ ∀y∈o,y.length<=17592186044416):=by
   intro q;induction q with
   |nil=>
    intro k o hk ho pS hy;rw[xg.eq_1,if_neg (by simpa using yq hk)];have:=vJ hk;exact .ret ⟨o?,hy⟩
   |cons c q ih=>
    intro k o hk ho pS hy;obtain⟨a1,a2,a3,a4⟩:=wV hk;have hc:Eu c<=qO (x.opts.l.map Eu):=xK a4;have hcw:Eu c=1+c.length:=rfl;rw[xg.eq_1,if_pos (by simpa using a1),lg o? a1];refine .go a2 ?_;refine .bind (Xw c lead unit o? hE.lead hE.unit) fun v hv=>?_;refine .zz (by simp only[qg,zQ,decide_eq_true_eq];omega) ?_;refine ih (k+1) _ a3 v? o? ?_;intro y VE;rcases m?.1 VE with VE|VE
    ·exact hy y VE
    simp only[d?]at VE;subst VE;exact hv
  refine(key x.opts.l 0 [] rfl rfl o? z?).mono fun o ho=>⟨z?,fun h=>?_,ho.2,by have:=ho.1;omega⟩;have:=ho.1;rw[h]at this;simpa using this
theorem Kf{α:Type}(r t:List α)(p q:α):(r++p::t).set r.length q=r++q::t:=by rw[List.set_append_right _ _ (jv _)];simp
theorem ZM{α:Type}(r t:List α)(p:α):qh (r++p::t) (r.length:Int)=some p:=by rw[jg z?];simp
theorem WX(x:qC)(hx:pO x<=8192002)(hS:WS x)(hk:x.kind=1\/x.kind=2)(up:Int)(hE:GI env lead unit)(r:List Pt)(ds:List Int)(ns:List qa)(hr:r.length+2*pO x<=40000000)(hI:sq r ds ns)
  (ih: ∀(up:Int)(r:List Pt)(ds:List Int)(ns:List qa),r.length+2*qO (x.qz.l.map pO)<=40000000->sq r ds ns->qJ (zR (x.qz,up,env,lead,unit,r,ds,ns)) (oV env lead unit up r ns (qO (x.qz.l.map pO)))):
  qJ (w9 (x,up,false,env,lead,unit,r,ds,ns)) (oV env lead unit up r ns (pO x)):=by
 have hw:=nG x;have Sp:=hI.dl;obtain⟨s2,s1,sn⟩:(x.kind=2->x.has=false/\x.qL=false/\x.qz.l=[]/\0<x.opts.l.length)/\(x.kind=1\/x.kind=3->x.opts.l=[]/\(x.has=true->x.qL=false)/\(x.has=false->x.qz.l=[]))/\(x.kind=1\/x.kind=2->0<=x.n/\x.n<=9999):=by cases hS with|mk _ _ _ a b _ c=>exact⟨a,b,c⟩
 have hn:=sn hk;rw[w9.eq_1];refine .tI ?_ ?_<;>intro hT
 ·have hd:=hT;have htu:x.qL=false:=by rcases hk with h|h;rcases hd with hd|hd;exact(s1 (.inl h)).2.1 hd;omega;exact(s2 h).2.1
  refine .bind (tJ x.n ds o?) fun v hv=>?_;refine .bind (Wv _ _ _ _ _ x hx hE _ _ _ (!v) _ _ _ _ _ _ _ _ _ _ _ _ _ _ _) fun o ho=>?_;have hp: ∀e,E6 ns.length (qc.mk (1:Int) ([]:qa) x.n (!v) false x.qL x.qR (⟨o.isEmpty,o⟩:(Sl qa)) up e):=fun e=>
   ⟨u?,z?,⟨u?,hn.2⟩,u?,fun _=>htu,fun h=>ho.1 h,z?,z?,ho.2.2.1,JV _,ho.2.2.2⟩
  refine .bind (me _ env lead unit r ds ns o?) fun y hy=>?_;subst hy;refine .tI ?_ ?_<;>intro hT;have Z7:=hT;refine .ret ⟨rfl,rfl,rfl,⟨_,rfl,tn.one _ rfl rfl,v?⟩,hI.put _ (hp _) (by simp[Z7]),jv _⟩;have Z7:=hT;refine .zz (by simp only[qg,zQ,decide_eq_true_eq];omega) ?_;rw[if_neg z?];have hI2:=hI.define _ (hp ((r.length+1:Nat):Int)) (by simp[Z7]) (fun h=>by have:=hv.2 h;simp_all);refine .bind (ih (r.length:Int) _ _ _ v? hI2) fun w SC=>?_;obtain⟨g1,g2,g3,⟨t,g4,g5,g6⟩,g7,g8⟩:=SC;rw[g4,List.append_assoc]at g7 |-;simp only[List.cons_append,List.nil_append]at g7 |-;refine .go (ZM _ _ _) ?_;rw[Int.toNat_natCast,Kf];have hlen:(r++qc.mk (1:Int) ([]:qa) x.n (!v) false x.qL x.qR (⟨o.isEmpty,o⟩:(Sl qa)) up ((r.length+1:Nat):Int)::t).length=r.length+1+t.length:=v?;refine .ret ⟨g1,g2,g3,⟨_,rfl, ?_,v?⟩, ?_,g8⟩;(have hkid:(⟨o.isEmpty,o⟩:Sl qa).l≠[]->t=[]:=by (intro h;have hko:x.qz.l=[]:=by rcases hk with h1|h1;exact absurd (ho.2.1 (s1 (.inl h1)).1) h;exact(s2 h1).2.2.1);(have:t.length<=0:=by rw[hko]at g6;simpa[qO]using g6);simpa using this);have:=tn.cons up r.length (qc.mk (1:Int) ([]:qa) x.n (!v) false x.qL x.qR (⟨o.isEmpty,o⟩:(Sl qa)) up (((r++qc.mk (1:Int) ([]:qa) x.n (!v) false x.qL x.qR (⟨o.isEmpty,o⟩:(Sl qa)) up ((r.length+1:Nat):Int)::t).length:Nat):Int)) t [] rfl (by simp only[hlen]) (fun h=>by simp[Z7]at h) hkid (by simpa using g5) (.nil _ _);simpa using this;exact g7.J7 _ rfl
 have hd:=hT;refine .bind (Wv _ _ _ _ _ x hx hE _ _ _ false _ _ _ _ _ _ _ _ _ _ _ _ _ _ _) fun o ho=>?_;refine .bind (me _ env lead unit r ds ns o?) fun y hy=>?_;subst hy;refine .ret ⟨rfl,rfl,rfl,⟨_,rfl,tn.one _ rfl rfl,v?⟩,hI.put _ ?_ rfl,jv _⟩;exact⟨u?,z?,⟨u?,hn.2⟩,u?,z?,fun _=>ho.1 rfl,z?,z?,ho.2.2.1,JV _,ho.2.2.2⟩
end
end Go.Proofs.YtoflcafolmmaaaaGreat
