/-
  A snippet's parts are kept: it ends, and they are as they should be.
-/
import Derived.Test.YtnojdepmnnebnaaGreatQan
open Bool renaming or_eq_true->z!,not_eq_true'->u_,or_assoc->q1z
open Go.IntKind renaming i64->q?
open Go.Proofs.YtnojdepmnnebnaaGreat.qJ renaming ite->C!
open Int renaming toNat_natCast->d?
open List renaming length_cons->h?,mem_append->m?,length_append->t?,getElem?_append_left->r?,map_cons->s?,getElem?_cons_zero->c?,mem_singleton->a?,length_nil->e?,getElem?_map->X?,getElem?_append_right->J?,mem_of_mem_take->W?,getElem?_take_of_lt->V?,mem_cons->U?,nil_append->F?,length_pos_iff->q!,nodup_append->j!,length_singleton->w!,sum_cons->y!,pairwise_iff_getElem->b!,mem_or_eq_of_mem_set->l!,pairwise_cons->J!,filter_cons->T!,countP_cons->O!,drop_eq_getElem_cons->x_,length_take->Y_,mem_filter->S_,drop_of_length_le->Z',filter_append->q14,drop_zero->q1r,any_cons->q1y
open Nat renaming add_zero->M?,zero_add->P?,add_mul->T?,mul_le_mul->j_
set_option linter.unusedSimpArgs false
set_option linter.unusedVariables false
set_option maxHeartbeats 1000000
namespace Go.Proofs.YtnojdepmnnebnaaGreat
open Go Go.Gm
namespace Xr
theorem lies_eq(s:qn)(l:Sl qn)(hL:l.l.length<2^60):gN s l=some (l.l.any fun p=>decide (zY s p)):=by unfold gN;rw[show (0:Int)=((0:Nat):Int)from rfl,Cc s l hL l.l 0 rfl];exact tW
theorem V5{s:qb}(hs:xH s)(n:Int):(gu n s.insts.l).length<=2^24:=by
 have h1:=X6 hs.2;have h2:s.insts.l.length*2^12<=2^12*2^12:=j_ hs.1 (jx _);have h3: ∀is:List qj,(gu n is).length<=many is:=by intro is;induction is with|nil=>simp[gu,many]|cons i is ih=>have:=UA n i.stops.l;simp only[gu,many,List.flatMap_cons,t?,s?,y!]at*;omega
 have:=h3 s.insts.l;omega
structure SS (n:Int) (ss:List qb):Prop where
 du:ss.length<=16
 small: ∀s∈ss,xH s
 may: ∀s∈ss,mm s.insts.l n
 stop: ∀s∈ss,∀ i∈s.insts.l,∀ x∈i.stops.l,mG x
theorem mm.filter{is:List qj}{n:Int}(h:mm is n)(p:qj->Bool):mm (is.filter p) n:=by
 have hp:is.Pairwise fun i j=>i.span.to<=j.span.qB:=by rw[b!];intro a b ha hb eL;exact h.G9 a b _ _ eL (wu ha) (wu hb)
 have hf:=hp.sublist (List.filter_sublist (l:=is) (p:=p));constructor;intro a i hi;obtain⟨b,hb⟩:=kb (S_.1 (z6 hi)).1;exact h.may b i hb;intro a b i j eL hi hj;have ha:=(qF hi).1;have hb:=(qF hj).1;have:=b!.1 hf a b ha hb eL;exact tW
def V9(ss:List qb)(i:Nat)(x:qj):Bool:=if i=0 then true else match ss[i-1]? with
 |some p=>(gu p.cur p.insts.l).any fun q=>decide (zY x.span q)
 |none=>false
theorem OQ(w:qa)(w2:Sl qy)(ss:List qb)(fl:Sl (Sl (Sl Int)))(hs: ∀s∈ss,xH s)(ED:ss.length<=16)(i:Nat)(hi:i<ss.length)(s:qb)(LG:xH s): ∀(r:List qj)(a:Nat)(is:List qj),s.insts.l.drop a=r->is.length<=a->
  xE ((i:Int),(a:Int),w,w2,ss,fl,s,is)=some (is++r.filter (V9 ss i)):=by intro r;have nK:=LG.1;induction r with|nil=>intro a is h _;have:=ze h;rw[xE.eq_1,if_neg v?];simp|cons x r ih=>intro a is h ho;obtain⟨h1,h2,h3⟩:=zr h;rw[xE.eq_1,if_pos v?,ws (k:=a) o?];have e1:=ih (a+1) (is++[x]) h2 v?;have e2:=ih (a+1) is h2 o?;by_cases c:i=0;subst c;rw[if_pos z?,gi h1];simp only[zF,qS];rw[if_pos qA,e1];simp[T!,V9];(obtain⟨p,hp⟩:=gl (l:=ss) (k:=i-1) o?;have FH:=hs p (z6 hp);rw[if_neg v?,gi h1];simp only[zF,qS];rw[show q?.wrap ((i:Int)-1)=((i-1:Nat):Int)from by rw[qH o? o?];omega,gi hp];simp only[qS];rw[Xo p.cur p.insts FH.2 FH.1];simp only[qS];have hsl:=V5 FH p.cur;rw[lies_eq _ _ u?];simp only[qS];have lO:V9 ss i x=(gu p.cur p.insts.l).any fun q=>decide (zY x.span q):=by unfold V9;rw[if_neg c,hp]);rw[T!,lO];cases(gu p.cur p.insts.l).any fun q=>decide (zY x.span q)with|true=>rw[if_pos rfl,if_pos qA,e1];simp|false=>rw[if_neg z?,e2];simp
def B6(k:Nat)(ss:List qb):Prop:= ∀(j:Nat) s,j<k->ss[j]? =some s->s.insts.l≠[]/\gu s.cur s.insts.l≠[]/\(0<j-> ∀p,ss[j-1]? =some p-> ∀x∈s.insts.l,Zi x.span (gu p.cur p.insts.l))
def Curs(aG ss:List qb):Prop:=ss.length<=aG.length/\ ∀(j:Nat) s',ss[j]? =some s' -> ∃s,aG[j]? =some s/\s'.cur=s.cur
structure Fin (n:Int) (aG ss:List qb):Prop where
 ok:SS n ss
 closed:B6 ss.length ss
 JS:Curs aG ss
theorem OP(n:Int)(w:qa)(w2:Sl qy)(fl:Sl (Sl (Sl Int)))(aG:List qb): ∀(d i:Nat)(ss:List qb),i+d=ss.length->SS n ss->B6 i ss->Curs aG ss->
  qJ (jD ((i:Int),w,w2,ss,fl)) (fun v=>match v with| .inl y=>Fin n aG y.2| .inr y=>Fin n aG y):=by
 intro d;induction d with
  |zero=>intro i ss h H hc Wh;rw[jD.eq_1,if_neg v?];obtain rfl:i=ss.length:=o?;exact .ret ⟨H,hc,Wh⟩
  |succ d ih=>
   (intro i ss h H hc Wh;have ED:=H.du;obtain⟨s,hs⟩:=gl (l:=ss) (k:=i) o?;have sG:=z6 hs;have cG:=H.small s sG;rw[jD.eq_1,if_pos v?,ws (k:=i) o?];refine .go (gi hs) ?_;have e2:=OQ w w2 ss fl H.small ED i o? s cG s.insts.l 0 [] rfl z?;rw[F?,show((0:Nat):Int)=0 from rfl]at e2;refine .go e2 ?_;generalize hF:s.insts.l.filter (V9 ss i)=F;have hFs: ∀x∈F,x∈s.insts.l/\V9 ss i x=true:=fun x hx=>by rw[<- hF]at hx;exact S_.1 hx);(have hFl:F.length<=s.insts.l.length:=by rw[<- hF];exact List.length_filter_le _ _);have hsmF:xH ⟨s.cur,⟨F.isEmpty,F⟩⟩:=⟨by have:=cG.1;simp only;omega,fun x hx=>cG.2 x (hFs x hx).1⟩;refine .go (Xo s.cur ⟨F.isEmpty,F⟩ hsmF.2 hsmF.1) ?_;by_cases ce:gu s.cur F=[];(rw[if_pos (by simp[ce])];refine .go (JT _ _ o?) ?_;have tk: ∀(j:Nat) x,(ss.take i)[j]? =some x->j<i/\ss[j]? =some x:=fun j x hx=>by have:=(qF hx).1;simp at this;rw[V? o?]at hx;exact⟨o?,hx⟩);refine .ret ⟨⟨v?,fun s hs=>H.small s (W? hs),fun s hs=>H.may s (W? hs),fun s hs=>H.stop s (W? hs)⟩, ?_,⟨by have:=Wh.1;simp;omega,fun j x hx=>Wh.2 j x (tk j x hx).2⟩⟩;intro j x hj hx;obtain⟨k1,k2⟩:=tk j x hx;obtain⟨q1,q2,q3⟩:=hc j x k1 k2;exact⟨q1,q2,fun hj0 p hp=>q3 hj0 p (tk (j-1) p hp).2⟩;(rw[if_neg (by simpa using ce),d?];have jz:F≠[]:=fun c=>ce (by rw[c];rfl);have qp: ∀(j:Nat) x,(ss.set i ⟨s.cur,⟨F.isEmpty,F⟩⟩)[j]? =some x->(j=i/\x=⟨s.cur,⟨F.isEmpty,F⟩⟩)\/(j≠i/\ss[j]? =some x):=fun j x hx=>by rw[zl]at hx;split at hx;rename_i c;cases hx;exact .inl ⟨c.1.symm,rfl⟩;rename_i c;refine .inr ⟨fun c2=>c ⟨c2.symm,o?⟩,hx⟩);refine ih (i+1) _ v? ⟨v?, ?_, ?_, ?_⟩ ?_ ⟨by have:=Wh.1;simp;omega, ?_⟩;intro x hx;rcases l! hx with hx|rfl;exact H.small x hx;exact hsmF;intro x hx;rcases l! hx with hx|rfl;exact H.may x hx;show mm F n;rw[<- hF];exact(H.may s sG).filter _;intro x hx;rcases l! hx with hx|rfl;exact H.stop x hx;exact fun y hy=>H.stop s sG y (hFs y hy).1;intro j x hj hx;rcases qp j x hx with ⟨rfl,rfl⟩|⟨hji,hx⟩;refine⟨jz,ce,fun hj0 p hp y hy=>?_⟩;rw[zl,if_neg o?]at hp;have:=(hFs y hy).2;unfold V9 at this;rw[if_neg o?,hp]at this;simpa[Zi]using this;obtain⟨q1,q2,q3⟩:=hc j x o? hx;refine⟨q1,q2,fun hj0 p hp=>q3 hj0 p ?_⟩;rw[zl,if_neg o?]at hp;exact hp;intro j x hx;rcases qp j x hx with ⟨rfl,rfl⟩|⟨_,hx⟩
   ·exact(by
     obtain⟨s0,k1,k2⟩:=Wh.2 j s hs
     exact⟨s0,k1,k2⟩)
   exact Wh.2 j x hx
theorem Yp(w:World)(hw:WO w):qJ (vT w.1 w.2.1 w.2.2.1 w.2.2.2) (fun v=>match v with| .inl y=>Fin w.1.length w.2.2.1 y| .inr y=>Fin w.1.length w.2.2.1 y):=by unfold vT;refine .bind (OP w.1.length w.1 w.2.1 w.2.2.2 w.2.2.1 w.2.2.1.length 0 w.2.2.1 o? ⟨hw.du,hw.small,hw.may,hw.stop⟩ (fun j s hj=>o?) ⟨jx _,fun j s hs=>⟨s,hs,rfl⟩⟩) fun v hv=>?_;rcases v with v|v<;>exact .ret hv
end Xr
namespace Xr
def Su(l:List qq)(k:Nat):Prop:= ∀(r:Nat) x,r<k->l[r]? =some x-> -1<=x.up/\x.up<r/\ ∀(q:Nat) y,q<r->x.up<q->l[q]? =some y->x.up<=y.up
theorem LV(l:Sl qq)(b:Nat): ∀a:Nat,a<l.l.length->Su l.l (a+1)-> ∃t:Bool,kI (l,(a:Int),(b:Int))=some (if t=true then .inl true else .inr ())/\(t=true↔b<a/\ ∀(q:Nat) y,b<q->q<=a->l.l[q]? =some y->(b:Int)<=y.up):=by intro a;induction a using Nat.strongRecOn with|_ a ih=>intro ha hp;obtain⟨x,hx⟩:=gl ha;obtain⟨p1,p2,p3⟩:=hp a x o? hx;rw[kI.eq_1,if_pos v?,gi hx];simp only[zF,qS];by_cases c0:0<=x.up;obtain⟨u,hu⟩: ∃u:Nat,x.up=u:=⟨x.up.toNat,o?⟩;rw[if_pos (by simpa using c0),if_pos (by simpa using p2)];by_cases c1:x.up=b;rw[if_pos (by simpa using c1)];refine⟨true,rfl,fun _=>⟨o?,fun q y h1 h2 hy=>?_⟩,fun _=>rfl⟩;by_cases c:q=a;subst c;rw[hx]at hy;cases hy;omega;have:=p3 q y o? o? hy;omega;rw[if_neg (by simpa using c1),hu];obtain⟨t,g1,g2⟩:=ih u o? o? (fun r z hr hz=>hp r z o? hz);refine⟨t,g1,g2.trans ⟨fun h=>⟨o?,fun q y h1 h2 hy=>?_⟩,fun h=>?_⟩⟩;by_cases c:q=a;subst c;rw[hx]at hy;cases hy;omega;by_cases c2:q<=u;exact h.2 q y h1 c2 hy;have:=p3 q y o? o? hy;omega;have:=h.2 a x h.1 (jx _) hx;exact⟨o?,fun q y h1 h2 hy=>h.2 q y h1 o? hy⟩;rw[if_neg (by simpa using c0)];refine⟨false,rfl,fun h=>(by cases h),fun h=>?_⟩;have:=h.2 a x h.1 (jx _) hx;omega
theorem in_ok(l:Sl qq)(a b:Nat)(ha:a<l.l.length)(hp:Su l.l (a+1)): ∃t:Bool,tu l (a:Int) (b:Int)=some t/\(t=true↔b<a/\ ∀(q:Nat) y,b<q->q<=a->l.l[q]? =some y->(b:Int)<=y.up):=by obtain⟨t,h1,h2⟩:=LV l b a ha hp;refine⟨t, ?_,h2⟩;unfold tu;rw[h1];cases t<;>rfl
def Sibs(l:List qq)(x:qq)(j k:Nat):Prop:= ∀(q:Nat) y,j<=q->q<k->l[q]? =some y->y.up=x.up->y.span.to<=x.span.qB
theorem q0k(i:qj)(x:qq)(b:qn)(k:Nat)(hk:k<=i.stops.l.length)(hl:i.stops.l.length<2^60): ∀(d j:Nat),j+d=k-> ∃t:Bool,xD ((k:Int),(j:Int),i,x,b)=some (if t=true then .inr ()else .inl false)/\(t=true↔Sibs i.stops.l x j k):=by intro d;induction d with|zero=>intro j h;rw[xD.eq_1,if_neg v?];exact⟨true,rfl,fun _ q y h1 h2=>o?,fun _=>rfl⟩|succ d ih=>intro j h;obtain⟨y,hy⟩:=gl (l:=i.stops.l) (k:=j) o?;obtain⟨t,g1,g2⟩:=ih (j+1) o?;rw[xD.eq_1,if_pos v?,gi hy,ws (k:=j) o?];simp only[zF,qS,g1];by_cases c1:y.up=x.up;by_cases c2:x.span.qB<y.span.to;rw[if_pos (by simpa using c1),if_pos (by simpa using c2)];refine⟨false,rfl,fun h=>(by cases h),fun h=>?_⟩;have:=h j y (jx _) o? hy c1;omega;rw[if_pos (by simpa using c1),if_neg (by simpa using c2)];refine⟨t,rfl,g2.trans ⟨fun h q z h1 h2 hz hu=>?_,fun h q z h1 h2 hz hu=>h q z o? h2 hz hu⟩⟩;by_cases c:q=j;subst c;rw[hy]at hz;cases hz;omega;exact h q z o? h2 hz hu;rw[if_neg (by simpa using c1)];refine⟨t,rfl,g2.trans ⟨fun h q z h1 h2 hz hu=>?_,fun h q z h1 h2 hz hu=>h q z o? h2 hz hu⟩⟩;by_cases c:q=j;subst c;rw[hy]at hz;cases hz;exact absurd hu c1;exact h q z o? h2 hz hu
structure Good (i:qj) (k:Nat) (x:qq):Prop where
 up: -1<=x.up/\x.up<k
 pre: ∀(q:Nat) y,q<k->x.up<q->i.stops.l[q]? =some y->x.up<=y.up
 le:x.span.qB<=x.span.to
 top:x.up= -1->zY x.span i.span
 nest: ∀(p:Nat) y,x.up=p->i.stops.l[p]? =some y->zY x.span y.span
 B3:Sibs i.stops.l x 0 k
theorem NG(i:qj)(k:Nat)(x:qq)(hx:i.stops.l[k]? =some x)(hl:i.stops.l.length<2^60)(hp:Su i.stops.l k): ∃t:Bool,zD ((k:Int),i)=(if t=true then zD (((k+1:Nat):Int),i)else some (.inl false))/\(t=true↔Good i k x):=by
 have hk:=(qF hx).1;have tail: ∀(b:qn),∃ t:Bool,(if decide (x.span.qB>x.span.to)=true then some (.inl false)else xl x.span b>>=fun v=>if(!v)=true then some (.inl false)else
   xD ((k:Int),(0:Int),i,x,b)>>=fun v=>match v with
    | .inl y=>some (.inl y)
    | .inr _=>zD (((k+1:Nat):Int),i))=(if t=true then zD (((k+1:Nat):Int),i)else some (.inl false))/\(t=true↔x.span.qB<=x.span.to/\zY x.span b/\Sibs i.stops.l x 0 k):=by
  intro b;by_cases c1:x.span.qB>x.span.to
  ·rw[if_pos (by simpa using c1)];exact⟨false,rfl,fun h=>(by cases h),fun h=>o?⟩
  rw[if_neg (by simpa using c1),iZ];simp only[zF,qS];by_cases c2:zY x.span b
  ·rw[if_neg (by simpa using c2)];obtain⟨t,g1,g2⟩:=q0k i x b k o? hl k 0 o?;rw[show ((0:Nat):Int)=0 from rfl]at g1;rw[g1];refine⟨t, ?_,g2.trans ⟨fun h=>⟨o?,c2,h⟩,fun h=>h.2.2⟩⟩;cases t<;>rfl
  rw[if_pos (by simpa using c2)];exact⟨false,rfl,fun h=>(by cases h),fun h=>absurd h.2.1 c2⟩
 rw[zD.eq_1,if_pos v?,gi hx,ws (k:=k) o?,qH (n:=(k:Int)-1) o? o?];simp only[zF,qS]at tail |-;by_cases hu:x.up= -1;rw[if_neg (by simp[hu]),if_neg (by simp[hu])];obtain⟨t,g1,g2⟩:=tail i.span;refine⟨t,g1,g2.trans ⟨fun h=>⟨o?,fun q y _ _ hy=>?_,h.1,fun _=>h.2.1,fun p y hpp=>o?,h.2.2⟩,fun h=>⟨h.le,h.top hu,h.B3⟩⟩⟩;have:=(hp q y o? hy).1;omega;rw[if_pos (by simpa using hu)];by_cases hr:0<=x.up/\x.up<k;{(obtain⟨p,hpu⟩: ∃p:Nat,x.up=p:=⟨x.up.toNat,o?⟩;obtain⟨y,hy⟩:=gl (l:=i.stops.l) (k:=p) o?;have hgy:qh i.stops.l x.up=some y:=by rw[hpu];exact gi hy);(rw[if_neg v?];obtain⟨t,g1,g2⟩:=tail y.span;have conv:(x.span.qB<=x.span.to/\zY x.span y.span/\Sibs i.stops.l x 0 k)/\(∀(q:Nat) y,q<k->x.up<q->i.stops.l[q]? =some y->x.up<=y.up)↔Good i k x:=by constructor;rintro⟨⟨a1,a2,a3⟩,a4⟩;refine⟨o?,a4,a1,fun h=>absurd h hu,fun p' y' SZ LM=>?_,a3⟩;obtain rfl:p=p' :=o?;rw[hy]at LM;cases LM;exact a2;intro h;exact⟨⟨h.le,h.nest p y hpu hy,h.B3⟩,h.pre⟩);by_cases h7:x.up=(k:Int)-1;rw[if_neg (by simp[h7]),if_pos v?,hgy];simp only[qS];exact⟨t,g1,g2.trans ⟨fun h=>conv.1 ⟨h,fun q y _ _=>o?⟩,fun h=>(conv.2 h).1⟩⟩;rw[if_pos (by simpa using h7)];obtain⟨t2,q1,q2⟩:=in_ok i.stops (k-1) p o? (fun r z hr' hz=>hp r z o? hz);rw[show (k:Int)-1=((k-1:Nat):Int) by omega,hpu,q1];simp only[qS];cases t2 with|false=>rw[if_pos z?];refine⟨false,rfl,fun h=>(by cases h),fun h=>?_⟩;have:=q2.2 ⟨o?,fun q z h1 h2 hz=>by have:=h.pre q z o? o? hz;omega⟩;cases this|true=>have q3:=q2.1 rfl;rw[if_neg z?,if_pos z?,<- hpu,hgy];simp only[qS];exact⟨t,g1,g2.trans ⟨fun h=>conv.1 ⟨h,fun q z h1 h2 hz=>by have:=q3.2 q z o? o? hz;omega⟩,fun h=>(conv.2 h).1⟩⟩};rw[if_pos (by simp only[z!,decide_eq_true_eq];omega)];exact⟨false,rfl,fun h=>(by cases h),fun h=>by have:=h.up;omega⟩
theorem q0j(i:qj)(hl:i.stops.l.length<2^60): ∀(d k:Nat),k+d=i.stops.l.length->Su i.stops.l k-> ∃t:Bool,zD ((k:Int),i)=some (if t=true then .inr ()else .inl false)/\(t=true↔ ∀(r:Nat) x,k<=r->i.stops.l[r]? =some x->Good i r x):=by
 intro d;induction d with
 |zero=>
  intro k h _;rw[zD.eq_1,if_neg v?];exact⟨true,rfl,fun _ r x hr hx=>by have:=(qF hx).1;omega,fun _=>rfl⟩
 |succ d ih=>
  intro k h hp;obtain⟨x,hx⟩:=gl (l:=i.stops.l) (k:=k) o?;obtain⟨t,g1,g2⟩:=NG i k x hx hl hp;rw[g1];cases t with
  |false=>
   rw[if_neg z?];refine⟨false,rfl,fun h=>(by cases h),fun h=>?_⟩;have:=g2.2 (h k x (jx _) hx);cases this
  |true=>
   rw[if_pos z?];have hg:=g2.1 rfl;obtain⟨t2,q1,q2⟩:=ih (k+1) o? (fun r z hr hz=>by
    by_cases c:r=k
    ·subst c
     rw[hx]at hz
     cases hz
     exact⟨hg.up.1,hg.up.2,hg.pre⟩
    exact hp r z o? hz)
   refine⟨t2,q1,q2.trans ⟨fun h r z hr hz=>?_,fun h r z hr hz=>h r z o? hz⟩⟩;by_cases c:r=k
   ·subst c;rw[hx]at hz;cases hz;exact hg
   exact h r z o? hz
theorem NF(i:qj)(n:Int)(hl:i.stops.l.length<2^60): ∃t:Bool,sV i n=some t/\(t=true↔UH i n):=by
 obtain⟨b,g1,g2⟩:=Cf i.span n;obtain⟨t,q1,q2⟩:=q0j i hl i.stops.l.length 0 o? (fun r x hr=>o?);rw[show ((0:Nat):Int)=0 from rfl]at q1;unfold sV;rw[g1];simp only[zF,qS];cases b with
 |false=>
  refine⟨false,rfl,fun h=>(by cases h),fun h=>?_⟩;have:=g2.2 h.Qr;cases this
 |true=>
  rw[if_neg z?,q1];refine⟨t,by cases t<;>rfl,q2.trans ⟨fun h=>?_,fun h r x _ hx=>?_⟩⟩
  ·exact⟨g2.1 rfl,fun k x hx=>(h k x o? hx).up,fun k x hx=>(h k x o? hx).le,fun k x hx hu=>by have:=(h k x o? hx).top hu;unfold zY at this;exact this,fun k x hx p y hp hy=>by have:=(h k x o? hx).nest p y hp hy;unfold zY at this;exact this,
    fun k x hx j y hj hy hu=>(h k x o? hx).B3 j y o? hj hy hu,fun k x hx q y hq hu hy=>(h k x o? hx).pre q y hq hu hy⟩
  exact⟨h.up r x hx,fun q y hq hu hy=>h.pre r x hx q y hq hu hy,h.le r x hx,fun hu=>h.top r x hx hu,fun p y hp hy=>h.nest r x hx p y hp hy,fun j y _ hj hy hu=>h.B3 r x hx j y hj hy hu⟩
end Xr
namespace Xr
def Ss(ss:List qb):Prop:= ∀(j:Nat) s,ss[j]? =some s->s.insts.l≠[]/\(0<j-> ∀p,ss[j-1]? =some p-> ∀x∈s.insts.l,Zi x.span (gu p.cur p.insts.l))
structure MayP (st:qv):Prop where
 text:st.text.length<=65536
 du:st.qo.l.length<=8
 ne:st.xT.l≠[]
 Y1:st.xT.l.length<=64
 Kj:Wp st.text.length st.xT.l
 SD:Sq st.xT.l
 may: ∀s∈st.qo.l,mm s.insts.l st.text.length
 lies:Ss st.qo.l
theorem q0l(l:Sl qy)(st:qv)(hl:l.l.length=st.xT.l.length)(h60:l.l.length<2^60): ∀(d i:Nat),i+d=l.l.length-> ∃t:Bool,nj (l,(i:Int),st)=some (if t=true then .inr ()else .inl false)/\(t=true↔l.l.drop i=st.xT.l.drop i):=by intro d;induction d with|zero=>intro i h;rw[nj.eq_1,if_neg v?];refine⟨true,rfl,fun _=>?_,fun _=>rfl⟩;rw[Z' o?,Z' o?]|succ d ih=>(intro i h;obtain⟨x,hx⟩:=gl (l:=l.l) (k:=i) o?;obtain⟨y,hy⟩:=gl (l:=st.xT.l) (k:=i) o?;obtain⟨t,g1,g2⟩:=ih (i+1) o?;have ex:l.l.drop i=x::l.l.drop (i+1):=by have hk:=(qF hx).1;rw[x_ hk];rw[wu hk]at hx;cases hx;rfl);(have ey:st.xT.l.drop i=y::st.xT.l.drop (i+1):=by have hk:=(qF hy).1;rw[x_ hk];rw[wu hk]at hy;cases hy;rfl);rw[nj.eq_1,if_pos v?,gi hx,ws (k:=i) o?,ex,ey];simp only[zF,qS];rw[gi hy];simp only[qS,g1];cases x with|mk xa xh=>cases y with|mk ya yh=>by_cases c:xa=ya/\xh=yh;obtain⟨rfl,rfl⟩:=c;rw[if_neg z?];exact⟨t,rfl,g2.trans ⟨fun h=>by rw[h],fun h=>by simpa using h⟩⟩;rw[if_pos v?];refine⟨false,rfl,fun h=>(by cases h),fun h=>?_⟩;simp only[List.cons.injEq,qy.mk.injEq]at h;exact absurd h.1 c
def B8(st:qv)(i:Nat)(is:List qj)(k:Nat)(x:qj):Prop:=
 UH x st.text.length/\(0<k-> ∀y,is[k-1]? =some y->y.span.to<=x.span.qB)/\(0<i-> ∀p,st.qo.l[i-1]? =some p->Zi x.span (gu p.cur p.insts.l))
theorem q0n(st:qv)(LG: ∀s∈st.qo.l,xH s)(h60:st.qo.l.length<2^60)(i:Nat)(hi:i<st.qo.l.length)(is:Sl qj)(his:is.l.length<=2^12)(lO: ∀x∈is.l,x.stops.l.length<=2^12):
  ∀(d k:Nat),k+d=is.l.length-> ∃t:Bool,kr ((i:Int),is,(k:Int),st)=some (if t=true then .inr ()else .inl false)/\(t=true↔ ∀(r:Nat) x,k<=r->is.l[r]? =some x->B8 st i is.l r x):=by
 intro d;induction d with
  |zero=>intro k h;rw[kr.eq_1,if_neg v?];exact⟨true,rfl,fun _ r x hr hx=>by have:=(qF hx).1;omega,fun _=>rfl⟩
  |succ d ih=>
   intro k h;obtain⟨x,hx⟩:=gl (l:=is.l) (k:=k) o?;obtain⟨t,g1,g2⟩:=ih (k+1) o?;have hxs:=lO x (z6 hx);obtain⟨b,m1,m2⟩:=NF x (st.text.length:Int) o?;have split: ∀(P:Prop),(P↔B8 st i is.l k x)->((P/\ ∀(r:Nat) z,k+1<=r->is.l[r]? =some z->B8 st i is.l r z)↔ ∀(r:Nat) z,k<=r->is.l[r]? =some z->B8 st i is.l r z):=by intro P hP;rw[hP];constructor;intro h r z hr hz;by_cases c:r=k;subst c;rw[hx]at hz;cases hz;exact h.1;exact h.2 r z o? hz;exact fun h=>⟨h k x (jx _) hx,fun r z hr hz=>h r z o? hz⟩
   have tail: ∃q:Bool,(if (decide ((i:Int)>(0:Int)))=true then
      qh st.qo.l (q?.wrap ((i:Int)-(1:Int)))>>=fun Vm=>
      wo Vm.cur Vm.insts>>=fun vG=>
      gN x.span vG>>=fun iY=>
      if(!iY)=true then some (.inl false)else kr ((i:Int),is,((k+1:Nat):Int),st)
     else kr ((i:Int),is,((k+1:Nat):Int),st))=some (if q=true then .inr ()else .inl false)/\
     (q=true↔(0<i-> ∀p,st.qo.l[i-1]? =some p->Zi x.span (gu p.cur p.insts.l))/\t=true):=by
    by_cases c:0<i
    ·obtain⟨p,hp⟩:=gl (l:=st.qo.l) (k:=i-1) o?;have FH:=LG p (z6 hp);have hsl:=V5 FH p.cur;obtain⟨u,l1,l2⟩:=lies_ok x.span ⟨(gu p.cur p.insts.l).isEmpty,gu p.cur p.insts.l⟩ u?;rw[if_pos (by simpa using c),show q?.wrap ((i:Int)-1)=((i-1:Nat):Int)from by rw[qH o? o?];omega,gi hp];simp only[zF,qS];rw[Xo p.cur p.insts FH.2 FH.1];simp only[qS,l1];cases u with
     |false=>
      rw[if_pos z?];refine⟨false,rfl,fun h=>(by cases h),fun h=>?_⟩;have:=l2.2 (h.1 c p hp);cases this
     |true=>
      rw[if_neg z?,g1];refine⟨t,rfl,fun h=>⟨fun _ p' SZ=>?_,h⟩,fun h=>h.2⟩;rw[hp]at SZ;cases SZ;exact l2.1 rfl
    rw[if_neg (by simpa using c),g1];exact⟨t,rfl,fun h=>⟨fun h0=>absurd h0 c,h⟩,fun h=>h.2⟩
   obtain⟨q,q1,q2⟩:=tail;rw[kr.eq_1,if_pos v?,gi hx,ws (k:=k) o?];simp only[zF,qS,m1]at q1 |-;cases b with|false=>rw[if_pos z?];refine⟨false,rfl,fun h=>(by cases h),fun h=>?_⟩;have:=m2.2 (h k x (jx _) hx).1;cases this|true=>have hm:=m2.1 rfl;rw[if_neg z?];by_cases c:0<k;obtain⟨y,hy⟩:=gl (l:=is.l) (k:=k-1) o?;rw[if_pos (by simpa using c),show q?.wrap ((k:Int)-1)=((k-1:Nat):Int)from by rw[qH o? o?];omega,gi hy];simp only[qS];by_cases c2:x.span.qB<y.span.to;rw[if_pos (by simpa using c2)];refine⟨false,rfl,fun h=>(by cases h),fun h=>?_⟩;have:=(h k x (jx _) hx).2.1 c y hy;omega;rw[if_neg (by simpa using c2),q1];refine⟨q,rfl,q2.trans ?_⟩;rw[g2];refine split _ ⟨fun h=>⟨hm,fun _ z hz=>?_,h⟩,fun h=>h.2.2⟩;rw[hy]at hz;cases hz;omega;rw[if_neg (by simpa using c),q1];refine⟨q,rfl,q2.trans ?_⟩;rw[g2];exact split _ ⟨fun h=>⟨hm,fun h0=>absurd h0 c,h⟩,fun h=>h.2.2⟩
theorem rise_of{is:List qj}{n:Int}(h: ∀(k:Nat) x,is[k]? =some x->UH x n/\(0<k-> ∀y,is[k-1]? =some y->y.span.to<=x.span.qB)):mm is n:=by
 have hc:=KW (is.map (·.span)) fun j p hp=>by rw[X?,yR]at hp;obtain⟨x,hx,rfl⟩:=hp;refine⟨(h j x hx).1.Qr.2.1,fun y h0 hy=>?_⟩;rw[X?,yR]at hy;obtain⟨z,hz,rfl⟩:=hy;exact(h j x hx).2 h0 z hz
 rw[List.pairwise_map]at hc;refine⟨fun a i hi=>(h a i hi).1,fun a b i j eL hi hj=>?_⟩;have ha:=(qF hi).1;have hb:=(qF hj).1;have:=b!.1 hc a b ha hb eL;rw[wu ha]at hi;rw[wu hb]at hj;cases hi;cases hj;exact this
def GoodS(st:qv)(i:Nat)(s:qb):Prop:=s.insts.l≠[]/\ ∀(r:Nat) x,s.insts.l[r]? =some x->B8 st i s.insts.l r x
theorem q0m(st:qv)(LG: ∀s∈st.qo.l,xH s)(h60:st.qo.l.length<2^60): ∀(d i:Nat),i+d=st.qo.l.length-> ∃t:Bool,nk ((i:Int),st)=some (if t=true then .inr ()else .inl false)/\(t=true↔ ∀(r:Nat) s,i<=r->st.qo.l[r]? =some s->GoodS st r s):=by intro d;induction d with|zero=>intro i h;rw[nk.eq_1,if_neg v?];exact⟨true,rfl,fun _ r s hr hs=>by have:=(qF hs).1;omega,fun _=>rfl⟩|succ d ih=>intro i h;obtain⟨s,hs⟩:=gl (l:=st.qo.l) (k:=i) o?;obtain⟨t,g1,g2⟩:=ih (i+1) o?;have cG:=LG s (z6 hs);rw[nk.eq_1,if_pos v?,gi hs,ws (k:=i) o?];simp only[zF,qS];by_cases c:s.insts.l=[];rw[if_pos (by simp[c])];refine⟨false,rfl,fun h=>(by cases h),fun h=>?_⟩;exact absurd c (h i s (jx _) hs).1;obtain⟨u,u1,u2⟩:=q0n st LG h60 i o? s.insts cG.1 cG.2 s.insts.l.length 0 o?;rw[show ((0:Nat):Int)=0 from rfl]at u1;rw[if_neg (by simpa using c),u1];simp only[qS];cases u with|false=>refine⟨false,rfl,fun h=>(by cases h),fun h=>?_⟩;have:=u2.2 fun r x _ hx=>(h i s (jx _) hs).2 r x hx;cases this|true=>refine⟨t,g1,g2.trans ⟨fun h r z hr hz=>?_,fun h r z hr hz=>h r z o? hz⟩⟩;by_cases c2:r=i;subst c2;rw[hs]at hz;cases hz;exact⟨c,fun r x hx=>u2.1 rfl r x o? hx⟩;exact h r z o? hz
theorem NH(st:qv)(LG: ∀s∈st.qo.l,xH s)(hq:st.xT.l.length<2^60): ∃t:Bool,bu st=some t/\(t=true↔MayP st):=by unfold bu;by_cases c:st.text.length<=65536/\st.qo.l.length<=8;rw[if_neg v?];obtain⟨q,co,n1,n2⟩:=Ck (st.text.length:Int) st.xT hq;rw[n1];simp only[zF,qS];rcases n2 with ⟨rfl,n3,n4,n5,rfl⟩|⟨n3,rfl,n4⟩;have Vs:=Zk _ _ n5;by_cases c2:(mo st.xT.l).length=st.xT.l.length;(rw[if_neg v?];obtain⟨t,g1,g2⟩:=q0l ⟨(mo st.xT.l).isEmpty,mo st.xT.l⟩ st c2 u? _ 0 (P? _);rw[show ((0:Nat):Int)=0 from rfl]at g1;rw[g1];cases t with|false=>refine⟨false,rfl,fun h=>(by cases h),fun h=>?_⟩;have:=g2.2 (by simp only[q1r];exact YU _ h.SD);cases this|true=>have hid:=g2.1 rfl;simp only[q1r]at hid;obtain⟨u,u1,u2⟩:=q0m st LG o? _ 0 (P? _);rw[show ((0:Nat):Int)=0 from rfl]at u1;simp only[if_true,qS,u1];refine⟨u,by cases u<;>rfl,u2.trans ⟨fun h=>⟨c.1,c.2,n3,n4,n5,hid ▸ Vs.1,fun s hs=>?_,fun j s hs=>?_⟩,fun h r s _ hs=>?_⟩⟩;obtain⟨j,hj⟩:=kb hs;exact rise_of fun k x hx=>⟨((h j s o? hj).2 k x hx).1,((h j s o? hj).2 k x hx).2.1⟩;refine⟨(h j s o? hs).1,fun h0 p hp x hx=>?_⟩;obtain⟨k,hk⟩:=kb hx;exact((h j s o? hs).2 k x hk).2.2 h0 p hp;have hm:=h.may s (z6 hs);have hl:=h.lies r s hs;exact⟨hl.1,fun k x hx=>⟨hm.may k x hx,fun h0 y hy=>hm.G9 (k-1) k y x o? hy hx,fun h0 p hp=>hl.2 h0 p hp x (z6 hx)⟩⟩);rw[if_pos (by simp only[z!,bne_iff_ne,ne_eq];omega)];refine⟨false,rfl,fun h=>(by cases h),fun h=>?_⟩;exact absurd (congrArg List.length (YU _ h.SD)) c2;rw[if_pos (by simp[n3])];exact⟨false,rfl,fun h=>(by cases h),fun h=>absurd ⟨h.ne,h.Y1,h.Kj⟩ n4⟩;rw[if_pos v?];exact⟨false,rfl,fun h=>(by cases h),fun h=>absurd ⟨h.text,h.du⟩ c⟩
end Xr
namespace Xr
def zfl(i:qj):Sl Int:=⟨false,List.replicate i.stops.l.length (0:Int)⟩
theorem N5(s:qb)(hs:xH s): ∀(r:List qj)(a:Nat)(out:List (Sl Int)),s.insts.l.drop a=r->out.length=a->wb ((a:Int),s,⟨out.isEmpty,out⟩)=some ⟨(out++r.map zfl).isEmpty,out++r.map zfl⟩:=by intro r;have nK:=hs.1;induction r with|nil=>intro a out h _;have:=ze h;rw[wb.eq_1,if_neg v?];simp|cons i r ih=>intro a out h ho;obtain⟨h1,h2,h3⟩:=zr h;have hi:=hs.2 i (z6 h1);rw[wb.eq_1,if_pos v?,gi h1,ws (k:=a) o?];simp only[zF,qS];rw[if_pos o?,if_pos qA,if_pos qA];have:=ih (a+1) (out++[zfl i]) h2 v?;rw[show (out++[zfl i]).isEmpty=false from z?]at this;simp only[zfl,d?]at this |-;rw[this];simp[zfl]
theorem lI(s:qb)(hs:xH s): ∃f,uA s=some f/\sA s.insts.l f:=by refine⟨⟨(s.insts.l.map zfl).isEmpty,s.insts.l.map zfl⟩, ?_,z?,z?,fun a i f hi hf=>?_⟩;unfold uA;have:=N5 s hs s.insts.l 0 [] rfl rfl;exact tW;simp only[X?,hi,Option.map_some,ki]at hf;subst hf;refine⟨by simp[zfl],fun _=>rfl,fun v hv=>?_⟩;have:=(List.mem_replicate.1 hv).2;omega
theorem Oz(st:qv)(hs: ∀s∈st.qo.l,xH s)(ED:st.qo.l.length<=16)(q:List qy)(ss:List qb)(w:qa): ∀(r:List qb)(i:Nat)(out:List (Sl (Sl Int))),st.qo.l.drop i=r->out.length=i->
  ∃fs:List (Sl (Sl Int)),uw ((i:Int),st,q,ss,w,⟨out.isEmpty,out⟩)=some ⟨(out++fs).isEmpty,out++fs⟩/\fs.length=r.length/\ ∀(j:Nat) s f,r[j]? =some s->fs[j]? =some f->sA s.insts.l f:=by intro r;induction r with|nil=>intro i out h _;have:=ze h;rw[uw.eq_1,if_neg v?];exact⟨[],z?,rfl,fun j s f hs=>by simp at hs⟩|cons s r ih=>intro i out h ho;obtain⟨h1,h2,h3⟩:=zr h;obtain⟨f,f1,f2⟩:=lI s (hs s (z6 h1));rw[uw.eq_1,if_pos v?,gi h1,ws (k:=i) o?];simp only[zF,qS,f1];rw[if_pos qA];obtain⟨fs,g1,g2,g3⟩:=ih (i+1) (out++[f]) h2 v?;rw[show (out++[f]).isEmpty=false from z?]at g1;refine⟨f::fs, ?_,by simp[g2],fun j s' f' oQ Hm=>?_⟩;rw[show (⟨f.nil,f.l⟩:Sl (Sl Int))=f from rfl,g1];simp;cases j with|zero=>simp only[c?,ki]at oQ Hm;subst oQ Hm;exact f2|succ j=>exact g3 j s' f' (by simpa using oQ) (by simpa using Hm)
structure vj (st:qv):Prop where
 may:MayP st
 small: ∀s∈st.qo.l,xH s
 stop: ∀s∈st.qo.l,∀ i∈s.insts.l,∀ x∈i.stops.l,mG x
 JS: ∀s∈st.qo.l,gu s.cur s.insts.l≠[]
theorem BG(st:qv)(h:vj st): ∃fl,rn st=some (st.text,⟨false,st.xT.l⟩,st.qo.l,fl)/\WK (st.text,⟨false,st.xT.l⟩,st.qo.l,fl):=by have h8:=h.may.du;have h64:=h.may.Y1;have ht:=h.may.text;obtain⟨fs,g1,g2,g3⟩:=Oz st h.small o? st.xT.l st.qo.l st.text st.qo.l 0 [] rfl rfl;rw[show ((0:Nat):Int)=0 from rfl]at g1;simp only[List.isEmpty_nil,F?]at g1;refine⟨⟨fs.isEmpty,fs⟩, ?_,⟨⟨u?,h.may.ne,h64,h.may.SD,h.may.Kj,u?,h.small,h.may.may,g2,fun c=>?_,g3,h.stop⟩,ht⟩⟩;unfold rn;rw[if_pos qA,if_pos qA,g1];rfl;exact tW
theorem sum_fit{n:Nat}{es:List ql}(hn:n<=65536)(hl:es.length<=2^19)(h:K9 n es)(h2:(n:Int)+sk es<=65536):wP es<=2^36:=by have h3:=sumT_sp o? es h.Kj;have h4:es.length*n<=2^19*65536:=j_ hl hn;exact tW
def Less(st st' :qv):Prop:=Curs st.qo.l st'.qo.l
theorem BX(st:qv)(h:vj st)(es:Sl ql)(hl:es.l.length<=2^19)(hT:wP es.l<=2^60):qJ (s9 st es) (fun v=>v.2≠0\/v.2=0/\vj v.1/\Less st v.1):=by
 have ht:=h.may.text;have h8:=h.may.du;obtain⟨t,m1,m2⟩:=NH st h.small (by have:=h.may.Y1;omega);obtain rfl:=m2.2 h.may;unfold s9;refine .go m1 ?_;rw[if_neg z?];refine .bind (Cg (st.text.length:Int) o? es hl hT) fun c hc=>?_;refine .ite (fun c0=> .ret (.inl (by simpa using c0))) fun c0=>?_;obtain⟨e1,e2⟩:=hc (by simpa using c0);have hT2:wP es.l<=2^36:=sum_fit ht hl e1 e2;obtain⟨fl,b1,b2⟩:=BG st h;refine .go b1 ?_;refine .bind (cJ (st.text,⟨false,st.xT.l⟩,st.qo.l,fl) b2.ok ht es e1 hT2 hl) fun w hw=>?_;have hwt:=hw.text;refine .bind (WB w ⟨hw.ok,by simp only at hwt;omega⟩) fun u hu=>?_;refine .ite (fun c1=> .ret (.inl (by simpa using c1))) fun c1=>?_;rcases hu with hu|⟨_,hu,hlk⟩;exact absurd (by simpa using c1) hu;have o4: ∀y,Fin u.2.1.length u.2.2.2.1 y->vj ⟨u.2.1,u.2.2.1,⟨false,y⟩⟩/\Less st ⟨u.2.1,u.2.2.1,⟨false,y⟩⟩:=by intro y hy;have FA:=hlk.len;have hwl:=hw.len;have Xw:=hy.JS.1;simp only at FA hwl Xw;refine⟨⟨⟨hu.text,u?,hu.ok.ne,hu.ok.Y1,hu.ok.Kj,hu.ok.SD,hy.ok.may,fun j s hs=>?_⟩,hy.ok.small,hy.ok.stop,fun s hs=>?_⟩,⟨u?,fun j s' oQ=>?_⟩⟩;have:=hy.closed j s (qF hs).1 hs;exact⟨this.1,this.2.2⟩;obtain⟨j,hj⟩:=kb hs;exact(hy.closed j s (qF hj).1 hj).2.1;obtain⟨s2,k1,k2⟩:=hy.JS.2 j s' oQ;obtain⟨s1,k3⟩:=gl (l:=w.2.2.1) (k:=j) (by have h9:j<u.2.2.2.1.length:=(qF k1).1;omega);obtain⟨s3,k4,k5⟩:=hlk.cur j s1 k3;have k1' :u.2.2.2.1[j]? =some s2:=k1;have k4' :u.2.2.2.1[j]? =some s3:=k4;rw[k1']at k4';cases k4';obtain⟨s0,k6,k7⟩:=hw.cur j s1 k3;exact⟨s0,k6,k2.trans (k5.trans k7)⟩
 refine .bind (Yp u.2 hu.ok) fun v hv=>?_;rcases v with y|y;exact .ret (.inr ⟨rfl,o4 y hv⟩);exact .ret (.inr ⟨rfl,o4 y hv⟩)
end Xr
namespace Xr
theorem wi{n:Int}(h: -9223372036854775808<=n:=by omega)(h2:n<=9223372036854775807:=by omega):IntKind.i64.wrap n=n:=qH h h2
def isB(b:UInt8):Bool:=(b.toNat:Int)==10
def Ka(s:qa):Nat:=s.countP isB
theorem PZ(s:qa):Ka s<=s.length:=List.countP_le_length
theorem OB(b:UInt8)(s:qa):(Ka (b::s):Int)=Ka s+if isB b=true then 1 else 0:=by unfold Ka;rw[O!];split<;>simp
structure Sw (i:Nat) (t:qW):Prop where
 a:0<=t.bytes/\t.bytes<=i
 b:0<=t.breaks/\t.breaks<=i
 c:0<=t.ar/\t.ar<=i
 d:0<=t.dA/\t.dA<=2*i
theorem of_L0(s:qa)(hs:s.length<=2^40)(t2:qW): ∀(r:qa)(i:Nat)(t:qW),s.drop i=r->i+r.length=s.length->Sw i t->
  qJ (wc (s,(i:Int),t2,t)) (fun v=>v.breaks=t.breaks+Ka r/\Sw s.length v):=by intro r;induction r with|nil=>intro i t h hi ht;have:=ze h;rw[wc.eq_1,if_neg v?];simp only[e?,M?]at hi;exact .ret ⟨by simp[Ka],hi ▸ ht⟩|cons b r ih=>intro i t h hi ht;simp only[h?]at hi;obtain⟨h1,h2,h3⟩:=zr h;have⟨p1,p2⟩:=ht.a;have⟨p3,p4⟩:=ht.b;have⟨p5,p6⟩:=ht.c;have⟨p7,p8⟩:=ht.d;rw[wc.eq_1,if_pos v?,ws o?];refine .go (gi h1) ?_;rw[wi (n:=t.bytes+1),wi (n:=t.breaks+1),wi (n:=t.ar+1),wi (n:=t.dA+1),wi (n:=t.dA+1+1)];have hb:=OB b r;refine .ite (fun c=>?_) fun c=>?_;{rw[if_pos (show isB b=true from c)]at hb;refine .bind (Go.Proofs.YtnojdepmnnebnaaGreat.cJ b) fun v _=>?_;refine .ite (fun _=>C! (fun _=>?_) fun _=>?_) fun _=>C! (fun _=>?_) fun _=>?_;all_goals exact .mono (ih (i+1) _ h2 (by omega) ⟨by simp only;omega,by simp only;omega,by simp only;omega,by simp only;omega⟩) fun v hv=>⟨by have:=hv.1;simp only at this;omega,hv.2⟩};rw[if_neg (show ¬isB b=true by unfold isB;simp[c])]at hb;refine .bind (Go.Proofs.YtnojdepmnnebnaaGreat.cJ b) fun v _=>?_;refine .ite (fun _=>C! (fun _=>?_) fun _=>?_) fun _=>C! (fun _=>?_) fun _=>?_;all_goals exact .mono (ih (i+1) _ h2 (by omega) ⟨by simp only;omega,by simp only;omega,by simp only;omega,by simp only;omega⟩) fun v hv=>⟨by have:=hv.1;simp only at this;omega,hv.2⟩
theorem J5(s:qa)(hs:s.length<=2^40):qJ (oI s) (fun v=>v.breaks=Ka s/\Sw s.length v):=by unfold oI;refine .bind (of_L0 s hs _ s 0 ⟨0,0,0,0⟩ rfl z? ⟨z?,z?,z?,z?⟩) fun v hv=>?_;exact .ret ⟨by have:=hv.1;simp only at this;omega,hv.2⟩
theorem OC(t:qW)(n:Nat)(h:Sw n t):qJ (bc t 1) (fun v=>0<=v/\v<=n):=by unfold bc;rw[if_neg (by decide),if_pos (by decide)];exact .ret h.c
theorem PW(s:qa)(hs:s.length<=2^40)(off:Int):qJ (dF s off) (fun v=>(v.2=0/\0<=off/\off<=s.length/\v.1=Ka (s.take off.toNat))\/(v.2≠0/\v.1=0/\ ¬(0<=off/\off<=s.length))):=by unfold dF;refine .ite (fun c=> .ret (.inr ⟨by decide,rfl, ?_⟩)) fun c=>?_;simp only[z!,decide_eq_true_eq]at c;omega;simp only[z!,decide_eq_true_eq,not_or]at c;refine .bind .kF fun r hr=>?_;obtain⟨rfl,h2⟩:=hr;refine .bind (J5 _ (by rw[Y_];omega)) fun v hv=>?_;exact .ret (.inl ⟨rfl,o?,o?,hv.1⟩)
def JI:qa->Nat->List Int
 |[],_=>[]
 |b::r,i=>if isB b=true then((i+1:Nat):Int)::JI r (i+1)else JI r (i+1)
theorem E9(s:qa)(hs:s.length<=2^28): ∀(r:qa)(i:Nat)(l:List Int),s.drop i=r->l.length<=i+1->vE (s,(i:Int),l)=some (l++JI r i):=by intro r;induction r with|nil=>intro i l h _;have:=ze h;rw[vE.eq_1,if_neg v?];simp[JI]|cons b r ih=>intro i l h hl;obtain⟨h1,h2,h3⟩:=zr h;rw[vE.eq_1,if_pos v?,gi h1,ws o?];simp only[zF,qS];by_cases c:isB b=true;rw[if_pos (show ((b.toNat:Int)==10)=true from c),if_pos qA,ih (i+1) _ h2 v?];simp[JI,c];rw[if_neg (show ¬((b.toNat:Int)==10)=true from c),ih (i+1) _ h2 o?];simp[JI,c]
theorem UD(s:qa)(hs:s.length<=2^28):mY s=some ⟨false,0::JI s 0⟩:=by unfold mY;rw[show (0:Int)=((0:Nat):Int)from rfl,E9 s hs s 0 _ rfl z?];simp
theorem st4_len: ∀(r:qa)(i:Nat),(JI r i).length=Ka r:=by intro r;induction r with|nil=>intro i;rfl|cons b r ih=>intro i;simp only[JI,Ka,O!];split;simp only[h?,ih];rfl;simp only[ih];rfl
theorem S2: ∀(r:qa)(i:Nat),∀ x∈JI r i,(i:Int)<x/\x<=i+r.length:=by intro r;induction r with|nil=>intro i x h;simp[JI]at h|cons b r ih=>intro i x h;simp only[JI]at h;simp only[h?];split at h;rcases U?.1 h with rfl|h;omega;have:=ih (i+1) x h;omega;have:=ih (i+1) x h;omega
theorem st4_pair: ∀(r:qa)(i:Nat),(JI r i).Pairwise (· < ·):=by intro r;induction r with|nil=>intro i;simp[JI]|cons b r ih=>intro i;simp only[JI];split;refine J!.2 ⟨fun x hx=>?_,ih (i+1)⟩;have:=S2 r (i+1) x hx;omega;exact ih (i+1)
theorem st4_at: ∀(r:qa)(i n k:Nat)(x:Int),k<Ka (r.take n)->(JI r i)[k]? =some x->x<=i+n:=by intro r;induction r with|nil=>intro i n k x h;simp[Ka]at h|cons b r ih=>intro i n k x h hx;cases n with|zero=>simp[Ka]at h|succ n=>simp only[JI]at hx;simp only[List.take_succ_cons,Ka,O!]at h;split at hx;(rename_i c;rw[if_pos c]at h;cases k with|zero=>simp only[c?,ki]at hx;omega|succ k=>have:=ih (i+1) n k x (by unfold Ka;omega) (by simpa using hx);omega);rename_i c;rw[if_neg c]at h;have:=ih (i+1) n k x (by unfold Ka;omega) hx;omega
theorem TP(s:qa):(0::JI s 0).Pairwise (fun a b:Int=>a<b):=J!.2 ⟨fun x hx=>by have:=S2 s 0 x hx;omega,st4_pair s 0⟩
theorem NB(s:qa): ∀x∈(0::JI s 0:List Int),0<=x/\x<=s.length:=by intro x hx;rcases U?.1 hx with rfl|hx;omega;have:=S2 s 0 x hx;omega
theorem Qj(s:qa)(hs:s.length<=2^28)(line:Int): ∃a b c:Int,uE s line=some (a,c)/\se s line=some (b,c)/\0<=a/\a<=b/\b<=s.length/\
  (0<=line->line<=Ka s->c=0)/\(∀ n:Nat,line=Ka (s.take n)->a<=n):=by
 have hbl:=PZ s;have hL:((0::JI s 0:List Int).length:Int)=Ka s+1:=by simp[st4_len]
 unfold uE se;rw[UD s hs];simp only[zF,qS];by_cases c:0<=line/\line<Ka s+1;(obtain⟨k,rfl⟩: ∃k:Nat,line=k:=⟨line.toNat,o?⟩;obtain⟨x,hx⟩:=gl (l:=(0::JI s 0:List Int)) (k:=k) o?;have hxi:=NB s x (z6 hx);have Tp: ∀n:Nat,(k:Int)=Ka (s.take n)->x<=n:=by intro n hn;cases k with|zero=>simp only[c?,ki]at hx;omega|succ k=>have:=st4_at s 0 n k x o? (by simpa using hx);omega);(have e1:(decide ((k:Int)<0) || decide ((k:Int)>=((0::JI s 0:List Int).length:Int)))=false:=by simp only[Bool.or_eq_false_iff,decide_eq_false_iff_not];omega);rw[e1];simp only[ko,if_false];rw[gi hx,ws o?];simp only[qS];by_cases c2:k+1<(0::JI s 0:List Int).length;(obtain⟨y,hy⟩:=gl (l:=(0::JI s 0:List Int)) (k:=k+1) c2;have hyi:=NB s y (z6 hy);have xJ:x<y:=by obtain⟨h1,h1'⟩:=qF hx;obtain⟨h2,h2'⟩:=qF hy;have:=b!.1 (TP s) k (k+1) h1 h2 o?;rw[h1',h2']at this;exact this);rw[if_pos (by simp only[decide_eq_true_eq];omega),gi hy];simp only[qS];rw[wi (n:=y-1)];exact⟨x,y-1,0,rfl,rfl,hxi.1,o?,o?,fun _ _=>rfl,Tp⟩;rw[if_neg (by simp only[decide_eq_true_eq];omega)];exact⟨x,s.length,0,rfl,rfl,hxi.1,o?,o?,fun _ _=>rfl,Tp⟩;have e1:(decide (line<0) || decide (line>=((0::JI s 0:List Int).length:Int)))=true:=by simp only[z!,decide_eq_true_eq];omega
 rw[e1];simp only[if_true];exact⟨0,0,3,rfl,rfl,o?,o?,o?,fun h1 h2=>o?,fun n hn=>o?⟩
theorem Ve(s:qa)(n:Nat):Ka (s.take n)<=Ka s:=List.Sublist.countP_le (List.take_sublist n s)
theorem A8(s:qa)(hs:s.length<=2^28)(off:Int)(h0:0<=off)(h1:off<=s.length):qJ (fZ s off 1) (fun v=>v.1=Ka (s.take off.toNat)/\0<=v.2.1):=by unfold fZ;refine .go (a:=true) (by unfold dR;simp) ?_;rw[if_neg z?];refine .bind (PW s o? off) fun v hv=>?_;rcases hv with ⟨e,_,_,hv⟩|⟨_,_,hv⟩;rotate_left;exact absurd ⟨h0,h1⟩ hv;rw[if_neg (by simp[e])];have hb:=Ve s off.toNat;obtain⟨a,b,c,g1,_,g3,_,_,g4,g5⟩:=Qj s hs v.1;refine .go g1 ?_;have:=g5 off.toNat hv;refine .bind (qJ.jj o? u? o?) fun r hr=>?_;have C0:=hr.2;refine .bind (J5 r (by simp only at C0;omega)) fun w hw=>?_;refine .bind (OC w _ hw.2) fun u hu=>?_;exact .ret ⟨hv,hu.1⟩
theorem upto_tot(s:qa)(hs:s.length<=2^28)(n:Int)(hn:0<=n):qJ (iJ s 1 n) (fun v=>0<=v/\v<=s.length):=by
 have loop: ∀(d k:Nat)(many:Int),k+d=s.length->0<=many->many<=k->qJ (nr (s,1,n,many,(k:Int))) (fun v=>match v with| .inl y=>0<=y/\y<=s.length| .inr _=>True):=by intro d;induction d with|zero=>intro k many h _ _;rw[nr.eq_1,if_neg v?];exact .ret trivial|succ d ih=>intro k many h m0 m1;rw[nr.eq_1,if_pos v?,ws o?];refine .bind .jj fun r hr=>?_;have C0:=hr.2;refine .bind (J5 r o?) fun w hw=>?_;refine .bind (OC w _ hw.2) fun u hu=>?_;rw[wi (n:=many+u)];refine .ite (fun _=> .ret ⟨o?,o?⟩) fun _=>ih (k+1) _ o? o? o?
 unfold iJ;rw[if_neg v?];refine .bind (loop s.length 0 0 o? o? o?) fun v hv=>?_;rcases v with v|v;exact .ret hv;exact .ret ⟨o?,o?⟩
theorem WH(s:qa)(hs:s.length<=2^28)(line col:Int)(hc:0<=col):qJ (rq s line col 1) (fun v=>0<=v.1/\v.1<=s.length):=by unfold rq;refine .go (a:=true) (by unfold dR;simp) ?_;rw[if_neg z?];obtain⟨a,b,c,g1,g2,g3,g4,g5,_⟩:=Qj s hs line;refine .go g1 ?_;refine .ite (fun _=> .ret ⟨u?,u?⟩) fun _=>?_;refine .go g2 ?_;refine .bind (qJ.jj u? u? u?) fun r hr=>?_;have C0:=hr.2;simp only at C0 |-;refine .bind (upto_tot r o? col hc) fun u hu=>?_;rw[wi (n:=a+u)];exact .ret ⟨u?,u?⟩
end Xr
namespace Xr
structure Kv (n:Int) (q:List qy):Prop where
 ne:q≠[]
 Y1:q.length<=64
 Kj:Wp n q
 SD:Sq q
theorem ic(n:Int)(l:Sl qy)(hl:l.l.length<2^60):qJ (bB n l) (fun v=>v.2=0->Kv n v.1.l):=by obtain⟨q,c,g1,g2⟩:=Ck n l hl;refine⟨(q,c),g1,fun hc=>?_⟩;rcases g2 with ⟨_,h1,h2,h3,rfl⟩|⟨h,_⟩;obtain⟨k1,k2⟩:=WA l.l;obtain⟨k3,k4⟩:=Zk n l.l h3;exact⟨k2 h1,u?,k4,k3⟩;exact absurd hc h
theorem leadT(b:UInt8):qJ (vU b) (fun _=>True):=Go.Proofs.YtnojdepmnnebnaaGreat.cJ b
theorem de(b:UInt8):qJ (yY b) (fun _=>True):=by unfold yY;split<;>exact .ret trivial
section
variable (s:qa) (hs:s.length<=2^28)
include hs
theorem left_L0: ∀k:Nat,k<s.length->qJ (yH (s,(k:Int))) (fun v=>0<=v/\v<=k):=by intro k;induction k with|zero=>intro _;rw[yH.eq_1,if_neg z?];exact .ret ⟨o?,o?⟩|succ k ih=>intro h;obtain⟨b,hb⟩:=gl h;rw[yH.eq_1,if_pos (by simp only[decide_eq_true_eq];omega)];refine .go (gi hb) ?_;refine .bind (leadT b) fun v _=>?_;refine .ite (fun _=>?_) fun _=> .ret ⟨o?,o?⟩;rw[show (((k+1:Nat):Int)-1)=(k:Int)from o?,wi (n:=(k:Int))];exact .mono (ih o?) fun v hv=>⟨hv.1,o?⟩
theorem q08(a:Int)(h0:0<=a)(h1:a<=s.length):qJ (iQ s a) (fun v=>0<=v/\v<=s.length):=by
 unfold iQ;rw[wi (n:=a-1)];have hl:qJ (yH (s,a-1)) (fun v=>v<=s.length):=by by_cases c:0<a;obtain⟨k,hk⟩: ∃k:Nat,a-1=k:=⟨(a-1).toNat,o?⟩;rw[hk];exact .mono (left_L0 s hs k o?) fun v hv=>o?;rw[yH.eq_1,if_neg v?];exact .ret o?
 refine .bind hl fun v hv=> .ret ?_;constructor<;>split<;>omega
theorem right_L0: ∀(d k:Nat),k+d=s.length->qJ (vh (s,(k:Int))) (fun v=>0<=v/\v<=s.length):=by intro d;induction d with|zero=>intro k h;rw[vh.eq_1,if_neg v?];exact .ret ⟨o?,o?⟩|succ d ih=>intro k h;obtain⟨b,hb⟩:=gl (l:=s) (k:=k) o?;rw[vh.eq_1,if_pos v?,ws o?];refine .go (gi hb) ?_;refine .bind (leadT b) fun v _=>?_;exact .ite (fun _=>ih (k+1) o?) fun _=> .ret ⟨o?,o?⟩
theorem AR(a:Int)(h0:0<=a)(h1:a<=s.length):qJ (ai s a) (fun v=>0<=v/\v<=s.length):=by
 unfold ai;rw[wi (n:=a+1)];have hl:qJ (vh (s,a+1)) (fun v=>0<=v):=by by_cases c:a+1<=s.length;obtain⟨k,hk⟩: ∃k:Nat,a+1=k:=⟨(a+1).toNat,o?⟩;rw[hk];exact .mono (right_L0 s hs (s.length-k) k o?) fun v hv=>hv.1;rw[vh.eq_1,if_neg v?];exact .ret o?
 refine .bind hl fun v hv=> .ret ?_;constructor<;>split<;>omega
theorem step_L5: ∀k:Nat,k<=s.length->qJ (nE (s,(k:Int))) (fun v=>0<=v/\v<=s.length):=by intro k;induction k with|zero=>intro _;rw[nE.eq_1,if_neg z?];exact .ret ⟨o?,o?⟩|succ k ih=>intro h;obtain⟨b,hb⟩:=gl (l:=s) (k:=k) o?;rw[nE.eq_1,if_pos (by simp only[decide_eq_true_eq];omega),wi (n:=((k+1:Nat):Int)-1),show(((k+1:Nat):Int)-1)=(k:Int)from o?];refine .go (gi hb) ?_;refine .bind (de b) fun v _=>?_;exact .ite (fun _=>ih o?) fun _=> .ret ⟨o?,o?⟩
theorem step_L7: ∀k:Nat,k<=s.length->qJ (nF (s,(k:Int))) (fun v=>0<=v/\v<=s.length):=by intro k;induction k with|zero=>intro _;rw[nF.eq_1,if_neg z?];exact .ret ⟨o?,o?⟩|succ k ih=>intro h;obtain⟨b,hb⟩:=gl (l:=s) (k:=k) o?;rw[nF.eq_1,if_pos (by simp only[decide_eq_true_eq];omega),wi (n:=((k+1:Nat):Int)-1),show(((k+1:Nat):Int)-1)=(k:Int)from o?];refine .go (gi hb) ?_;refine .bind (de b) fun v _=>?_;exact .ite (fun _=>ih o?) fun _=> .ret ⟨o?,o?⟩
theorem step_L1: ∀(d k:Nat),k+d=s.length->qJ (nC (s,(k:Int))) (fun v=>0<=v/\v<=s.length):=by intro d;induction d with|zero=>intro k h;rw[nC.eq_1,if_neg v?];exact .ret ⟨o?,o?⟩|succ d ih=>intro k h;obtain⟨b,hb⟩:=gl (l:=s) (k:=k) o?;rw[nC.eq_1,if_pos v?,ws o?];refine .go (gi hb) ?_;refine .bind (de b) fun v _=>?_;exact .ite (fun _=>ih (k+1) o?) fun _=> .ret ⟨o?,o?⟩
theorem step_L3: ∀(d k:Nat),k+d=s.length->qJ (nD (s,(k:Int))) (fun v=>0<=v/\v<=s.length):=by intro d;induction d with|zero=>intro k h;rw[nD.eq_1,if_neg v?];exact .ret ⟨o?,o?⟩|succ d ih=>intro k h;obtain⟨b,hb⟩:=gl (l:=s) (k:=k) o?;rw[nD.eq_1,if_pos v?,ws o?];refine .go (gi hb) ?_;refine .bind (de b) fun v _=>?_;exact .ite (fun _=>ih (k+1) o?) fun _=> .ret ⟨o?,o?⟩
theorem Va(a wA:Int)(h0:0<=a)(h1:a<=s.length):qJ (c9 s a wA) (fun v=>0<=v.1/\v.1<=s.length):=by have o4: ∀{o:Option Int},qJ o (fun v=>0<=v/\v<=s.length)->qJ (o>>=fun v=>some (v,(0:Int))) (fun v=>0<=v.1/\v.1<=s.length):=fun h=>qJ.bind h fun v hv=> .ret hv;unfold c9;refine .ite (fun _=> .ret ⟨u?,u?⟩) fun _=>?_;rw[if_neg v?];refine .bind (A8 s hs a h0 h1) fun v hv=>?_;obtain⟨v1,v2⟩:=hv;have hbl:=PZ s;have htb:=Ve s a.toNat;refine .ite (fun _=>o4 (q08 s hs a h0 h1)) fun _=>?_;refine .ite (fun _=>o4 (AR s hs a h0 h1)) fun _=>?_;refine .ite (fun _=>?_) fun _=>?_;obtain⟨x,y,c,g1,g2,g3,g4,g5,_⟩:=Qj s hs v.1;exact .go g1 (.ret ⟨u?,u?⟩);refine .ite (fun _=>?_) fun _=>?_;obtain⟨x,y,c,g1,g2,g3,g4,g5,_⟩:=Qj s hs v.1;exact .go g2 (.ret ⟨u?,u?⟩);refine .ite (fun _=>C! (fun _=>?_) fun _=> .ret ⟨u?,u?⟩) fun _=>?_;exact .bind (WH s hs _ _ v2) fun w hw=> .ret hw;refine .ite (fun _=>?_) fun _=>?_;refine .go (a:=((0::JI s 0:List Int).length:Int)) (by unfold Qq;rw[UD s hs];rfl) ?_;refine .ite (fun _=>?_) fun _=> .ret ⟨u?,u?⟩;exact .bind (WH s hs _ _ v2) fun w hw=> .ret hw;refine .ite (fun _=> .ret ⟨u?,u?⟩) fun _=>?_;refine .ite (fun _=> .ret ⟨u?,u?⟩) fun _=>?_;obtain⟨k,rfl⟩: ∃k:Nat,a=k:=⟨a.toNat,o?⟩;refine .ite (fun _=>?_) fun _=>?_;refine .bind (step_L5 s hs k o?) fun w hw=>?_;obtain⟨j,rfl⟩: ∃j:Nat,w=j:=⟨w.toNat,o?⟩;exact o4 (step_L7 s hs j o?);refine .bind (step_L1 s hs (s.length-k) k o?) fun w hw=>?_;obtain⟨j,rfl⟩: ∃j:Nat,w=j:=⟨w.toNat,o?⟩;exact o4 (step_L3 s hs (s.length-j) j o?)
end
theorem head_in{n:Int}{q:List qy}(h:Wp n q){x:qy}(hx:x∈q):0<=x.head/\x.head<=n:=by have:=h x hx;have:=Q5 x;omega
theorem go_L0(s:qa)(hs:s.length<=2^28)(wA:Int)(ext:Bool)(l:Sl qy)(hl:l.l.length<=64)(hi:Wp s.length l.l): ∀(r:List qy)(i:Nat)(out:List qy),l.l.drop i=r->out.length<=i->i<=l.l.length->qJ (wO (s,wA,ext,l,(i:Int),out)) (fun v=>v.length<=64):=by intro r;induction r with|nil=>intro i out h ho hi;have:=ze h;rw[wO.eq_1,if_neg v?];exact .ret o?|cons x r ih=>(intro i out h ho P5;obtain⟨h1,h2,h3⟩:=zr h;have hx:=head_in hi (z6 h1);rw[wO.eq_1,if_pos v?,ws o?];refine .go (gi h1) ?_;refine .go (JH x) ?_;refine .bind (Va s hs x.head wA hx.1 hx.2) fun v hv=>?_;have k: ∀y:qy,qJ (if qg (out.length+1) 16=true then wO (s,wA,ext,l,((i+1:Nat):Int),out++[y])else none) (fun v=>v.length<=64):=by intro y;rw[if_pos qA];exact ih (i+1) _ h2 v? o?);refine .ite (fun _=>C! (fun _=>C! (fun _=>C! (fun _=>k _) fun _=>k _) fun _=>C! (fun _=>k _) fun _=>k _) fun _=>k _) fun _=>k _
theorem go_tot(s:qa)(hs:s.length<=2^28)(wA:Int)(ext:Bool)(q:Sl qy)(hq:q.l.length<2^60):qJ (Xj s wA ext q) (fun v=>v.2=0->Kv s.length v.1.l):=by unfold Xj;refine .ite (fun _=> .ret fun h=>absurd h (by decide)) fun _=>?_;refine .bind (ic (s.length:Int) q hq) fun v hv=>?_;refine .ite (fun c=> .ret fun h=>absurd h (by simpa using c)) fun c=>?_;have hg:=hv (by simpa using c);refine .bind (go_L0 s hs wA ext v.1 hg.Y1 hg.Kj v.1.l 0 [] rfl z? z?) fun w hw=>?_;exact .bind (ic (s.length:Int) ⟨w.isEmpty,w⟩ u?) fun u hu=> .ret hu
theorem typed_L0(l:Sl qy)(text:qa)(hl:l.l.length<=64): ∀(r:List qy)(i:Nat)(es:List ql),l.l.drop i=r->es.length=i->qJ (ua (l,text,(i:Int),es)) (fun v=>v.length=es.length+r.length/\ ∀e∈v,e∈es\/e.text=text):=by intro r;induction r with|nil=>intro i es h ho;have:=ze h;rw[ua.eq_1,if_neg v?];exact .ret ⟨z?,fun e he=> .inl he⟩|cons x r ih=>intro i es h ho;obtain⟨h1,h2,h3⟩:=zr h;rw[ua.eq_1,if_pos v?,ws o?];refine .go (gi h1) ?_;refine .go (JH x) ?_;rw[if_pos qA];refine .mono (ih (i+1) _ h2 v?) fun v hv=>⟨by have:=hv.1;simp at this |-; omega,fun e he=>?_⟩;rcases hv.2 e he with h|h;rcases m?.1 h with h|h;exact .inl h;simp only[a?]at h;subst h;exact .inr rfl;exact .inr h
theorem Gs(l:List ql)(n:Nat)(h: ∀e∈l,e.text.length<=n):wP l<=l.length*n:=by induction l with|nil=>simp[wP]|cons e l ih=>have h1:=h e z?;have h2:=ih fun e' VR=>h e' (by simp[VR]);simp only[wP,s?,y!,h?]at*;rw[T?];omega
theorem Eo(l:Sl qy)(text:qa)(hl:l.l.length<=64)(ht:text.length<=65536):qJ (cN l text) (fun v=>v.l.length<=64/\wP v.l<=4194304):=by
 unfold cN;refine .bind (typed_L0 l text hl l.l 0 [] rfl rfl) fun v hv=> .ret ?_;have h1:=hv.1;have h2:=Gs v 65536 fun e he=>by rcases hv.2 e he with h|h;simp at h;rw[h];exact ht
 simp only[e?,P?]at h1;refine⟨u?, ?_⟩;have:v.length*65536<=64*65536:=mulR _ o?;simp only;omega
theorem Fi(s:qa)(hs:s.length<=2^28)(l:Sl qy)(f:Bool)(hl:l.l.length<=64)(hi:Wp s.length l.l): ∀(r:List qy)(i:Nat)(sp:List qn),l.l.drop i=r->sp.length<=i->i<=l.l.length->qJ (xp (s,l,f,(i:Int),sp)) (fun v=>v.length<=64):=by intro r;induction r with|nil=>intro i sp h ho P5;have:=ze h;rw[xp.eq_1,if_neg v?];exact .ret o?|cons x r ih=>(intro i sp h ho P5;obtain⟨h1,h2,h3⟩:=zr h;have hx:=hi x (z6 h1);have hle:=Q5 x;rw[xp.eq_1,if_pos v?,ws o?];refine .go (gi h1) ?_;refine .go (JH x) ?_;refine .bind (Va s hs (uK x).qB 1 hx.1 o?) fun a ha=>?_;refine .bind (Va s hs (uK x).qB 2 hx.1 o?) fun b hb=>?_;have k: ∀y:qn,qJ (if qg (sp.length+1) 16=true then xp (s,l,f,((i+1:Nat):Int),sp++[y])else none) (fun v=>v.length<=64):=by intro y;rw[if_pos qA];exact ih (i+1) _ h2 v? o?);have k0:qJ (xp (s,l,f,((i+1:Nat):Int),sp)) (fun v=>v.length<=64):=ih (i+1) _ h2 o? o?;exact .ite (fun _=>C! (fun _=>C! (fun _=>k _) fun _=>k0) fun _=>C! (fun _=>k _) fun _=>k0) fun _=>C! (fun _=>k _) fun _=>k0
end Xr
namespace Xr
theorem touch5(a b:qn):sY a b=some (decide (QY a b)):=rfl
theorem union_L0(s:Sl qn)(hs:s.l.length<=2^20): ∀(r:List qn)(i:Nat)(out:List qn),s.l.drop i=r->out.length<=i->i<=s.l.length->qJ (km (s,(i:Int),out)) (fun v=>v.length<=s.l.length):=by intro r;induction r with|nil=>intro i out h ho hi;have:=ze h;rw[km.eq_1,if_neg v?];exact .ret o?|cons x r ih=>(intro i out h ho hi;obtain⟨h1,h2,h3⟩:=zr h;rw[km.eq_1,if_pos v?,ws o?];refine .go (gi h1) ?_;have k: ∀y:qn,qJ (if qg (out.length+1) 16=true then km (s,((i+1:Nat):Int),out++[y])else none) (fun v=>v.length<=s.l.length):=by intro y;rw[if_pos qA];exact ih (i+1) _ h2 v? o?);(refine .ite (fun _=>ih (i+1) _ h2 o? o?) fun _=>?_;refine .ite (fun c=>?_) fun _=>k _;have c0:0<out.length:=by simpa using c);rw[wi (n:=(out.length:Int)-1),show(out.length:Int)-1=((out.length-1:Nat):Int)from o?];obtain⟨y,hy⟩:=gl (l:=out) (k:=out.length-1) o?;refine .go (gi hy) ?_;refine .go (touch5 _ _) ?_;exact .ite (fun _=>ih (i+1) _ h2 (by rw[List.length_set];omega) o?) fun _=>k _
theorem Jc(l:Sl qn)(hl:l.l.length<=64):qJ (a8 l) (fun v=>v.l.length<=64):=by unfold a8;have hp:=(re id l.l []).length_eq;simp only[F?]at hp;refine .go (MG l o?) ?_;refine .bind (union_L0 _ u? _ 0 [] rfl z? z?) fun v hv=> .ret ?_;simp only at hv |-;omega
theorem Fj(u:Sl qn)(hu:u.l.length<=64): ∀(r:List qn)(i:Nat)(es:List ql),u.l.drop i=r->es.length<=i->i<=u.l.length->(∀ e∈es,e.text=[])->qJ (yf (u,(i:Int),es)) (fun v=>v.length<=64/\ ∀e∈v,e.text=[]):=by intro r;induction r with|nil=>intro i es h ho hi he;have:=ze h;rw[yf.eq_1,if_neg v?];exact .ret ⟨o?,he⟩|cons x r ih=>intro i es h ho hi he;obtain⟨h1,h2,h3⟩:=zr h;rw[yf.eq_1,if_pos v?,ws o?];refine .go (gi h1) ?_;rw[if_pos qA];refine ih (i+1) _ h2 v? o? fun e h=>?_;rcases m?.1 h with h|h;exact he e h;simp only[a?]at h;subst h;rfl
theorem Te(s:qa)(hs:s.length<=2^28)(l:Sl qy)(f:Bool)(hl:l.l.length<=64)(hi:Wp s.length l.l):qJ (rS s l f) (fun v=>v.l.length<=64/\wP v.l<=4194304):=by
 unfold rS;refine .bind (Fi s hs l f hl hi l.l 0 [] rfl z? z?) fun v hv=>?_;refine .bind (Jc ⟨v.isEmpty,v⟩ hv) fun u hu=>?_;refine .bind (Fj u hu u.l 0 [] rfl z? z? z?) fun w hw=> .ret ⟨hw.1, ?_⟩;have:=Gs w 0 fun e he=>by rw[hw.2 e he];simp
 simp only;omega
def free(x:qq):Prop:=x.qL=false
structure Nums (is:List qj) (ns:List Int):Prop where
 of: ∀n∈ns,gu n is≠[]
 len:ns.length<=2^24+1
theorem Dh{n:Int}{is:List qj}{i:qj}(hi:i∈is){x:qq}(hx:x∈i.stops.l)(h1:x.n=n)(h2:x.qL=false):gu n is≠[]:=by
 intro h;have:x.span∈gu n is:=by unfold gu Xn;simp only[List.mem_flatMap,List.mem_map,S_,isN,zO,u_,beq_iff_eq];exact⟨i,hi,x,⟨hx,h2,h1⟩,rfl⟩
 rw[h]at this;simp at this
structure PD (is:List qj) (m:Nat) (ns:List Int) (z met:Bool):Prop where
 of: ∀n∈ns,gu n is≠[]
 zero:z=true->gu 0 is≠[]
 len:ns.length<=m
 met:met=true->ns≠[]\/z=true
theorem R3(is:Sl qj)(hL:many is.l<=2^24)(i:Nat)(x:qj)(hx:is.l[i]? =some x)(hxl:x.stops.l.length<=2^12): ∀(r:List qq)(k:Nat)(m:Nat)(ns:Sl Int)(z met:Bool),x.stops.l.drop k=r->m+r.length<=2^24->PD is.l m ns.l z met->
  qJ (xo (is,ns,z,(i:Int),(k:Int))) (fun v=>PD is.l (m+r.length) v.1.l v.2 (met || r.any fun y=> !y.qL)):=by intro r;induction r with|nil=>intro k m ns z met h hm W;have:=ze h;rw[xo.eq_1];refine .go (gi hx) ?_;rw[if_neg v?];exact .ret (by simpa using W)|cons y r ih=>(intro k m ns z met h hm W;simp only[h?]at hm;obtain⟨h1,h2,h3⟩:=zr h;have LL:=z6 hx;have EM:=z6 h1;rw[xo.eq_1];refine .go (gi hx) ?_;rw[if_pos v?,ws o?];refine .go (gi h1) ?_;have hlen:=W.len;have o4: ∀(ns' :Sl Int)(z' :Bool),PD is.l (m+1) ns'.l z' (met || !y.qL)->qJ (xo (is,ns',z',(i:Int),((k+1:Nat):Int))) (fun v=>PD is.l (m+(y::r).length) v.1.l v.2 (met || (y::r).any fun y=> !y.qL)):=by intro ns' z' W';have:=ih (k+1) (m+1) ns' z' (met || !y.qL) h2 o? W';rw[show m+(y::r).length=m+1+r.length from by simp only[h?];omega,q1y,<- q1z];exact this);(have put: ∀z' :Bool,y.qL=false->(z' =true->gu 0 is.l≠[])->qJ (ri ns y.n>>=fun v=>xo (is,v,z',(i:Int),((k+1:Nat):Int))) (fun v=>PD is.l (m+(y::r).length) v.1.l v.2 (met || (y::r).any fun y=> !y.qL)):=by intro z' ht hz;refine .bind (Cv ns y.n o?) fun v hv=>?_;obtain⟨v1,v2,v3,v4⟩:=hv;refine o4 v z' ⟨fun n hn=>?_,hz,o?,fun _=> .inl ?_⟩;rcases v2 n hn with rfl|h;exact Dh LL EM rfl ht;exact W.of n h;intro h;rw[h]at v3;simp at v3);refine .ite (fun c=>?_) fun c=>?_;(have ht:y.qL=false:=by simpa using c);refine .ite (fun c2=>?_) fun c2=>?_;have h0:gu 0 is.l≠[]:=Dh LL EM (by simpa using c2) ht;refine .ite (fun _=>put true ht fun _=>h0) fun _=>?_;exact o4 ns true ⟨W.of,fun _=>h0,o?,fun _=> .inr rfl⟩;refine .ite (fun _=>put z ht W.zero) fun c3=>?_;simp at c2 c3;exact absurd c3 c2;(have ht:y.qL=true:=by simpa using c);exact o4 ns z ⟨W.of,W.zero,o?,by rw[ht];simpa using W.met⟩
theorem R2(is:Sl qj)(hL:many is.l<=2^24)(hb: ∀i∈is.l,i.stops.l.length<=2^12)(hn:is.l.length<=2^12): ∀(r:List qj)(i m:Nat)(ns:Sl Int)(z met:Bool),is.l.drop i=r->m+many r<=2^24->PD is.l m ns.l z met->
  qJ (wL (is,ns,z,(i:Int))) (fun v=>PD is.l (m+many r) v.1.l v.2 (met || r.any fun x=>x.stops.l.any fun y=> !y.qL)):=by intro r;induction r with|nil=>intro i m ns z met h hm W;have:=ze h;rw[wL.eq_1,if_neg v?];exact .ret (by simpa[many]using W)|cons x r ih=>(intro i m ns z met h hm W;obtain⟨h1,h2,h3⟩:=zr h;have hx:=hb x (z6 h1);have hmc:many (x::r)=x.stops.l.length+many r:=by simp[many]);rw[wL.eq_1,if_pos v?,ws o?];refine .bind (R3 is hL i x h1 hx x.stops.l 0 m ns z met rfl o? W) fun v hv=>?_;have:=ih (i+1) (m+x.stops.l.length) v.1 v.2 _ h2 o? hv;rw[hmc,<- Nat.add_assoc,q1y,<- q1z];exact this
theorem lV(is:Sl qj)(hb: ∀i∈is.l,i.stops.l.length<=2^12)(hn:is.l.length<=2^12):qJ (gK is) (fun v=>Nums is.l v.l/\((∃ i∈is.l,∃ x∈i.stops.l,x.qL=false)->v.l≠[])):=by
 have h1:=X6 hb;have h2:is.l.length*2^12<=2^12*2^12:=j_ hn (jx _);have hm:many is.l<=2^24:=o?;unfold gK;refine .bind (R2 is hm hb hn is.l 0 0 ⟨true,[]⟩ false false rfl o? ⟨z?,z?,z?,z?⟩) fun v hv=>?_;have hlen:=hv.len;have hmet:(∃ i∈is.l,∃ x∈i.stops.l,x.qL=false)->v.1.l≠[]\/v.2=true:=by rintro⟨i,hi,x,hx,h⟩;refine hv.met ?_;simp only[Bool.false_or,List.any_eq_true];exact⟨i,hi,x,hx,by simp[h]⟩
 refine .ite (fun c=>?_) fun c=>?_;refine .zx qA (qJ.zx qA (.ret ⟨⟨fun n hn=>?_,v?⟩,fun _=>z?⟩));rcases m?.1 hn with h|h;exact hv.of n h;simp only[a?]at h;subst h;exact hv.zero c;refine .ret ⟨⟨hv.of,o?⟩,fun h=>?_⟩;rcases hmet h with h|h;exact h;exact absurd h c
theorem Yl(a b:Int):qJ (rm a b) (fun _=>True):=by unfold rm;split;split<;>exact .ret trivial;exact .ret trivial
theorem q0E(cur:Int)(is:Sl qj)(hb: ∀i∈is.l,i.stops.l.length<=2^12)(hn:is.l.length<=2^12):qJ (fP cur is) (fun v=>v.2=true->gu v.1 is.l≠[]):=by
 have loop: ∀(ns:Sl Int),Nums is.l ns.l-> ∀(d k:Nat),k+d=ns.l.length->qJ (gJ (cur,ns,(k:Int))) (fun v=>match v with| .inl y=>y.2=true->gu y.1 is.l≠[]| .inr _=>True):=by intro ns hN d;have:=hN.len;induction d with|zero=>intro k h;rw[gJ.eq_1,if_neg v?];exact .ret trivial|succ d ih=>intro k h;obtain⟨x,hx⟩:=gl (l:=ns.l) (k:=k) o?;rw[gJ.eq_1,if_pos v?,ws o?];refine .go (gi hx) ?_;refine .bind (Yl _ _) fun v _=>?_;exact .ite (fun _=> .ret fun _=>hN.of x (z6 hx)) fun _=>ih (k+1) o?
 unfold fP;refine .bind (lV is hb hn) fun v hv=>?_;refine .bind (loop v hv.1 v.l.length 0 o?) fun w hw=>?_;rcases w with w|w;exact .ret hw;exact .ret fun h=>absurd h (by decide)
theorem prev_tot(cur:Int)(is:Sl qj)(hb: ∀i∈is.l,i.stops.l.length<=2^12)(hn:is.l.length<=2^12):qJ (fQ cur is) (fun v=>v.2=true->gu v.1 is.l≠[]):=by
 have loop: ∀(ns:Sl Int),Nums is.l ns.l-> ∀k:Nat,k<=ns.l.length->qJ (gM (cur,ns,(k:Int)-1)) (fun v=>match v with| .inl y=>y.2=true->gu y.1 is.l≠[]| .inr _=>True):=by intro ns hN k;have:=hN.len;induction k with|zero=>intro h;rw[gM.eq_1,if_neg z?];exact .ret trivial|succ k ih=>intro h;obtain⟨x,hx⟩:=gl (l:=ns.l) (k:=k) o?;rw[show ((k+1:Nat):Int)-1=(k:Int)from o?,gM.eq_1,if_pos z?,wi (n:=(k:Int)-1)];refine .go (gi hx) ?_;refine .bind (Yl _ _) fun v _=>?_;exact .ite (fun _=> .ret fun _=>hN.of x (z6 hx)) fun _=>ih o?
 unfold fQ;refine .bind (lV is hb hn) fun v hv=>?_;have:=hv.1.len;rw[wi (n:=(v.l.length:Int)-1)];refine .bind (loop v hv.1 v.l.length (jx _)) fun w hw=>?_;rcases w with w|w;exact .ret hw;exact .ret fun h=>absurd h (by decide)
end Xr
namespace Xr
theorem vj.sel{st:qv}(h:vj st){q:Sl qy}(g:Kv st.text.length q.l):vj ⟨st.text,q,st.qo⟩:=
 ⟨⟨h.may.text,h.may.du,g.ne,g.Y1,g.Kj,g.SD,h.may.may,h.may.lies⟩,h.small,h.stop,h.JS⟩
theorem Ss.take{ss:List qb}(h:Ss ss)(k:Nat):Ss (ss.take k):=by intro j s hs;have hj:=(qF hs).1;rw[Y_]at hj;rw[V? o?]at hs;obtain⟨h1,h2⟩:=h j s hs;exact tW
theorem vj.take{st:qv}(h:vj st)(k:Nat)(b:Bool):vj ⟨st.text,st.xT,⟨b,st.qo.l.take k⟩⟩:=
 ⟨⟨h.may.text,by simp only[Y_];have:=h.may.du;omega,h.may.ne,h.may.Y1,h.may.Kj,h.may.SD,fun s hs=>h.may.may s (W? hs),h.may.lies.take k⟩,
  fun s hs=>h.small s (W? hs),fun s hs=>h.stop s (W? hs),fun s hs=>h.JS s (W? hs)⟩
theorem vj.cur{st:qv}(h:vj st)(ss:List qb)(s:qb)(e:st.qo.l=ss++[s])(n:Int)(hn:gu n s.insts.l≠[])(b:Bool):vj ⟨st.text,st.xT,⟨b,ss++[⟨n,s.insts⟩]⟩⟩:=by
 have hm: ∀{P:qb->Prop},(∀ x∈st.qo.l,P x)->P ⟨n,s.insts⟩-> ∀x∈ss++[(⟨n,s.insts⟩:qb)],P x:=by intro P h1 h2 x hx;rcases m?.1 hx with hx|hx;exact h1 x (by rw[e];exact List.mem_append_left _ hx);simp only[a?]at hx;subst hx;exact h2
 have hs:s∈st.qo.l:=by rw[e];simp
 have hl:=h.may.du;rw[e]at hl;refine⟨⟨h.may.text,by simpa using hl,h.may.ne,h.may.Y1,h.may.Kj,h.may.SD,hm h.may.may (h.may.may s hs), ?_⟩,hm h.small (h.small s hs),hm h.stop (h.stop s hs),hm h.JS hn⟩;have hL:=h.may.lies;rw[e]at hL;intro j x hx;have hj:=(qF hx).1;simp only[t?,w!]at hj;have hprev: ∀p,0<j->(ss++[(⟨n,s.insts⟩:qb)])[j-1]? =some p->(ss++[s])[j-1]? =some p:=by intro p h0 hp;rw[r? o?]at hp |-;exact hp
 by_cases c:j<ss.length;rw[r? c]at hx;obtain⟨h1,h2⟩:=hL j x (by rw[r? c];exact hx);exact⟨h1,fun h0 p hp=>h2 h0 p (hprev p h0 hp)⟩;have SU:j=ss.length:=o?;subst SU;rw[J? (jx _)]at hx;simp only[Nat.sub_self,c?,ki]at hx;subst hx;obtain⟨h1,h2⟩:=hL ss.length s (by rw[J? (jx _)];simp);exact⟨h1,fun h0 p hp=>h2 h0 p (hprev p h0 hp)⟩
theorem OZ(n k:Int)(sp:Sl qn)(st t4:qv)(s:qb)(hs:sp.l.length<=2^24): ∀(r:List qn)(i:Nat)(l:List qy),sp.l.drop i=r->l.length<=i->i<=sp.l.length->qJ (uC (n,k,sp,(i:Int),st,t4,s,l)) (fun v=>v.length<=2^24):=by intro r;induction r with|nil=>intro i l h ho hi;have:=ze h;rw[uC.eq_1,if_neg v?];exact .ret o?|cons x r ih=>intro i l h ho hi;obtain⟨h1,h2,h3⟩:=zr h;rw[uC.eq_1,if_pos v?,ws o?];refine .go (gi h1) ?_;rw[if_pos qA];exact ih (i+1) _ h2 v? o?
theorem Ff(n k:Int)(sp:Sl qn)(st t4:qv)(s:qb)(hs:sp.l.length<=2^24): ∀(r:List qn)(i:Nat)(l:List qy),sp.l.drop i=r->l.length<=i->i<=sp.l.length->qJ (wN (n,k,sp,(i:Int),st,t4,s,l)) (fun v=>v.length<=2^24):=by intro r;induction r with|nil=>intro i l h ho hi;have:=ze h;rw[wN.eq_1,if_neg v?];exact .ret o?|cons x r ih=>intro i l h ho hi;obtain⟨h1,h2,h3⟩:=zr h;rw[wN.eq_1,if_pos v?,ws o?];refine .go (gi h1) ?_;rw[if_pos qA];exact ih (i+1) _ h2 v? o?
theorem Wu{α:Type}{l:List α}{x:α}(h:l[l.length-1]? =some x):l=l.take (l.length-1)++[x]:=by
 obtain⟨h1,h2⟩:=qF h;have h3:l.take (l.length-1+1)=l.take (l.length-1)++[x]:=by rw[List.take_add_one,h];rfl
 exact tW
section
variable {st:qv} (h:vj st)
include h
theorem spl(x:qb)(hx:x∈st.qo.l)(n:Int):wo n x.insts=some ⟨(gu n x.insts.l).isEmpty,gu n x.insts.l⟩/\(gu n x.insts.l).length<=2^24:=
 ⟨Xo n x.insts (h.small x hx).2 (h.small x hx).1,V5 (h.small x hx) n⟩
theorem Fh(n:Int)(hn: ∀x∈st.qo.l,st.qo.l[st.qo.l.length-1]? =some x->gu n x.insts.l≠[])(jz:st.qo.l≠[]):qJ (mX st.text st.xT n st.qo.l) (fun v=>v.2=0->vj v.1):=by have hl:=h.may.du;have pZ:=q!.2 jz;unfold mX;rw[wi (n:=(st.qo.l.length:Int)-1),show(st.qo.l.length:Int)-1=((st.qo.l.length-1:Nat):Int)from o?];obtain⟨x,hx⟩:=gl (l:=st.qo.l) (k:=st.qo.l.length-1) o?;have LL:=z6 hx;refine .go (gi hx) ?_;obtain⟨s1,s2⟩:=spl h x LL n;refine .go s1 ?_;refine .bind (OZ n _ ⟨(gu n x.insts.l).isEmpty,gu n x.insts.l⟩ _ _ x s2 _ 0 [] rfl z? z?) fun w hw=>?_;refine .bind (ic (st.text.length:Int) ⟨w.isEmpty,w⟩ u?) fun u hu=>?_;refine .ite (fun c=> .ret fun h0=>absurd h0 (by simpa using c)) fun c=>?_;have hg:=hu (by simpa using c);refine .go (JT _ _ o?) ?_;refine .zx (qA v? o?) ?_;have Wn:=vj.sel h hg;refine .ite (fun _=>qJ.zx (qA v? o?) (.ret fun _=>?_)) fun _=> .ret fun _=>?_;exact Wn.cur _ x (Wu hx) n (hn x LL hx) false;exact Wn.take _ false
theorem Z8(n:Int)(hn: ∀x∈st.qo.l,st.qo.l[st.qo.l.length-1]? =some x->gu n x.insts.l≠[])(jz:st.qo.l≠[]):qJ (gQ st n) (fun v=>v.2=0->vj v.1):=by have hl:=h.may.du;have pZ:=q!.2 jz;unfold gQ;rw[wi (n:=(st.qo.l.length:Int)-1),show(st.qo.l.length:Int)-1=((st.qo.l.length-1:Nat):Int)from o?];obtain⟨x,hx⟩:=gl (l:=st.qo.l) (k:=st.qo.l.length-1) o?;have LL:=z6 hx;refine .go (gi hx) ?_;obtain⟨s1,s2⟩:=spl h x LL n;refine .go s1 ?_;refine .bind (Ff n _ ⟨(gu n x.insts.l).isEmpty,gu n x.insts.l⟩ _ _ x s2 _ 0 [] rfl z? z?) fun w hw=>?_;refine .bind (ic (st.text.length:Int) ⟨w.isEmpty,w⟩ u?) fun u hu=>?_;refine .ite (fun c=> .ret fun h0=>absurd h0 (by simpa using c)) fun c=>?_;have hg:=hu (by simpa using c);refine .go (JT _ _ o?) ?_;refine .zx (qA v? o?) ?_;have Wn:=vj.sel h hg;refine .ite (fun _=>qJ.zx (qA v? o?) (.ret fun _=>?_)) fun _=> .ret fun _=>?_;exact Wn.cur _ x (Wu hx) n (hn x LL hx) false;exact Wn.take _ false
theorem Nz(jz:st.qo.l≠[]):qJ (sW st) vj:=by have hl:=h.may.du;have pZ:=q!.2 jz;unfold sW;rw[wi (n:=(st.qo.l.length:Int)-1),show(st.qo.l.length:Int)-1=((st.qo.l.length-1:Nat):Int)from o?];refine .go (JT _ _ o?) ?_;exact .zx (qA v? o?) (.ret (h.take _ false))
theorem Wy{α:Type}{k:Bool->Option α}{Q:α->Prop}(hk:qJ (k true) Q):qJ (bu st>>=k) Q:=by obtain⟨t,m1,m2⟩:=NH st h.small (by have:=h.may.Y1;omega);obtain rfl:=m2.2 h.may;exact .go m1 hk
theorem TZ:qJ (fX st) (fun v=>v.2=0->vj v.1):=by
 have hl:=h.may.du;unfold fX;refine Wy h ?_;rw[if_neg z?];refine .ite (fun _=> .ret fun h0=>absurd h0 (by decide)) fun c=>?_;have jz:st.qo.l≠[]:=by intro e;rw[e]at c;simp at c
 have pZ:=q!.2 jz;rw[wi (n:=(st.qo.l.length:Int)-1),show(st.qo.l.length:Int)-1=((st.qo.l.length-1:Nat):Int)from o?];obtain⟨x,hx⟩:=gl (l:=st.qo.l) (k:=st.qo.l.length-1) o?;have hs:=h.small x (z6 hx);refine .go (gi hx) ?_;refine .bind (q0E x.cur x.insts hs.2 hs.1) fun v hv=>?_;refine .ite (fun _=>qJ.bind (Nz h jz) fun u hu=> .ret fun _=>hu) fun c2=>?_;refine .bind (Z8 h v.1 (fun y _ hy=>?_) jz) fun u hu=> .ret hu;rw[hx]at hy;cases hy;exact hv (by simpa using c2)
theorem Rh:qJ (fY st) (fun v=>v.2=0->vj v.1):=by
 have hl:=h.may.du;unfold fY;refine Wy h ?_;rw[if_neg z?];refine .ite (fun _=> .ret fun h0=>absurd h0 (by decide)) fun c=>?_;have jz:st.qo.l≠[]:=by intro e;rw[e]at c;simp at c
 have pZ:=q!.2 jz;rw[wi (n:=(st.qo.l.length:Int)-1),show(st.qo.l.length:Int)-1=((st.qo.l.length-1:Nat):Int)from o?];obtain⟨x,hx⟩:=gl (l:=st.qo.l) (k:=st.qo.l.length-1) o?;have hs:=h.small x (z6 hx);refine .go (gi hx) ?_;refine .bind (prev_tot x.cur x.insts hs.2 hs.1) fun v hv=>?_;refine .ite (fun _=> .ret fun h0=>absurd h0 (by decide)) fun c2=>?_;refine .bind (Z8 h v.1 (fun y _ hy=>?_) jz) fun u hu=> .ret hu;rw[hx]at hy;cases hy;exact hv (by simpa using c2)
theorem Ny:qJ (d6 st) (fun v=>v.2=0->vj v.1):=by unfold d6;refine Wy h ?_;rw[if_neg z?];have:= @Nz;exact tW
theorem F3(k n:Int)(x:qb)(hx:x∈st.qo.l)(a:Nat)(i:qj)(hi:x.insts.l[a]? =some i)(t4:qv): ∀(r:List qq)(j:Nat)(has f:Bool)(es:List ql),i.stops.l.drop j=r->es.length<=a+(if f=true then 1 else 0)->wP es<=es.length*17592186044416->
  qJ (xQ (k,n,has,(a:Int),f,(j:Int),st,t4,x,es)) (fun v=>v.2.length<=a+1/\wP v.2<=v.2.length*17592186044416):=by have hs:=h.small x hx;have ha:=(qF hi).1;have dh:=hs.2 i (z6 hi);have ha12:=hs.1;intro r;induction r with|nil=>intro j has f es h0 h1 h2;have:=ze h0;rw[xQ.eq_1];refine .go (gi hi) ?_;rw[if_neg v?];exact .ret ⟨by simp only;split at h1<;>omega,h2⟩|cons y r ih=>(intro j has f es h0 h1 h2;obtain⟨g1,g2,g3⟩:=zr h0;have hso:=h.stop x hx i (z6 hi) y (z6 g1);rw[xQ.eq_1];refine .go (gi hi) ?_;rw[if_pos v?,ws o?];refine .go (gi g1) ?_;refine .ite (fun _=>ih (j+1) _ _ _ g2 h1 h2) fun _=>?_;have take: ∀has' :Bool,((!f)&&((decide (k>=(0:Int)))&&(decide (k<(y.opts.l.length:Int)))))=true->qJ (qh y.opts.l k>>=fun z=>if qg (es.length+1) 32=true then xQ (k,n,has',(a:Int),true,((j+1:Nat):Int),st,t4,x,es++[(ql.mk y.span z)])else none) (fun v=>v.2.length<=a+1/\wP v.2<=v.2.length*17592186044416):=by (intro has' c;simp only[zO,u_,decide_eq_true_eq]at c;obtain⟨c1,c2,c3⟩:=c;subst c1;simp only[ko,if_false,M?]at h1;refine .bind (qJ.get o? c3) fun z hz=>?_;have hzl:=hso.2.1 z hz.2;rw[if_pos qA];refine ih (j+1) _ _ _ g2 v? ?_;have:wP (es++[(ql.mk y.span z)])=wP es+z.length:=by simp[wP]);rw[this,t?,w!,T?];omega);exact .ite (fun _=>C! (fun c=>take _ c) fun _=>ih (j+1) _ _ _ g2 h1 h2) fun _=>C! (fun c=>take _ c) fun _=>ih (j+1) _ _ _ g2 h1 h2
theorem F2(k n:Int)(x:qb)(hx:x∈st.qo.l)(t4:qv): ∀(r:List qj)(a:Nat)(has:Bool)(es:List ql),x.insts.l.drop a=r->a<=x.insts.l.length->es.length<=a->wP es<=es.length*17592186044416->
  qJ (yk (k,n,has,(a:Int),st,t4,x,es)) (fun v=>v.2.length<=4096/\wP v.2<=v.2.length*17592186044416):=by have hs:=h.small x hx;have ha12:=hs.1;intro r;induction r with|nil=>intro a has es h0 Vp h1 h2;have:=ze h0;rw[yk.eq_1,if_neg v?];exact .ret ⟨u?,h2⟩|cons i r ih=>intro a has es h0 Vp h1 h2;obtain⟨g1,g2,g3⟩:=zr h0;rw[yk.eq_1,if_pos v?,ws o?];have:= @F3;exact tW
end
end Xr
theorem XG(s lead unit:qa)(hs:s.length<=8192002)(hl:lead.length<=1048576)(hu:unit.length<=1048576):qJ (bL s lead unit) (fun r=>r.length<=17592186044416):=by
 have key: ∀(r:qa)(k:Nat)(behind:Bool)(b:qa),s.drop k=r->k<=s.length->b.length<=2097153*k->qJ (xq (s,lead,unit,behind,(k:Int),b)) (fun r=>r.length<=17592186044416):=by (have WY: ∀n,n<=17592186044416->qg n 1=true:=by intro n hn;simp only[qg,zO,decide_eq_true_eq];omega);intro r;induction r with|nil=>intro k behind b hk Ng hb;rw[xq.eq_1,if_neg (by simpa using yu hk)];exact .ret o?|cons c r ih=>(intro k behind b hk Ng hb;obtain⟨a1,a2,a3,a4⟩:=wS hk;have next: ∀(h:Bool)(e:qa),e.length<=b.length+2097153->qJ (xq (s,lead,unit,h,((k+1:Nat):Int),e)) (fun r=>r.length<=17592186044416):=fun h e he=>ih (k+1) h e a3 o? o?);rw[xq.eq_1,if_pos (by simpa using a1),ll o? a1,a2];exact tW
 unfold bL;exact tW
theorem YA(name:qa)(env:Sl qw)(he:env.l.length<=1099511627776):qJ (yT name env) (fun r=>(∃ p∈env.l,r.1=p.value)\/(r.1=[]/\r.2=false)):=by
 have key: ∀(r:List qw)(k:Nat),env.l.drop k=r->qJ (wZ (name,env,(k:Int))) (fun v=>match v with| .inl y=> ∃p∈env.l,y.1=p.value| .inr _=>True):=by intro r;induction r with|nil=>intro k hk;rw[wZ.eq_1,if_neg (by simpa using yu hk)];exact .ret trivial|cons c r ih=>intro k hk;obtain⟨a1,a2,a3,a4⟩:=wS hk;rw[wZ.eq_1,if_pos (by simpa using a1),ll o? a1];exact tW
 unfold yT;exact tW
theorem Jw(name:qa):qJ (rj name) (fun _=>True):=by
 have key: ∀(l:Sl qa)(hl:l.l.length<=1000)(r:List qa)(k:Nat),l.l.drop k=r->qJ (uj (name,l,(k:Int))) (fun _=>True):=by intro l hl r;induction r with|nil=>intro k hk;rw[uj.eq_1,if_neg (by simpa using yu hk)];exact .ret trivial|cons c r ih=>intro k hk;obtain⟨a1,a2,a3,a4⟩:=wS hk;rw[uj.eq_1,if_pos (by simpa using a1),ll o? a1];exact tW
 unfold rj aZ;refine .go rfl ?_;refine .bind (key _ z? _ 0 rfl) fun v _=>?_;rcases v with v|v<;>exact .ret trivial
theorem tY(n:Int)(l:List Int)(hl:l.length<=1099511627776):qJ (yN n l) (fun r=>r=true↔n∈l):=by
 have key: ∀(r:List Int)(k:Nat),l.drop k=r->qJ (uo (n,(k:Int),l)) (fun v=>(v= .inl true/\n∈r)\/(v= .inr ()/\n∉r)):=by intro r;induction r with|nil=>intro k hk;rw[uo.eq_1,if_neg (by simpa using yu hk)];exact .ret (.inr ⟨rfl,z?⟩)|cons c r ih=>intro k hk;obtain⟨a1,a2,a3,a4⟩:=wS hk;rw[uo.eq_1,if_pos (by simpa using a1),ll o? a1];refine .go a2 ?_;exact tW
 unfold yN;exact tW
abbrev Pt:=qc
inductive tE:Int->Nat->List Pt->Prop
 |nil (up:Int) (b:Nat):tE up b []
 |cons (up:Int) (b:Nat) (x:Pt) (qz rest:List Pt) (hu:x.up=up) (he:x.end_=((b+1+qz.length:Nat):Int)) (hd:x.xZ=false->qz=[]) (ho:x.opts.l≠[]->qz=[])
   (hk:tE b (b+1) qz) (hr:tE up (b+1+qz.length) rest):tE up b (x::(qz++rest))
theorem tE.app{up:Int}{b:Nat}{l r:List Pt}(h:tE up b l):tE up (b+l.length) r->tE up b (l++r):=by
 induction h with
 |nil up b=>intro hr;simpa using hr
 |cons up b x qz rest hu he hd ho hk _ _ ih=>
  intro hr;have:=tE.cons up b x qz (rest++r) hu he hd ho hk (ih (by
   have:b+(x::(qz++rest)).length=b+1+qz.length+rest.length:=v?
   rwa[this]at hr))
  simpa using this
theorem tE.one{up:Int}{b:Nat}(x:Pt)(hu:x.up=up)(he:x.end_=((b+1:Nat):Int)):tE up b [x]:=by simpa using tE.cons up b x [] [] hu (by simpa using he) (fun _=>rfl) (fun _=>rfl) (.nil _ _) (.nil _ _)
structure Eu (k:Nat) (x:Pt):Prop where
 kind:0<=x.kind/\x.kind<=2
 other:x.kind≠1->x.n=0/\x.xZ=false/\x.opts.l=[]
 n: -(k:Int)<=x.n/\x.n<=9999
 qR:vK x.qR<=1000000000
 dt:x.xZ=true->x.qL=false
 od:x.xZ=false->x.opts.l=[]
 tt:x.qL=true->x.text.length<=1048576
 tl:x.text.length<=17592186044416
 ol:(∀ o∈x.opts.l,o.length<=17592186044416)/\QX x.opts=0/\x.opts.l.length<=8192002
theorem Eu.mono{j k:Nat}(h:j<=k){x:Pt}(p:Eu j x):Eu k x:=⟨p.kind,p.other,⟨by have:=p.n;omega,p.n.2⟩,p.qR,p.dt,p.od,p.tt,p.tl,p.ol⟩
def defs(r:List Pt):List Int:=(r.filter (·.xZ)).map (·.n)
structure sB (r:List Pt) (ds:List Int) (ns:List qa):Prop where
 ok: ∀x∈r,Eu ns.length x
 dk: ∀n∈defs r,n∈ds
 un:(defs r).Nodup
 dl:ds.length<=r.length
 nl:ns.length<=r.length
structure oZ (env:Sl qw) (lead unit:qa) (up:Int) (r:List Pt) (ns:List qa) (m:Nat) (v:Sl qw×qa×qa×List Pt×List Int×List qa):Prop where
 e1:v.1=env
 e2:v.2.1=lead
 e3:v.2.2.1=unit
 ex: ∃t,v.2.2.2.1=r++t/\tE up r.length t/\t.length<=2*m
 inv:sB v.2.2.2.1 v.2.2.2.2.1 v.2.2.2.2.2
 ns:ns.length<=v.2.2.2.2.2.length
theorem mf(p:Pt)(b:Sl qw)(b2 b3:qa)(r:List Pt)(r2:List Int)(r3:List qa)(h:r.length<=100000000):
  qJ (zZ p b b2 b3 r r2 r3) (fun v=>v=r++[{ p with end_:=((r.length+1:Nat):Int) }]):=by unfold zZ;have:= @wr;exact tW
theorem cB(a b:List Pt):defs (a++b)=defs a++defs b:=by simp[defs]
theorem cC(x:Pt):defs [x]=if x.xZ then[x.n]else[]:=by unfold defs;cases h:x.xZ<;>simp[h]
theorem sB.put{r:List Pt}{ds:List Int}{ns:List qa}(h:sB r ds ns)(x:Pt)(hx:Eu ns.length x)(hd:x.xZ=false):sB (r++[x]) ds ns where
 ok:=by intro y hy;rcases m?.1 hy with hy|hy;exact h.ok y hy;exact tW
 dk:=by rw[cB,cC,hd];simpa using h.dk
 un:=by rw[cB,cC,hd];simpa using h.un
 dl:=by have:=h.dl;simp;omega
 nl:=by have:=h.nl;simp;omega
theorem sB.define{r:List Pt}{ds:List Int}{ns:List qa}(h:sB r ds ns)(x:Pt)(hx:Eu ns.length x)(hd:x.xZ=true)(hn:x.n∉ds):sB (r++[x]) (ds++[x.n]) ns where
 ok:=by intro y hy;rcases m?.1 hy with hy|hy;exact h.ok y hy;exact tW
 dk:=by rw[cB,cC,hd];intro n hn;rcases m?.1 hn with hn|hn;exact m?.2 (.inl (h.dk n hn));exact m?.2 (.inr hn)
 un:=by rw[cB,cC,hd];refine j!.2 ⟨h.un,z?,fun a ha b hb=>?_⟩;simp only[if_true,a?]at hb;subst hb;exact fun e=>hn (e ▸ h.dk a ha)
 dl:=by have:=h.dl;simp;omega
 nl:=by have:=h.nl;simp;omega
theorem sB.putN{r:List Pt}{ds:List Int}{ns ms:List qa}(h:sB r ds ns)(hm:ns.length<=ms.length/\ms.length<=ns.length+1)(x:Pt)(hx:Eu ms.length x)(hd:x.xZ=false):sB (r++[x]) ds ms where
 ok:=by intro y hy;rcases m?.1 hy with hy|hy;exact(h.ok y hy).mono hm.1;exact tW
 dk:=by rw[cB,cC,hd];simpa using h.dk
 un:=by rw[cB,cC,hd];simpa using h.un
 dl:=by have:=h.dl;simp;omega
 nl:=by have:=h.nl;simp;omega
theorem sB.defineN{r:List Pt}{ds:List Int}{ns ms:List qa}(h:sB r ds ns)(hm:ns.length<=ms.length/\ms.length<=ns.length+1)(x:Pt)(hx:Eu ms.length x)(hd:x.xZ=true)(hn:x.n∉ds):sB (r++[x]) (ds++[x.n]) ms where
 ok:=by intro y hy;rcases m?.1 hy with hy|hy;exact(h.ok y hy).mono hm.1;exact tW
 dk:=by rw[cB,cC,hd];intro n hn;rcases m?.1 hn with hn|hn;exact m?.2 (.inl (h.dk n hn));exact m?.2 (.inr hn)
 un:=by rw[cB,cC,hd];refine j!.2 ⟨h.un,z?,fun a ha b hb=>?_⟩;simp only[if_true,a?]at hb;subst hb;exact fun e=>hn (e ▸ h.dk a ha)
 dl:=by have:=h.dl;simp;omega
 nl:=by have:=h.nl;simp;omega
theorem sB.names{r:List Pt}{ds:List Int}{ns:List qa}(h:sB r ds ns){ms:List qa}(h1:ns.length<=ms.length)(h2:ms.length<=r.length):sB r ds ms:=
 ⟨fun x hx=>(h.ok x hx).mono h1,h.dk,h.un,h.dl,h2⟩
theorem sB.Jj{r t:List Pt}{p q:Pt}{ds:List Int}{ns:List qa}(h:sB (r++p::t) ds ns)(e:Int)(hq:q={ p with end_:=e }):sB (r++q::t) ds ns where
 ok:=by subst hq;intro y hy;rcases m?.1 hy with hy|hy;exact h.ok y (by simp[hy]);rcases U?.1 hy with rfl|hy;have:=h.ok p z?;exact⟨this.kind,this.other,this.n,this.qR,this.dt,this.od,this.tt,this.tl,this.ol⟩;exact h.ok y (by simp[hy])
 dk:=by (have e1:defs (r++q::t)=defs (r++p::t):=by subst hq;simp only[defs,q14,T!];cases p.xZ<;>simp);rw[e1];exact h.dk
 un:=by (have e1:defs (r++q::t)=defs (r++p::t):=by subst hq;simp only[defs,q14,T!];cases p.xZ<;>simp);rw[e1];exact h.un
 dl:=by have:=h.dl;simpa using this
 nl:=by have:=h.nl;simpa using this
theorem Hf:vK dg=1:=by simp[dg,Qc,vK,yo,dJ,Zt,qO]
structure B7 (env:Sl qw) (lead unit:qa):Prop where
 len:env.l.length<=1099511627776
 val: ∀p∈env.l,p.value.length<=1048576
 lead:lead.length<=1048576
 unit:unit.length<=1048576
section
variable {env:Sl qw} {lead unit:qa}
theorem Jz(name:qa)(r:List Pt)(r2:List Int)(ns:List qa)(hn:ns.length<=100000000):
  qJ (yU name env lead unit r r2 ns) (fun v=>ns.length<=v.2.length/\v.2.length<=ns.length+1/\ -(v.2.length:Int)<=v.1/\v.1<0):=by
 have key: ∀(q:List qa)(k:Nat),ns.drop k=q->qJ (k8 (name,(k:Int),env,lead,unit,r,r2,ns)) (fun v=>match v with| .inl y=> -(ns.length:Int)<=y/\y<0| .inr _=>True):=by intro q;induction q with|nil=>intro k hk;rw[k8.eq_1,if_neg (by simpa using yu hk)];exact .ret trivial|cons c q ih=>intro k hk;obtain⟨a1,a2,a3,a4⟩:=wS hk;rw[k8.eq_1,if_pos (by simpa using a1),ll o? a1];have:= @wr;exact tW
 unfold yU;refine .bind (key ns 0 rfl) fun v hv=>?_;rcases v with v|v;exact tW;have:= @wr;exact tW
theorem WL(plain:Bool)(a:Int)(r:List Pt)(r2:List Int)(r3:List qa)(x:qD)(hx:pU x<=8192002)(hE:B7 env lead unit)(p1:Int)(p2:qa)(p3:Int)(d:Bool)(p5 p6:Bool)(p7:Int)(p8:qa)(p9:Bool)(p10:Sl qV)(p11 p12:Int)(p13:Bool)(p14:Sl qG)(p15:Sl zt)(p16 p17:Bool)(p18 p19:Int):
  qJ (xk (plain,a,(0:Int),env,lead,unit,r,r2,r3,x,p1,p2,p3,d,p5,p6,p7,p8,p9,p10,p11,p12,p13,p14,p15,p16,p17,p18,p19,([]:List qa)))
   (fun o=>(d=false->o=[])/\(x.opts.l=[]->o=[])/\(∀ y∈o,y.length<=17592186044416)/\o.length<=8192002):=by
 have hw:=nJ x;have Ho:=xc HG x.opts.l;cases d with
 |false=>
  rw[xk.eq_1,if_neg z?];exact .ret ⟨fun _=>rfl,fun _=>rfl,z?,z?⟩
 |true=>
  have key: ∀(q:List qa)(k:Nat)(o:List qa),x.opts.l.drop k=q->o.length=k->k<=x.opts.l.length->(∀ y∈o,y.length<=17592186044416)->
    qJ (xk (plain,a,(k:Int),env,lead,unit,r,r2,r3,x,p1,p2,p3,true,p5,p6,p7,p8,p9,p10,p11,p12,p13,p14,p15,p16,p17,p18,p19,o)) (fun o=>o.length=x.opts.l.length/\ ∀y∈o,y.length<=17592186044416):=by
   intro q;induction q with
   |nil=>
    intro k o hk ho pf hy;rw[xk.eq_1,if_neg (by simpa using yu hk)];have:=vI hk;exact .ret ⟨o?,hy⟩
   |cons c q ih=>
    intro k o hk ho pf hy;obtain⟨a1,a2,a3,a4⟩:=wS hk;have hc:ES c<=qO (x.opts.l.map ES):=xP a4;have hcw:ES c=1+c.length:=rfl;rw[xk.eq_1,if_pos (by simpa using a1),ll o? a1];refine .go a2 ?_;refine .bind (XG c lead unit o? hE.lead hE.unit) fun v hv=>?_;refine .zx (by simp only[qg,zO,decide_eq_true_eq];omega) ?_;refine ih (k+1) _ a3 v? o? ?_;intro y XT;rcases m?.1 XT with XT|XT
    ·exact hy y XT
    simp only[a?]at XT;subst XT;exact hv
  refine(key x.opts.l 0 [] rfl rfl o? z?).mono fun o ho=>⟨z?,fun h=>?_,ho.2,by have:=ho.1;omega⟩;have:=ho.1;rw[h]at this;simpa using this
theorem Kr{α:Type}(r t:List α)(p q:α):(r++p::t).set r.length q=r++q::t:=by rw[List.set_append_right _ _ (jx _)];simp
theorem ZX{α:Type}(r t:List α)(p:α):qh (r++p::t) (r.length:Int)=some p:=by rw[xd z?];simp
theorem Vb(x:qD)(hx:pU x<=8192002)(hS:WS x)(hk:x.kind=1\/x.kind=2)(up:Int)(hE:B7 env lead unit)(r:List Pt)(ds:List Int)(ns:List qa)(hr:r.length+2*pU x<=40000000)(hI:sB r ds ns)
  (ih: ∀(up:Int)(r:List Pt)(ds:List Int)(ns:List qa),r.length+2*qO (x.qz.l.map pU)<=40000000->sB r ds ns->qJ (zT (x.qz,up,env,lead,unit,r,ds,ns)) (oZ env lead unit up r ns (qO (x.qz.l.map pU)))):
  qJ (w8 (x,up,false,env,lead,unit,r,ds,ns)) (oZ env lead unit up r ns (pU x)):=by
 have hw:=nJ x;have SR:=hI.dl;obtain⟨s2,s1,sn⟩:(x.kind=2->x.has=false/\x.qL=false/\x.qz.l=[]/\0<x.opts.l.length)/\(x.kind=1\/x.kind=3->x.opts.l=[]/\(x.has=true->x.qL=false)/\(x.has=false->x.qz.l=[]))/\(x.kind=1\/x.kind=2->0<=x.n/\x.n<=9999):=by cases hS with|mk _ _ _ a b _ c=>exact⟨a,b,c⟩
 have hn:=sn hk;rw[w8.eq_1];refine .tI ?_ ?_<;>intro hT
 ·have hd:=hT;have htu:x.qL=false:=by rcases hk with h|h;rcases hd with hd|hd;exact(s1 (.inl h)).2.1 hd;omega;exact(s2 h).2.1
  refine .bind (tY x.n ds o?) fun v hv=>?_;refine .bind (WL _ _ _ _ _ x hx hE _ _ _ (!v) _ _ _ _ _ _ _ _ _ _ _ _ _ _ _) fun o ho=>?_;have hp: ∀e,Eu ns.length (qc.mk (1:Int) ([]:qa) x.n (!v) false x.qL x.qR (⟨o.isEmpty,o⟩:(Sl qa)) up e):=fun e=>
   ⟨u?,z?,⟨u?,hn.2⟩,u?,fun _=>htu,fun h=>ho.1 h,z?,z?,ho.2.2.1,K7 _,ho.2.2.2⟩
  refine .bind (mf _ env lead unit r ds ns o?) fun y hy=>?_;subst hy;refine .tI ?_ ?_<;>intro hT;have Zf:=hT;refine .ret ⟨rfl,rfl,rfl,⟨_,rfl,tE.one _ rfl rfl,v?⟩,hI.put _ (hp _) (by simp[Zf]),jx _⟩;have Zf:=hT;refine .zx (by simp only[qg,zO,decide_eq_true_eq];omega) ?_;rw[if_neg z?];have hI2:=hI.define _ (hp ((r.length+1:Nat):Int)) (by simp[Zf]) (fun h=>by have:=hv.2 h;simp_all);refine .bind (ih (r.length:Int) _ _ _ v? hI2) fun w P9=>?_;obtain⟨g1,g2,g3,⟨t,g4,g5,g6⟩,g7,g8⟩:=P9;rw[g4,List.append_assoc]at g7 |-;simp only[List.cons_append,List.nil_append]at g7 |-;refine .go (ZX _ _ _) ?_;rw[Int.toNat_natCast,Kr];have hlen:(r++qc.mk (1:Int) ([]:qa) x.n (!v) false x.qL x.qR (⟨o.isEmpty,o⟩:(Sl qa)) up ((r.length+1:Nat):Int)::t).length=r.length+1+t.length:=v?;refine .ret ⟨g1,g2,g3,⟨_,rfl, ?_,v?⟩, ?_,g8⟩;(have hkid:(⟨o.isEmpty,o⟩:Sl qa).l≠[]->t=[]:=by (intro h;have hko:x.qz.l=[]:=by rcases hk with h1|h1;exact absurd (ho.2.1 (s1 (.inl h1)).1) h;exact(s2 h1).2.2.1);(have:t.length<=0:=by rw[hko]at g6;simpa[qO]using g6);simpa using this);have:=tE.cons up r.length (qc.mk (1:Int) ([]:qa) x.n (!v) false x.qL x.qR (⟨o.isEmpty,o⟩:(Sl qa)) up (((r++qc.mk (1:Int) ([]:qa) x.n (!v) false x.qL x.qR (⟨o.isEmpty,o⟩:(Sl qa)) up ((r.length+1:Nat):Int)::t).length:Nat):Int)) t [] rfl (by simp only[hlen]) (fun h=>by simp[Zf]at h) hkid (by simpa using g5) (.nil _ _);simpa using this;exact g7.Jj _ rfl
 have hd:=hT;refine .bind (WL _ _ _ _ _ x hx hE _ _ _ false _ _ _ _ _ _ _ _ _ _ _ _ _ _ _) fun o ho=>?_;refine .bind (mf _ env lead unit r ds ns o?) fun y hy=>?_;subst hy;refine .ret ⟨rfl,rfl,rfl,⟨_,rfl,tE.one _ rfl rfl,v?⟩,hI.put _ ?_ rfl,jx _⟩;exact⟨u?,z?,⟨u?,hn.2⟩,u?,z?,fun _=>ho.1 rfl,z?,z?,ho.2.2.1,K7 _,ho.2.2.2⟩
end
end Go.Proofs.YtnojdepmnnebnaaGreat
