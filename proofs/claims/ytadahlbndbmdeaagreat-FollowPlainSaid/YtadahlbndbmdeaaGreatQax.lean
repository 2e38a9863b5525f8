/-
  The document's lines: where they begin and end; bytes counted.
-/
import Derived.Test.YtadahlbndbmdeaaGreatQaw
import Derived.Test.YtadahlbndbmdeaaGreatQat
import Derived.Test.YtadahlbndbmdeaaGreatQae
open Go.Gm renaming qM->J,Sl->I,zl->D
open Go.Proofs.YtadahlbndbmdeaaGreat renaming qr->C,qu->o,qb->g
open Go.Proofs.YtadahlbndbmdeaaGreat.Xr renaming many->B,gi->A
open Option renaming some->X
open _root_ renaming if_pos->Z,Int->Y,if_neg->W,Nat->T,List->R,decide_eq_true_eq->N,Bool->M,absurd->K
open Bool renaming or_eq_true->w!,true_and->Y_,not_true->q1p,false->V,true->U
open Go.IntKind renaming i64->q?
open Go.Proofs.YtadahlbndbmdeaaGreat.qL renaming ite->x_
open Int renaming toNat_natCast->X?,natCast_zero->R_
open List renaming length_cons->b?,length_append->p?,length_nil->r?,replicate->f?,map_cons->e?,getElem?_cons_zero->i?,mem_cons->K?,getElem?_map->Y?,mem_of_mem_take->U?,getElem?_take_of_lt->G?,mem_map->B?,nil_append->M?,pairwise_cons->C?,sum_cons->g!,pairwise_iff_getElem->t!,drop_eq_getElem_cons->X!,countP_cons->S!,mem_or_eq_of_mem_set->C!,filter_cons->D!,isEmpty_iff->f_,drop_of_length_le->l_,drop_zero->O_,mem_filter->L_,reverse_append->L',reverse_cons->q15
open Nat renaming strongRecOn->s?,zero_add->x!,add_sub_cancel->E!,mul_le_mul->w_
set_option linter.unusedSimpArgs false
set_option linter.unusedVariables false
set_option maxHeartbeats 1000000
namespace Go.Proofs.YtadahlbndbmdeaaGreat
open Go Go.Gm
namespace Xr
theorem lies_eq(s:qg)(l:I qg)(a:l.l.length<2^60):mg s l=X (l.l.any λp=>decide (xK s p)):=by unfold mg;rw[show (0:Y)=((0:T):Y)from rfl,E1 s l a l.l 0 rfl];exact tW
theorem KU{s:g}(hs:jY s)(n:Y):(yY n s.insts.l).length<=2^24:=by
 have h1:=XT hs.2;have h2:s.insts.l.length*2^12<=2^12*2^12:=w_ hs.1 (ke _);have a: ∀is:R C,(yY n is).length<=B is:=by intro is;induction is with|nil=>simp[yY,B]|cons i is ih=>have:=WM n i.stops.l;simp only[yY,B,R.flatMap_cons,p?,e?,g!]at*;omega
 have:=a s.insts.l;omega
structure SS (n:Y) (ss:R g):Prop where
 dJ:ss.length<=16
 small: ∀s∈ss,jY s
 may: ∀s∈ss,eE s.insts.l n
 stop: ∀s∈ss,∀ i∈s.insts.l,∀ x∈i.stops.l,rA x
theorem eE.filter{is:R C}{n:Y}(h:eE is n)(p:C->M):eE (is.filter p) n:=by
 have f:is.Pairwise λi j=>i.span.to<=j.span.qG:=by rw[t!];intro a b d c e;exact h.Fq a b _ _ e (yc d) (yc c)
 have m:=f.sublist (R.filter_sublist (l:=is) (p:=p));constructor;intro a i hi;obtain⟨b,c⟩:=kS (L_.1 (zj hi)).1;exact h.may b i c;intro a b i j e hi k;have d:=(qK hi).1;have c:=(qK k).1;have:=t!.1 m a b d c e;exact tW
def H4(a:R g)(i:T)(x:C):M:=if i=0 then U else match a[i-1]? with
 |some p=>(yY p.cur p.insts.l).any λq=>decide (xK x.span q)
 |none=>V
theorem close_L2(w:qa)(w2:I qm)(b:R g)(fl:I (I (I Y)))(hs: ∀s∈b,jY s)(Ay:b.length<=16)(i:T)(hi:i<b.length)(s:g)(t:jY s): ∀(r:R C)(a:T)(is:R C),s.insts.l.drop a=r->is.length<=a->
  js ((i:Y),(a:Y),w,w2,b,fl,s,is)=X (is++r.filter (H4 b i)):=by intro r;have tv:=t.1;induction r with|nil=>intro a is h _;have:=zd h;rw[js.eq_1,W v?];simp|cons x r f=>intro a is h ho;obtain⟨m,j,h3⟩:=zx h;rw[js.eq_1,Z v?,ws (k:=a) o?];have e1:=f (a+1) (is++[x]) j v?;have e2:=f (a+1) is j o?;by_cases c:i=0;subst c;rw[Z z?,A m];simp only[D,J];rw[Z qC,e1];simp[D!,H4];(obtain⟨p,d⟩:=gl (l:=b) (k:=i-1) o?;have e:=hs p (zj d);rw[W v?,A m];simp only[D,J];rw[show q?.wrap ((i:Y)-1)=((i-1:T):Y)from by rw[qy o? o?];omega,A d];simp only[J];rw[KV p.cur p.insts e.2 e.1];simp only[J];have hsl:=KU e p.cur;rw[lies_eq _ _ u?];simp only[J];have n:H4 b i x=(yY p.cur p.insts.l).any λq=>decide (xK x.span q):=by unfold H4;rw[W c,d]);rw[D!,n];cases(yY p.cur p.insts.l).any λq=>decide (xK x.span q)with|true=>rw[Z rfl,Z qC,e1];simp|false=>rw[W z?,e2];simp
def Pz(k:T)(a:R g):Prop:= ∀(j:T) s,j<k->a[j]? =X s->s.insts.l≠[]/\yY s.cur s.insts.l≠[]/\(0<j-> ∀p,a[j-1]? =X p-> ∀x∈s.insts.l,lI x.span (yY p.cur p.insts.l))
def Curs(c a:R g):Prop:=a.length<=c.length/\ ∀(j:T) b,a[j]? =X b -> ∃s,c[j]? =X s/\b.cur=s.cur
structure Fin (n:Y) (oL ss:R g):Prop where
 ok:SS n ss
 closed:Pz ss.length ss
 YQ:Curs oL ss
theorem close_L0(n:Y)(w:qa)(w2:I qm)(fl:I (I (I Y)))(Q:R g): ∀(d i:T)(b:R g),i+d=b.length->SS n b->Pz i b->Curs Q b->
  qL (kF ((i:Y),w,w2,b,fl)) (λv=>match v with| .inl y=>Fin n Q y.2| .inr y=>Fin n Q y):=by
 intro d;induction d with
  |zero=>intro i b h H t r;rw[kF.eq_1,W v?];obtain rfl:i=b.length:=o?;exact .ret ⟨H,t,r⟩
  |succ d ih=>
   (intro i b h H t r;have Ay:=H.dJ;obtain⟨s,hs⟩:=gl (l:=b) (k:=i) o?;have fq:=zj hs;have JI:=H.small s fq;rw[kF.eq_1,Z v?,ws (k:=i) o?];refine .go (A hs) ?_;have e2:=close_L2 w w2 b fl H.small Ay i o? s JI s.insts.l 0 [] rfl z?;rw[M?,show((0:T):Y)=0 from rfl]at e2;refine .go e2 ?_;generalize hF:s.insts.l.filter (H4 b i)=F;have q: ∀x∈F,x∈s.insts.l/\H4 b i x=U:=λx a=>by rw[<- hF]at a;exact L_.1 a);(have hFl:F.length<=s.insts.l.length:=by rw[<- hF];exact R.length_filter_le _ _);have e:jY ⟨s.cur,⟨F.isEmpty,F⟩⟩:=⟨by have:=JI.1;simp only;omega,λx a=>JI.2 x (q x a).1⟩;refine .go (KV s.cur ⟨F.isEmpty,F⟩ e.2 e.1) ?_;by_cases u:yY s.cur F=[];(rw[Z (by simp[u])];refine .go (VC _ _ o?) ?_;have z: ∀(j:T) x,(b.take i)[j]? =X x->j<i/\b[j]? =X x:=λj x a=>by have:=(qK a).1;simp at this;rw[G? o?]at a;exact⟨o?,a⟩);refine .ret ⟨⟨v?,λs hs=>H.small s (U? hs),λs hs=>H.may s (U? hs),λs hs=>H.stop s (U? hs)⟩, ?_,⟨by have:=r.1;simp;omega,λj x a=>r.2 j x (z j x a).2⟩⟩;intro j x hj a;obtain⟨k1,k2⟩:=z j x a;obtain⟨P,L,E⟩:=t j x k1 k2;exact⟨P,L,λf p m=>E f p (z (j-1) p m).2⟩;(rw[W (by simpa using u),X?];have kN:F≠[]:=λc=>u (by rw[c];rfl);have qp: ∀(j:T) x,(b.set i ⟨s.cur,⟨F.isEmpty,F⟩⟩)[j]? =X x->(j=i/\x=⟨s.cur,⟨F.isEmpty,F⟩⟩)\/(j≠i/\b[j]? =X x):=λj x a=>by rw[jo]at a;split at a;rename_i c;cases a;exact .inl ⟨c.1.symm,rfl⟩;rename_i c;refine .inr ⟨λc2=>c ⟨c2.symm,o?⟩,a⟩);refine ih (i+1) _ v? ⟨v?, ?_, ?_, ?_⟩ ?_ ⟨by have:=r.1;simp;omega, ?_⟩;intro x a;rcases C! a with a|rfl;exact H.small x a;exact e;intro x a;rcases C! a with a|rfl;exact H.may x a;show eE F n;rw[<- hF];exact(H.may s fq).filter _;intro x a;rcases C! a with a|rfl;exact H.stop x a;exact λy hy=>H.stop s fq y (q y hy).1;intro j x hj a;rcases qp j x a with ⟨rfl,rfl⟩|⟨hji,a⟩;refine⟨kN,u,λf p m y hy=>?_⟩;rw[jo,W o?]at m;have:=(q y hy).2;unfold H4 at this;rw[W o?,m]at this;simpa[lI]using this;obtain⟨P,L,E⟩:=t j x o? a;refine⟨P,L,λf p m=>E f p ?_⟩;rw[jo,W o?]at m;exact m;intro j x a;rcases qp j x a with ⟨rfl,rfl⟩|⟨_,a⟩
   ·exact(by
     obtain⟨s0,k1,k2⟩:=r.2 j s hs
     exact⟨s0,k1,k2⟩)
   exact r.2 j x a
theorem Gu(w:World)(a:WO w):qL (uq w.1 w.2.1 w.2.2.1 w.2.2.2) (λv=>match v with| .inl y=>Fin w.1.length w.2.2.1 y| .inr y=>Fin w.1.length w.2.2.1 y):=by unfold uq;refine .bind (close_L0 w.1.length w.1 w.2.1 w.2.2.2 w.2.2.1 w.2.2.1.length 0 w.2.2.1 o? ⟨a.dJ,a.small,a.may,a.stop⟩ (λj s hj=>o?) ⟨ke _,λj s hs=>⟨s,hs,rfl⟩⟩) λv b=>?_;rcases v with v|v<;>exact .ret b
end Xr
namespace Xr
def Ab(l:R o)(k:T):Prop:= ∀(r:T) x,r<k->l[r]? =X x-> -1<=x.up/\x.up<r/\ ∀(q:T) y,q<r->x.up<q->l[q]? =X y->x.up<=y.up
theorem in_L0(l:I o)(b:T): ∀a:T,a<l.l.length->Ab l.l (a+1)-> ∃t:M,wZ (l,(a:Y),(b:Y))=X (if t=U then .inl U else .inr ())/\(t=U↔b<a/\ ∀(q:T) y,b<q->q<=a->l.l[q]? =X y->(b:Y)<=y.up):=by intro a;induction a using s? with|_ a s=>intro w j;obtain⟨x,e⟩:=gl w;obtain⟨p1,p,i⟩:=j a x o? e;rw[wZ.eq_1,Z v?,A e];simp only[D,J];by_cases n:0<=x.up;obtain⟨u,hu⟩: ∃u:T,x.up=u:=⟨x.up.toNat,o?⟩;rw[Z (by simpa using n),Z (by simpa using p)];by_cases m:x.up=b;rw[Z (by simpa using m)];refine⟨U,rfl,λ_=>⟨o?,λq y f k d=>?_⟩,λ_=>rfl⟩;by_cases c:q=a;subst c;rw[e]at d;cases d;omega;have:=i q y o? o? d;omega;rw[W (by simpa using m),hu];obtain⟨t,g1,g2⟩:=s u o? o? (λr z hr v=>j r z o? v);refine⟨t,g1,g2.trans ⟨λh=>⟨o?,λq y f k d=>?_⟩,λh=>?_⟩⟩;by_cases c:q=a;subst c;rw[e]at d;cases d;omega;by_cases E:q<=u;exact h.2 q y f E d;have:=i q y o? o? d;omega;have:=h.2 a x h.1 (ke _) e;exact⟨o?,λq y f k d=>h.2 q y f o? d⟩;rw[W (by simpa using n)];refine⟨V,rfl,λh=>(by cases h),λh=>?_⟩;have:=h.2 a x h.1 (ke _) e;omega
theorem in_ok(l:I o)(a b:T)(d:a<l.l.length)(c:Ab l.l (a+1)): ∃t:M,sZ l (a:Y) (b:Y)=X t/\(t=U↔b<a/\ ∀(q:T) y,b<q->q<=a->l.l[q]? =X y->(b:Y)<=y.up):=by obtain⟨t,f,e⟩:=in_L0 l b a d c;refine⟨t, ?_,e⟩;unfold sZ;rw[f];cases t<;>rfl
def Sibs(l:R o)(x:o)(j k:T):Prop:= ∀(q:T) y,j<=q->q<k->l[q]? =X y->y.up=x.up->y.span.to<=x.span.qG
theorem may26_L2(i:C)(x:o)(b:qg)(k:T)(hk:k<=i.stops.l.length)(hl:i.stops.l.length<2^60): ∀(d j:T),j+d=k-> ∃t:M,jr ((k:Y),(j:Y),i,x,b)=X (if t=U then .inr ()else .inl V)/\(t=U↔Sibs i.stops.l x j k):=by intro d;induction d with|zero=>intro j h;rw[jr.eq_1,W v?];exact⟨U,rfl,λ_ q y n e=>o?,λ_=>rfl⟩|succ d r=>intro j h;obtain⟨y,m⟩:=gl (l:=i.stops.l) (k:=j) o?;obtain⟨t,g1,g2⟩:=r (j+1) o?;rw[jr.eq_1,Z v?,A m,ws (k:=j) o?];simp only[D,J,g1];by_cases f:y.up=x.up;by_cases p:x.span.qG<y.span.to;rw[Z (by simpa using f),Z (by simpa using p)];refine⟨V,rfl,λh=>(by cases h),λh=>?_⟩;have:=h j y (ke _) o? m f;omega;rw[Z (by simpa using f),W (by simpa using p)];refine⟨t,rfl,g2.trans ⟨λh q z n e a hu=>?_,λh q z n e a hu=>h q z o? e a hu⟩⟩;by_cases c:q=j;subst c;rw[m]at a;cases a;omega;exact h q z o? e a hu;rw[W (by simpa using f)];refine⟨t,rfl,g2.trans ⟨λh q z n e a hu=>?_,λh q z n e a hu=>h q z o? e a hu⟩⟩;by_cases c:q=j;subst c;rw[m]at a;cases a;exact K hu f;exact h q z o? e a hu
structure Good (i:C) (k:T) (x:o):Prop where
 up: -1<=x.up/\x.up<k
 pre: ∀(q:T) y,q<k->x.up<q->i.stops.l[q]? =X y->x.up<=y.up
 le:x.span.qG<=x.span.to
 top:x.up= -1->xK x.span i.span
 nest: ∀(p:T) y,x.up=p->i.stops.l[p]? =X y->xK x.span y.span
 C3:Sibs i.stops.l x 0 k
theorem Rg(i:C)(k:T)(x:o)(m:i.stops.l[k]? =X x)(hl:i.stops.l.length<2^60)(s:Ab i.stops.l k): ∃t:M,xe ((k:Y),i)=(if t=U then xe (((k+1:T):Y),i)else X (.inl V))/\(t=U↔Good i k x):=by
 have hk:=(qK m).1;have tail: ∀(b:qg),∃ t:M,(if decide (x.span.qG>x.span.to)=U then X (.inl V)else ja x.span b>>=λv=>if(!v)=U then X (.inl V)else
   jr ((k:Y),(0:Y),i,x,b)>>=λv=>match v with
    | .inl y=>X (.inl y)
    | .inr _=>xe (((k+1:T):Y),i))=(if t=U then xe (((k+1:T):Y),i)else X (.inl V))/\(t=U↔x.span.qG<=x.span.to/\xK x.span b/\Sibs i.stops.l x 0 k):=by
  intro b;by_cases w:x.span.qG>x.span.to
  ·rw[Z (by simpa using w)];exact⟨V,rfl,λh=>(by cases h),λh=>o?⟩
  rw[W (by simpa using w),i7];simp only[D,J];by_cases f:xK x.span b
  ·rw[W (by simpa using f)];obtain⟨t,g1,g2⟩:=may26_L2 i x b k o? hl k 0 o?;rw[show ((0:T):Y)=0 from rfl]at g1;rw[g1];refine⟨t, ?_,g2.trans ⟨λh=>⟨o?,f,h⟩,λh=>h.2.2⟩⟩;cases t<;>rfl
  rw[Z (by simpa using f)];exact⟨V,rfl,λh=>(by cases h),λh=>K h.2.1 f⟩
 rw[xe.eq_1,Z v?,A m,ws (k:=k) o?,qy (n:=(k:Y)-1) o? o?];simp only[D,J]at tail |-;by_cases hu:x.up= -1;rw[W (by simp[hu]),W (by simp[hu])];obtain⟨t,g1,g2⟩:=tail i.span;refine⟨t,g1,g2.trans ⟨λh=>⟨o?,λq y _ _ d=>?_,h.1,λ_=>h.2.1,λp y hpp=>o?,h.2.2⟩,λh=>⟨h.le,h.top hu,h.C3⟩⟩⟩;have:=(s q y o? d).1;omega;rw[Z (by simpa using hu)];by_cases hr:0<=x.up/\x.up<k;{(obtain⟨p,a⟩: ∃p:T,x.up=p:=⟨x.up.toNat,o?⟩;obtain⟨y,d⟩:=gl (l:=i.stops.l) (k:=p) o?;have e:qk i.stops.l x.up=X y:=by rw[a];exact A d);(rw[W v?];obtain⟨t,g1,g2⟩:=tail y.span;have conv:(x.span.qG<=x.span.to/\xK x.span y.span/\Sibs i.stops.l x 0 k)/\(∀(q:T) y,q<k->x.up<q->i.stops.l[q]? =X y->x.up<=y.up)↔Good i k x:=by constructor;rintro⟨⟨Q,a2,a3⟩,a4⟩;refine⟨o?,a4,Q,λh=>K h hu,λp' y' hp' E=>?_,a3⟩;obtain rfl:p=p' :=o?;rw[d]at E;cases E;exact a2;intro h;exact⟨⟨h.le,h.nest p y a d,h.C3⟩,h.pre⟩);by_cases u:x.up=(k:Y)-1;rw[W (by simp[u]),Z v?,e];simp only[J];exact⟨t,g1,g2.trans ⟨λh=>conv.1 ⟨h,λq y _ _=>o?⟩,λh=>(conv.2 h).1⟩⟩;rw[Z (by simpa using u)];obtain⟨t2,H,j⟩:=in_ok i.stops (k-1) p o? (λr z SJ c=>s r z o? c);rw[show (k:Y)-1=((k-1:T):Y) by omega,a,H];simp only[J];cases t2 with|false=>rw[Z z?];refine⟨V,rfl,λh=>(by cases h),λh=>?_⟩;have:=j.2 ⟨o?,λq z P L c=>by have:=h.pre q z o? o? c;omega⟩;cases this|true=>have F:=j.1 rfl;rw[W z?,Z z?,<- a,e];simp only[J];exact⟨t,g1,g2.trans ⟨λh=>conv.1 ⟨h,λq z P L c=>by have:=F.2 q z o? o? c;omega⟩,λh=>(conv.2 h).1⟩⟩};rw[Z (by simp only[w!,N];omega)];exact⟨V,rfl,λh=>(by cases h),λh=>by have:=h.up;omega⟩
theorem may26_L0(i:C)(hl:i.stops.l.length<2^60): ∀(d k:T),k+d=i.stops.l.length->Ab i.stops.l k-> ∃t:M,xe ((k:Y),i)=X (if t=U then .inr ()else .inl V)/\(t=U↔ ∀(r:T) x,k<=r->i.stops.l[r]? =X x->Good i r x):=by
 intro d;induction d with
 |zero=>
  intro k h _;rw[xe.eq_1,W v?];exact⟨U,rfl,λ_ r x f b=>by have:=(qK b).1;omega,λ_=>rfl⟩
 |succ d p=>
  intro k h j;obtain⟨x,b⟩:=gl (l:=i.stops.l) (k:=k) o?;obtain⟨t,g1,g2⟩:=Rg i k x b hl j;rw[g1];cases t with
  |false=>
   rw[W z?];refine⟨V,rfl,λh=>(by cases h),λh=>?_⟩;have:=g2.2 (h k x (ke _) b);cases this
  |true=>
   rw[Z z?];have e:=g2.1 rfl;obtain⟨t2,n,m⟩:=p (k+1) o? (λr z f a=>by
    by_cases c:r=k
    ·subst c
     rw[b]at a
     cases a
     exact⟨e.up.1,e.up.2,e.pre⟩
    exact j r z o? a)
   refine⟨t2,n,m.trans ⟨λh r z f a=>?_,λh r z f a=>h r z o? a⟩⟩;by_cases c:r=k
   ·subst c;rw[b]at a;cases a;exact e
   exact h r z o? a
theorem Rf(i:C)(n:Y)(hl:i.stops.l.length<2^60): ∃t:M,fM i n=X t/\(t=U↔Ht i n):=by
 obtain⟨b,g1,g2⟩:=E5 i.span n;obtain⟨t,m,s⟩:=may26_L0 i hl i.stops.l.length 0 o? (λr x hr=>o?);rw[show ((0:T):Y)=0 from rfl]at m;unfold fM;rw[g1];simp only[D,J];cases b with
 |false=>
  refine⟨V,rfl,λh=>(by cases h),λh=>?_⟩;have:=g2.2 h.W2;cases this
 |true=>
  rw[W z?,m];refine⟨t,by cases t<;>rfl,s.trans ⟨λh=>?_,λh r x _ a=>?_⟩⟩
  ·exact⟨g2.1 rfl,λk x a=>(h k x o? a).up,λk x a=>(h k x o? a).le,λk x a hu=>by have:=(h k x o? a).top hu;unfold xK at this;exact this,λk x a p y e c=>by have:=(h k x o? a).nest p y e c;unfold xK at this;exact this,
    λk x a j y f c hu=>(h k x o? a).C3 j y o? f c hu,λk x a q y d hu c=>(h k x o? a).pre q y d hu c⟩
  exact⟨h.up r x a,λq y d hu c=>h.pre r x a q y d hu c,h.le r x a,λhu=>h.top r x a hu,λp y e c=>h.nest r x a p y e c,λj y _ f c hu=>h.C3 r x a j y f c hu⟩
end Xr
namespace Xr
def Aa(a:R g):Prop:= ∀(j:T) s,a[j]? =X s->s.insts.l≠[]/\(0<j-> ∀p,a[j-1]? =X p-> ∀x∈s.insts.l,lI x.span (yY p.cur p.insts.l))
structure MayP (st:qv):Prop where
 text:st.text.length<=65536
 dJ:st.qi.l.length<=8
 ne:st.zP.l≠[]
 Kb:st.zP.l.length<=64
 Zj:Jb st.text.length st.zP.l
 Gr:Hs st.zP.l
 may: ∀s∈st.qi.l,eE s.insts.l st.text.length
 lies:Aa st.qi.l
theorem may27_L0(l:I qm)(st:qv)(hl:l.l.length=st.zP.l.length)(h60:l.l.length<2^60): ∀(d i:T),i+d=l.l.length-> ∃t:M,pM (l,(i:Y),st)=X (if t=U then .inr ()else .inl V)/\(t=U↔l.l.drop i=st.zP.l.drop i):=by intro d;induction d with|zero=>intro i h;rw[pM.eq_1,W v?];refine⟨U,rfl,λ_=>?_,λ_=>rfl⟩;rw[l_ o?,l_ o?]|succ d p=>(intro i h;obtain⟨x,e⟩:=gl (l:=l.l) (k:=i) o?;obtain⟨y,b⟩:=gl (l:=st.zP.l) (k:=i) o?;obtain⟨t,g1,g2⟩:=p (i+1) o?;have ex:l.l.drop i=x::l.l.drop (i+1):=by have a:=(qK e).1;rw[X! a];rw[yc a]at e;cases e;rfl);(have q:st.zP.l.drop i=y::st.zP.l.drop (i+1):=by have a:=(qK b).1;rw[X! a];rw[yc a]at b;cases b;rfl);rw[pM.eq_1,Z v?,A e,ws (k:=i) o?,ex,q];simp only[D,J];rw[A b];simp only[J,g1];cases x with|mk n m=>cases y with|mk j f=>by_cases c:n=j/\m=f;obtain⟨rfl,rfl⟩:=c;rw[W z?];exact⟨t,rfl,g2.trans ⟨λh=>by rw[h],λh=>by simpa using h⟩⟩;rw[Z v?];refine⟨V,rfl,λh=>(by cases h),λh=>?_⟩;simp only[R.cons.injEq,qm.mk.injEq]at h;exact K h.1 c
def Je(st:qv)(i:T)(is:R C)(k:T)(x:C):Prop:=
 Ht x st.text.length/\(0<k-> ∀y,is[k-1]? =X y->y.span.to<=x.span.qG)/\(0<i-> ∀p,st.qi.l[i-1]? =X p->lI x.span (yY p.cur p.insts.l))
theorem may27_L4(st:qv)(Hl: ∀s∈st.qi.l,jY s)(h60:st.qi.l.length<2^60)(i:T)(hi:i<st.qi.l.length)(is:I C)(his:is.l.length<=2^12)(Ky: ∀x∈is.l,x.stops.l.length<=2^12):
  ∀(d k:T),k+d=is.l.length-> ∃t:M,wK ((i:Y),is,(k:Y),st)=X (if t=U then .inr ()else .inl V)/\(t=U↔ ∀(r:T) x,k<=r->is.l[r]? =X x->Je st i is.l r x):=by
 intro d;induction d with
  |zero=>intro k h;rw[wK.eq_1,W v?];exact⟨U,rfl,λ_ r x L e=>by have:=(qK e).1;omega,λ_=>rfl⟩
  |succ d ih=>
   intro k h;obtain⟨x,e⟩:=gl (l:=is.l) (k:=k) o?;obtain⟨t,g1,g2⟩:=ih (k+1) o?;have hxs:=Ky x (zj e);obtain⟨b,m1,F⟩:=Rf x (st.text.length:Y) o?;have split: ∀(P:Prop),(P↔Je st i is.l k x)->((P/\ ∀(r:T) z,k+1<=r->is.l[r]? =X z->Je st i is.l r z)↔ ∀(r:T) z,k<=r->is.l[r]? =X z->Je st i is.l r z):=by intro P hP;rw[hP];constructor;intro h r z L a;by_cases c:r=k;subst c;rw[e]at a;cases a;exact h.1;exact h.2 r z o? a;exact λh=>⟨h k x (ke _) e,λr z L a=>h r z o? a⟩
   have tail: ∃q:M,(if (decide ((i:Y)>(0:Y)))=U then
      qk st.qi.l (q?.wrap ((i:Y)-(1:Y)))>>=λMX=>
      vY MX.cur MX.insts>>=λyC=>
      mg x.span yC>>=λoF=>
      if(!oF)=U then X (.inl V)else wK ((i:Y),is,((k+1:T):Y),st)
     else wK ((i:Y),is,((k+1:T):Y),st))=X (if q=U then .inr ()else .inl V)/\
     (q=U↔(0<i-> ∀p,st.qi.l[i-1]? =X p->lI x.span (yY p.cur p.insts.l))/\t=U):=by
    by_cases c:0<i
    ·obtain⟨p,j⟩:=gl (l:=st.qi.l) (k:=i-1) o?;have w:=Hl p (zj j);have hsl:=KU w p.cur;obtain⟨u,l1,H⟩:=lies_ok x.span ⟨(yY p.cur p.insts.l).isEmpty,yY p.cur p.insts.l⟩ u?;rw[Z (by simpa using c),show q?.wrap ((i:Y)-1)=((i-1:T):Y)from by rw[qy o? o?];omega,A j];simp only[D,J];rw[KV p.cur p.insts w.2 w.1];simp only[J,l1];cases u with
     |false=>
      rw[Z z?];refine⟨V,rfl,λh=>(by cases h),λh=>?_⟩;have:=H.2 (h.1 c p j);cases this
     |true=>
      rw[W z?,g1];refine⟨t,rfl,λh=>⟨λ_ p' f =>?_,h⟩,λh=>h.2⟩;rw[j]at f;cases f;exact H.1 rfl
    rw[W (by simpa using c),g1];exact⟨t,rfl,λh=>⟨λv=>K v c,h⟩,λh=>h.2⟩
   obtain⟨q,m,E⟩:=tail;rw[wK.eq_1,Z v?,A e,ws (k:=k) o?];simp only[D,J,m1]at m |-;cases b with|false=>rw[Z z?];refine⟨V,rfl,λh=>(by cases h),λh=>?_⟩;have:=F.2 (h k x (ke _) e).1;cases this|true=>have Q:=F.1 rfl;rw[W z?];by_cases c:0<k;obtain⟨y,n⟩:=gl (l:=is.l) (k:=k-1) o?;rw[Z (by simpa using c),show q?.wrap ((k:Y)-1)=((k-1:T):Y)from by rw[qy o? o?];omega,A n];simp only[J];by_cases c2:x.span.qG<y.span.to;rw[Z (by simpa using c2)];refine⟨V,rfl,λh=>(by cases h),λh=>?_⟩;have:=(h k x (ke _) e).2.1 c y n;omega;rw[W (by simpa using c2),m];refine⟨q,rfl,E.trans ?_⟩;rw[g2];refine split _ ⟨λh=>⟨Q,λ_ z a=>?_,h⟩,λh=>h.2.2⟩;rw[n]at a;cases a;omega;rw[W (by simpa using c),m];refine⟨q,rfl,E.trans ?_⟩;rw[g2];exact split _ ⟨λh=>⟨Q,λv=>K v c,h⟩,λh=>h.2.2⟩
theorem I6{is:R C}{n:Y}(h: ∀(k:T) x,is[k]? =X x->Ht x n/\(0<k-> ∀y,is[k-1]? =X y->y.span.to<=x.span.qG)):eE is n:=by
 have l:=YN (is.map (·.span)) λj p f=>by rw[Y?,gD]at f;obtain⟨x,e,rfl⟩:=f;refine⟨(h j x e).1.W2.2.1,λy s d=>?_⟩;rw[Y?,gD]at d;obtain⟨z,r,rfl⟩:=d;exact(h j x e).2 s z r
 rw[R.pairwise_map]at l;refine⟨λa i hi=>(h a i hi).1,λa b i j t hi c=>?_⟩;have q:=(qK hi).1;have m:=(qK c).1;have:=t!.1 l a b q m t;rw[yc q]at hi;rw[yc m]at c;cases hi;cases c;exact this
def GoodS(st:qv)(i:T)(s:g):Prop:=s.insts.l≠[]/\ ∀(r:T) x,s.insts.l[r]? =X x->Je st i s.insts.l r x
theorem may27_L2(st:qv)(p: ∀s∈st.qi.l,jY s)(e:st.qi.l.length<2^60): ∀(d i:T),i+d=st.qi.l.length-> ∃t:M,pN ((i:Y),st)=X (if t=U then .inr ()else .inl V)/\(t=U↔ ∀(r:T) s,i<=r->st.qi.l[r]? =X s->GoodS st r s):=by intro d;induction d with|zero=>intro i h;rw[pN.eq_1,W v?];exact⟨U,rfl,λ_ r s m hs=>by have:=(qK hs).1;omega,λ_=>rfl⟩|succ d q=>intro i h;obtain⟨s,hs⟩:=gl (l:=st.qi.l) (k:=i) o?;obtain⟨t,g1,g2⟩:=q (i+1) o?;have n:=p s (zj hs);rw[pN.eq_1,Z v?,A hs,ws (k:=i) o?];simp only[D,J];by_cases c:s.insts.l=[];rw[Z (by simp[c])];refine⟨V,rfl,λh=>(by cases h),λh=>?_⟩;exact K c (h i s (ke _) hs).1;obtain⟨u,j,f⟩:=may27_L4 st p e i o? s.insts n.1 n.2 s.insts.l.length 0 o?;rw[show ((0:T):Y)=0 from rfl]at j;rw[W (by simpa using c),j];simp only[J];cases u with|false=>refine⟨V,rfl,λh=>(by cases h),λh=>?_⟩;have:=f.2 λr x _ b=>(h i s (ke _) hs).2 r x b;cases this|true=>refine⟨t,g1,g2.trans ⟨λh r z m a=>?_,λh r z m a=>h r z o? a⟩⟩;by_cases v:r=i;subst v;rw[hs]at a;cases a;exact⟨c,λr x b=>f.1 rfl r x o? b⟩;exact h r z o? a
theorem Us(st:qv)(Hl: ∀s∈st.qi.l,jY s)(L:st.zP.l.length<2^60): ∃t:M,bZ st=X t/\(t=U↔MayP st):=by unfold bZ;by_cases c:st.text.length<=65536/\st.qi.l.length<=8;rw[W v?];obtain⟨q,co,F,E⟩:=E8 (st.text.length:Y) st.zP L;rw[F];simp only[D,J];rcases E with ⟨rfl,f,e,n5,rfl⟩|⟨f,rfl,e⟩;have Q:=JM _ _ n5;by_cases w:(rf st.zP.l).length=st.zP.l.length;(rw[W v?];obtain⟨t,g1,g2⟩:=may27_L0 ⟨(rf st.zP.l).isEmpty,rf st.zP.l⟩ st w u? _ 0 (x! _);rw[show ((0:T):Y)=0 from rfl]at g1;rw[g1];cases t with|false=>refine⟨V,rfl,λh=>(by cases h),λh=>?_⟩;have:=g2.2 (by simp only[O_];exact Bc _ h.Gr);cases this|true=>have b:=g2.1 rfl;simp only[O_]at b;obtain⟨u,m,z⟩:=may27_L2 st Hl o? _ 0 (x! _);rw[show ((0:T):Y)=0 from rfl]at m;simp only[if_true,J,m];refine⟨u,by cases u<;>rfl,z.trans ⟨λh=>⟨c.1,c.2,f,e,n5,b ▸ Q.1,λs hs=>?_,λj s hs=>?_⟩,λh r s _ hs=>?_⟩⟩;obtain⟨j,v⟩:=kS hs;exact I6 λk x a=>⟨((h j s o? v).2 k x a).1,((h j s o? v).2 k x a).2.1⟩;refine⟨(h j s o? hs).1,λd p i x a=>?_⟩;obtain⟨k,P⟩:=kS a;exact((h j s o? hs).2 k x P).2.2 d p i;have n:=h.may s (zj hs);have hl:=h.lies r s hs;exact⟨hl.1,λk x a=>⟨n.may k x a,λd y H=>n.Fq (k-1) k y x o? H a,λd p i=>hl.2 d p i x (zj a)⟩⟩);rw[Z (by simp only[w!,bne_iff_ne,ne_eq];omega)];refine⟨V,rfl,λh=>(by cases h),λh=>?_⟩;exact K (congrArg R.length (Bc _ h.Gr)) w;rw[Z (by simp[f])];exact⟨V,rfl,λh=>(by cases h),λh=>K ⟨h.ne,h.Kb,h.Zj⟩ e⟩;rw[Z v?];exact⟨V,rfl,λh=>(by cases h),λh=>K ⟨h.text,h.dJ⟩ c⟩
end Xr
namespace Xr
def Ac(x:o):Prop:=aY x.qZ=X x.qZ/\yX x.opts=X x.opts
def VS(i:C):C:=⟨i.span,⟨i.stops.l.isEmpty,i.stops.l⟩⟩
theorem clone_ok(s:g)(hs:jY s)(w: ∀i∈s.insts.l,∀ x∈i.stops.l,Ac x):dh s=X ⟨s.cur,⟨(s.insts.l.map VS).isEmpty,s.insts.l.map VS⟩⟩:=by
 have q:=hs.1;have t: ∀(i:C)(n:I C)(f p:Y)(t2:g)(insts:R C),i.stops.l.length<=2^12-> ∀(r:R o)(k:T)(b:R o),i.stops.l.drop k=r->b.length+r.length<=2^12->(∀ x∈r,Ac x)->
   uC (n,f,p,i.stops,(i.stops.l.length:Y),(k:Y),s,t2,insts,i,b)=X (b++r):=by
  intro i n f p t2 insts hl r;induction r with
  |nil=>
   intro k b h _ _;have:=zd h;rw[uC.eq_1,W v?];simp
  |cons x r d=>
   intro k b h e j;obtain⟨g1,g2,g3⟩:=zx h;have c:=j x z?;simp only[b?]at e;rw[uC.eq_1,Z v?,A g1];simp only[D,J,c.1,c.2];rw[Z qC,ws o?,d (k+1) _ g2 v? (λy v=>j y (by simp[v]))];simp
 have u: ∀(r:R C)(a:T)(b:R C),s.insts.l.drop a=r->b.length+r.length<=2^12-> ∀t2,uB (s.insts,(s.insts.l.length:Y),(a:Y),s,t2,b)=X (b++r.map VS):=by intro r;induction r with|nil=>intro a b h _ t2;have:=zd h;rw[uB.eq_1,W v?];simp|cons i r d=>intro a b h e t2;obtain⟨g1,g2,g3⟩:=zx h;have m:=zj g1;have hl:=hs.2 i m;simp only[b?]at e;rw[uB.eq_1,Z v?,A g1];simp only[D,J];have:=t i s.insts (s.insts.l.length:Y) (a:Y) t2 b hl i.stops.l 0 [] rfl (by simpa using hl) (w i m);rw[show ((0:T):Y)=0 from rfl]at this;rw[this];simp only[J,M?];rw[Z qC,ws o?,d (a+1) _ g2 v?];simp[VS]
 unfold dh;have:=u s.insts.l 0 [] rfl (by simpa using q) (g.mk 0 ⟨U,[]⟩);rw[show ((0:T):Y)=0 from rfl]at this;rw[this];simp
structure MarksS (is:R C) (m:R (I zo)):Prop where
 len:m.length=is.length
 each: ∀(a:T)(i:C)(f:I zo),is[a]? =X i->m[a]? =X f->f.l.length=i.stops.l.length
theorem Lj(s:g)(hs:jY s)(hc: ∀i∈s.insts.l,∀ x∈i.stops.l,Ac x): ∃m,dm s=X ⟨⟨s.cur,⟨(s.insts.l.map VS).isEmpty,s.insts.l.map VS⟩⟩,⟨m.isEmpty,m⟩⟩/\MarksS s.insts.l m:=by
 have tv:=hs.1;have P: ∀(F:I C)(i6 E:Y)(t2:qN)(e:Y)(c:I C)(y:R (I zo))(H:C)(L:T),L<=2^12-> ∀(d k:T)(m:R zo),k+d=L->m.length=L->
   ∃n,uG (F,i6,E,(L:Y),(k:Y),s,t2,e,c,y,H,m)=X n /\n.length=L:=by
  intro F i6 E t2 e c y H L hL d;induction d with
  |zero=>
   intro k m h u;rw[uG.eq_1,W v?];exact⟨m,rfl,u⟩
  |succ d t=>
   intro k m h u;obtain⟨x,hx⟩:=gl (l:=m) (k:=k) o?;rw[uG.eq_1,Z v?,A hx];simp only[D,J];rw[ws o?];exact t (k+1) _ o? (by simpa using u)
 have Q: ∀(t2:qN)(e:Y)(c:I C)(r:R C)(a:T)(b:R (I zo)),s.insts.l.drop a=r->b.length=a->
   ∃m,uF (s.insts,(s.insts.l.length:Y),(a:Y),s,t2,e,c,b)=X (b++m)/\MarksS r m:=by
  intro t2 e c r;induction r with
  |nil=>
   intro a b h _;have:=zd h;rw[uF.eq_1,W v?];exact⟨[],z?,rfl,λa i f h=>by simp at h⟩
  |cons i r t=>
   intro a b h ha;obtain⟨g1,g2,g3⟩:=zx h;have hl:=hs.2 i (zj g1);rw[uF.eq_1,Z v?,A g1];simp only[D,J];rw[Z o?,Z (qC v? o?)];obtain⟨n,z,k2⟩:=P s.insts (s.insts.l.length:Y) (a:Y) t2 e c b i i.stops.l.length hl i.stops.l.length 0 (f? i.stops.l.length (zo.mk 0 V)) o? z?;simp only[X?,R.length_replicate];rw[show ((0:T):Y)=0 from rfl]at z;rw[z];simp only[J];rw[Z qC,ws o?];obtain⟨m,q,p⟩:=t (a+1) (b++[⟨V,n⟩]) g2 (by simp[ha]);refine⟨⟨V,n⟩::m,by rw[q];simp,by simp[p.len],λa j f v w=>?_⟩;cases a with
   |zero=>simp only[i?,wO]at v w;subst v w;exact k2
   |succ a=>exact p.each a j f v w
 unfold dm;rw[clone_ok s hs hc];simp only[D,J];obtain⟨m,q,p⟩:=Q _ s.cur ⟨(s.insts.l.map VS).isEmpty,s.insts.l.map VS⟩ s.insts.l 0 [] rfl rfl;rw[show ((0:T):Y)=0 from rfl]at q;rw[q];exact⟨m,z?,p⟩
end Xr
namespace Xr
def aV(cur:Y)(qp:qg)(x:o):Prop:=((x.n==cur)&&(!x.qR))=U/\xK qp x.span
def G3(s:g)(qp:qg):Prop:= ∃i∈s.insts.l,∃ x∈i.stops.l,aV s.cur qp x
theorem Ek(a b:qg):gB a b=X (decide (xK a b)):=i7 a b
theorem Lr(s:g)(qp:qg)(i:C)(hl:i.stops.l.length<=2^12)(m:I C)(t i6 p:Y)(b2:C): ∀(r:R o)(k:T),i.stops.l.drop k=r->
  ∃v:Y⊕Unit,vX (p,m,t,i6,i.stops,(i.stops.l.length:Y),(k:Y),s,qp,b2)=X v/\((∃ y,v= .inl y/\0<=y/\ ∃x∈r,aV s.cur qp x)\/v= .inr ()/\ ¬ ∃x∈r,aV s.cur qp x):=by intro r;induction r with|nil=>intro k h;have:=zd h;rw[vX.eq_1,W v?];exact⟨_,rfl,.inr ⟨rfl,z?⟩⟩|cons x r q=>intro k h;obtain⟨g1,g2,g3⟩:=zx h;obtain⟨v,j,v2⟩:=q (k+1) g2;rw[vX.eq_1,Z v?,A g1,ws o?,j];simp only[D,J];by_cases c:aV s.cur qp x;rw[Z c.1,Ek];simp only[J,c.2,decide_true,if_true];exact⟨_,rfl,.inl ⟨k,rfl,o?,x,z?,c⟩⟩;(have f:(∃ y,v= .inl y/\0<=y/\ ∃z∈x::r,aV s.cur qp z)\/v= .inr ()/\ ¬ ∃z∈x::r,aV s.cur qp z:=by rcases v2 with ⟨y,d,b,z,hz,a⟩|⟨d,b⟩;exact .inl ⟨y,d,b,z,by simp[hz],a⟩;refine .inr ⟨d,λ⟨z,hz,a⟩=>?_⟩;rcases K?.1 hz with rfl|hz;exact c a;exact b ⟨z,hz,a⟩);by_cases e:((x.n==s.cur)&&(!x.qR))=U;rw[Z e,Ek];have: ¬xK qp x.span:=λh=>c ⟨e,h⟩;simp only[J,this,decide_false,vH,if_false];exact⟨v,rfl,f⟩;rw[W e];exact⟨v,rfl,f⟩
theorem Ls(s:g)(hs:jY s)(qp:qg): ∃a k:Y,di s qp=X (a,k)/\(k<0↔ ¬G3 s qp):=by
 have loop: ∀(r:R C)(a:T),s.insts.l.drop a=r-> ∃v:(Y×Y)⊕Unit,uD (s.insts,(s.insts.l.length:Y),(a:Y),s,qp)=X v/\
   ((∃ y,v= .inl y/\0<=y.2/\ ∃i∈r,∃ x∈i.stops.l,aV s.cur qp x)\/v= .inr ()/\ ¬ ∃i∈r,∃ x∈i.stops.l,aV s.cur qp x):=by
  have hn:=hs.1;intro r;induction r with
  |nil=>
   intro a h;have:=zd h;rw[uD.eq_1,W v?];exact⟨_,rfl,.inr ⟨rfl,z?⟩⟩
  |cons i r p=>
   intro a h;obtain⟨g1,g2,g3⟩:=zx h;obtain⟨u,m,n⟩:=Lr s qp i (hs.2 i (zj g1)) s.insts (s.insts.l.length:Y) (a:Y) (a:Y) i i.stops.l 0 rfl;obtain⟨v,d,v2⟩:=p (a+1) g2;rw[show ((0:T):Y)=0 from rfl]at m;rw[uD.eq_1,Z v?,A g1,ws o?];simp only[D,J,m,d];rcases n with ⟨y,rfl,c,x,q,b⟩|⟨rfl,c⟩
   ·exact⟨_,rfl,.inl ⟨_,rfl,c,i,z?,x,q,b⟩⟩
   refine⟨v,rfl, ?_⟩;rcases v2 with ⟨y,b,f,j,hj,e⟩|⟨b,f⟩
   ·exact .inl ⟨y,b,f,j,by simp[hj],e⟩
   refine .inr ⟨b,λ⟨j,hj,e⟩=>?_⟩;rcases K?.1 hj with rfl|hj
   ·exact c e
   exact f ⟨j,hj,e⟩
 obtain⟨v,d,v2⟩:=loop s.insts.l 0 rfl;rw[show ((0:T):Y)=0 from rfl]at d;unfold di;rw[d];rcases v2 with ⟨y,rfl,c,b⟩|⟨rfl,c⟩;exact⟨y.1,y.2,rfl,λh=>o?,λh=>K b h⟩;exact⟨-1,-1,rfl,λ_=>c,λ_=>o?⟩
theorem WJ(s:g)(hs:jY s)(es:I qf)(hl:es.l.length<2^60): ∃b:M,kU s es=X b/\(b=U↔ ∀e∈es.l,G3 s e.span):=by
 have loop: ∀(r:R qf)(k:T),es.l.drop k=r-> ∃v:M⊕Unit,uE (es,(es.l.length:Y),(k:Y),s)=X v/\(v= .inl V/\(¬ ∀e∈r,G3 s e.span)\/v= .inr ()/\ ∀e∈r,G3 s e.span):=by intro r;induction r with|nil=>intro k h;have:=zd h;rw[uE.eq_1,W v?];exact⟨_,rfl,.inr ⟨rfl,z?⟩⟩|cons x r p=>intro k h;obtain⟨g1,g2,g3⟩:=zx h;obtain⟨a,j,n,m⟩:=Ls s hs x.span;obtain⟨v,d,v2⟩:=p (k+1) g2;rw[uE.eq_1,Z v?,A g1,ws o?];simp only[D,J,n,d];by_cases c:j<0;rw[Z (by simpa using c)];exact⟨_,rfl,.inl ⟨rfl,λh=>m.1 c (h x z?)⟩⟩;(rw[W (by simpa using c)];refine⟨v,rfl, ?_⟩;have q:G3 s x.span:=by by_cases h:G3 s x.span;exact h;exact K (m.2 h) c);rcases v2 with ⟨i,f⟩|⟨i,f⟩;exact .inl ⟨i,λh=>f λe he=>h e (by simp[he])⟩;refine .inr ⟨i,λe he=>?_⟩;rcases K?.1 he with rfl|he;exact q;exact f e he
 obtain⟨v,d,v2⟩:=loop es.l 0 rfl;rw[show ((0:T):Y)=0 from rfl]at d;unfold kU;rw[d];rcases v2 with ⟨rfl,h⟩|⟨rfl,h⟩;exact⟨V,rfl,by simpa using h⟩;exact⟨U,rfl,by simpa using h⟩
theorem owns_nrm(s:g)(qp:qg):G3 ⟨s.cur,⟨(s.insts.l.map VS).isEmpty,s.insts.l.map VS⟩⟩ qp↔G3 s qp:=by unfold G3;simp only[B?];constructor;rintro⟨i,⟨j,b,rfl⟩,x,a,h⟩;exact⟨j,b,x,a,h⟩;rintro⟨j,b,x,a,h⟩;exact⟨_,⟨j,b,rfl⟩,x,a,h⟩
end Xr
namespace Xr
theorem FB{α:Type}{s:I α}(h:Jt s<1000000000000000000):s.nil=s.l.isEmpty:=by unfold Jt at h;split at h;assumption;omega
theorem FC{α:Type}{s:I α}(h:s.nil=s.l.isEmpty):(⟨s.l.isEmpty,s.l⟩:I α)=s:=by cases s;simp only at h;rw[h]
abbrev C6(x:qI):Prop:=cW x<=1000000000
theorem JU{Q:qI->Prop}(h: ∀x,C6 x->(∀ y∈x.qB.l,Q y)->Q x): ∀x,C6 x->Q x:=by
 have key: ∀n(x:qI),cW x<n->C6 x->Q x:=by intro n;induction n with|zero=>intro x d;omega|succ n b=>intro x d a;refine h x a λy c=>?_;have:=ME c;exact b y o? o?
 exact λx a=>key (cW x+1) x o? a
theorem few_len{x:qI}(h:C6 x):x.rows.l.length<=1000000000/\x.qB.l.length<=1000000000/\Jt x.rows=0/\Jt x.qB=0:=by
 have h1:=uR x;have h2:=xP dH x.rows.l;have h3:=xP lq x.qB.l;have a: ∀{α:Type}(s:I α),Jt s=0\/Jt s=1000000000000000000:=λs=>by unfold Jt;split<;>simp
 have:=a x.rows;have:=a x.qB;omega
theorem rxClone: ∀x,C6 x->nM x=X x:=by
 refine JU λx i f=>?_;obtain⟨l1,e,l3,l4⟩:=few_len i;have loop: ∀(d c:qI)(r:R qI)(k:T)(a:R qI),x.qB.l.drop k=r->a.length+r.length<=1000000000->wL (x.qB,(x.qB.l.length:Y),(k:Y),d,c,a)=X (a++r):=by intro d c r;induction r with|nil=>intro k a h _;have:=zd h;rw[wL.eq_1,W v?];simp|cons y r b=>intro k a h m;obtain⟨g1,g2,g3⟩:=zx h;simp only[b?]at m;rw[wL.eq_1,Z v?,A g1];simp only[D,J,f y (zj g1)];rw[Z qC,ws o?,b (k+1) _ g2 v?];simp
 have j:nO x.rows=X x.rows:=by have h:=FB (s:=x.rows) o?;unfold nO;cases hn:x.rows.nil with|true=>rw[Z rfl,<- FC h];rw[hn]at h;rw[f_.1 h.symm];rfl|false=>rw[W z?,Z qC,<- FC h];rw[hn]at h;simp only[<- h]
 rw[nM.eq_1,j];simp only[D,J];have:=loop (qI.mk x.kind x.char x.not x.rows x.min x.max x.lazy x.qB) (qI.mk 0 [] V ⟨U,[]⟩ 0 0 V ⟨U,[]⟩) x.qB.l 0 [] rfl (by simpa using e);rw[show ((0:T):Y)=0 from rfl]at this;rw[this];simp only[J,M?];rw[FC (FB (s:=x.qB) o?)];cases x;rfl
theorem form_len{f:zG}(h:uf f<=1000000000):C6 f.rx/\f.yg.l.length<=1000000000/\Jt f.yg=0:=by
 have h2:=xP Kr f.yg.l;have h4:Jt f.yg=0\/Jt f.yg=1000000000000000000:=by unfold Jt;split<;>simp
 unfold uf at h;unfold C6;omega
theorem stopC_of{x:o}(h:rA x):Ac x:=by
 obtain⟨i,_,f,ho⟩:=h;obtain⟨g1,g2,g3⟩:=form_len i;have a: ∀{α:Type}(s:I α),Jt s=0->s=⟨s.nil,s.l⟩/\(s.nil=U->s=⟨U,[]⟩)/\(s.nil=V->s=⟨V,s.l⟩):=by intro α s h;have:=FB (s:=s) o?;refine⟨rfl,λc=>?_,λc=>?_⟩;cases s;simp only at c this;subst c;rw[f_.1 this.symm];cases s;simp only at c;subst c;rfl
 refine⟨?_, ?_⟩;(have e:nN x.qZ.yg=X x.qZ.yg:=by obtain⟨_,d,b⟩:=a x.qZ.yg g3;unfold nN;cases hn:x.qZ.yg.nil with|true=>rw[Z rfl,<- d hn]|false=>rw[W z?,Z qC,<- b hn]);unfold aY;simp only[rxClone _ g1,e,D,J];obtain⟨_,d,b⟩:=a x.opts f;unfold yX;cases hn:x.opts.nil with|true=>rw[Z rfl,<- d hn]|false=>rw[W z?,Z qC,<- b hn]
end Xr
end Go.Proofs.YtadahlbndbmdeaaGreat
namespace Go.Proofs.YtadahlbndbmdeaaGreat
namespace StM
open Go Go.Gm
theorem Ll(i:C)(k:T)(x:o)(d:qk i.stops.l k=X x)(u:T):u<i.stops.l.length->
  ∃t:M,wZ (i.stops,(u:Y),x.up)=X (if t then .inl U else .inr ())/\
   kR ((k:Y),(u:Y),i)=X (if x.up==(u:Y) || t then .inl U else .inr ()):=by induction u using s? with|_ u n=>intro a;have b:=xQ a;generalize i.stops.l[u]=y at b;by_cases m:0<=y.up/\y.up<u;obtain⟨v,f⟩: ∃v:T,y.up=v:=⟨y.up.toNat,o?⟩;obtain⟨t,p,c⟩:=n v o? o?;refine⟨(y.up==x.up) || t, ?_, ?_⟩;rw[wZ.eq_1];by_cases e:y.up=x.up;(have e2:(y.up==x.up)=U:=by simpa using e);simp only[b,D,J,e2];simp[a,m];(have e2:(y.up==x.up)=V:=by simpa using e);simp only[b,D,J,e2];have j:v<u:=o?;simp[a,f,p,j];rw[kR.eq_1];by_cases e:x.up=u;simp[d,e];(have e2:(x.up==(u:Y))=V:=by simpa using e);(have hs:oB i u=X (v:Y):=by unfold oB;rw[b];simp only[D,J];rw[Z (by simp[f];omega),f]);simp only[d,hs,D,J,e2,c];have:(x.up==(v:Y))=((v:Y)==x.up):=BEq.comm;simp[this,f];refine⟨V, ?_, ?_⟩;rw[wZ.eq_1];by_cases h:0<=y.up;have c: ¬y.up<u:=λc=>m ⟨h,c⟩;simp[b,a,h,c];simp[b,a,h];rw[kR.eq_1];by_cases e:x.up=u;simp[d,e];(have e2:(x.up==(u:Y))=V:=by simpa using e);(have hs:oB i u=X (-1):=by unfold oB;rw[b];simp only[D,J];rw[W v?]);(have hn:kR ((k:Y),-1,i)=X (.inr ()):=by rw[kR.eq_1];rfl);simp only[d,hs,D,J,e2,hn];simp
theorem in_ahead(l:I o)(u:T)(b:Y):wZ (l,(u:Y),b)=X (.inl U)->0<=b/\b<u:=by induction u using s? with|_ u j=>intro h;rw[wZ.eq_1]at h;by_cases a:u<l.l.length;have i:=xQ a;generalize l.l[u]=y at i;simp only[i,D,J]at h;by_cases k:0<=y.up/\y.up<u;obtain⟨v,m⟩: ∃v:T,y.up=v:=⟨y.up.toNat,o?⟩;by_cases e:y.up=b;omega;have c:v<u:=o?;simp[a,m,c]at h;have:=j v o? (h o?);omega;by_cases f:0<=y.up;have d: ¬y.up<u:=λd=>k ⟨f,d⟩;simp[a,f,d]at h;simp[a,f]at h;simp[a]at h
theorem DP(i:C)(k:T)(x:o)(a:qk i.stops.l k=X x)(hl:i.stops.l.length<2^60):
  ∃t:M,nQ i k=X t/\(t=U-> -1<=x.up/\x.up<k)/\
   (x.up= -1->t=U)/\(x.up≠ -1->0<=x.up->x.up<k->(x.up=(k:Y)-1->t=U)/\(x.up≠(k:Y)-1->sZ i.stops ((k:Y)-1) x.up=X t)):=by
 have s9:k<i.stops.l.length:=by have:=XQ a;simpa using this
 have c:q?.wrap ((k:Y)-1)=(k:Y)-1:=qy o? o?;cases k with|zero=>refine⟨x.up== -1, ?_, ?_, ?_, ?_⟩;unfold nQ;rw[c,kR.eq_1];simp only[R_]at a |-;simp[a];intro h;simp at h;omega;intro h;simp[h];intro _ b d;omega|succ k=>(obtain⟨t,b,d⟩:=Ll i (k+1) x a k o?;have e1:((k+1:T):Y)-1=(k:Y):=o?;have e2:q?.wrap (((k+1:T):Y)-1)=(k:Y):=by rw[c,e1]);(have hu:t=U->0<=x.up/\x.up<k:=by intro f;subst f;exact in_ahead i.stops k x.up (by simpa using b));refine⟨(x.up==(k:Y)) || t || (x.up== -1), ?_, ?_, ?_, ?_⟩;unfold nQ;rw[e2,d];by_cases e:(x.up==(k:Y) || t)=U;simp[e];(simp only[M.not_eq_true]at e;have n:qk i.stops.l ((k:Y)+1)=X x:=by simpa using a);simp[e,n];intro h;simp only[w!,beq_iff_eq]at h;rcases h with (h|h)|h;omega;have:=hu h;omega;omega;intro h;simp[h];(intro m h3 h4;rw[e1];refine⟨λh=>by simp[h],λh=>?_⟩;unfold sZ;rw[b];have:(x.up==(k:Y))=V:=by simpa using h);(have j:(x.up==(-1:Y))=V:=by simpa using m);cases t<;>simp[this,j]
def eb(x:o):R o->M
 |[]=>V
 |y::r=>(y.up==x.up&&decide (x.span.qG<y.span.to)) || eb x r
theorem YH(x:o): ∀l:R o,eb x l=U↔ ∃(q:T)(y:o),l[q]? =X y/\y.up=x.up/\x.span.qG<y.span.to
 |[]=>by simp[eb]
 |y::r=>by simp only[eb,w!,xn,beq_iff_eq,N,YH x r];constructor;rintro(h|⟨q,z,h⟩);exact⟨0,y,rfl,h⟩;exact⟨q+1,z,by simpa using h.1,h.2⟩;rintro⟨q,z,a,b⟩;cases q with|zero=>simp at a;subst a;exact .inl b|succ q=>exact .inr ⟨q,z,by simpa using a,b⟩
theorem Fj(i:C)(x:o)(b:qg)(k:T)(hk:k<=i.stops.l.length)(hl:i.stops.l.length<2^60): ∀(n j:T),j+n=k->
  jr ((k:Y),(j:Y),i,x,b)=X (if eb x ((i.stops.l.take k).drop j)=U then .inl V else .inr ()):=by intro n;induction n with|zero=>intro j m;obtain rfl:j=k:=o?;rw[jr.eq_1];have:(i.stops.l.take j).drop j=[]:=z?;simp[this,eb]|succ n f=>(intro j m;have q:j<i.stops.l.length:=o?;have c:j<k:=o?;have p:(i.stops.l.take k).drop j=i.stops.l[j]::(i.stops.l.take k).drop (j+1):=by rw[X! v?];simp);have h:q?.wrap ((j:Y)+1)=((j+1:T):Y):=sj o?;have d:=xQ q;rw[p];generalize i.stops.l[j]=y at d;rw[jr.eq_1];simp only[d,D,J,h,f (j+1) o?,eb];by_cases a:y.up=x.up;by_cases e:x.span.qG<y.span.to;simp[a,e,c];simp[a,e,c];simp[a,c]
def XS(i:C)(x:o):M:=
 if 0<=x.up then match i.stops.l[x.up.toNat]? with
  |some y=>decide (x.span.qG>=y.span.qG)&&decide (x.span.to<=y.span.to)
  |none=>V
 else decide (x.span.qG>=i.span.qG)&&decide (x.span.to<=i.span.to)
def okAt(i:C)(k:T)(x:o)(t:M):M:=
 t&&decide (x.span.qG<=x.span.to)&& !(eb x (i.stops.l.take k))&&XS i x
theorem within_eq(a b:qg):ja a b=X (decide (a.qG>=b.qG)&&decide (a.to<=b.to)):=by unfold ja;by_cases h:a.qG>=b.qG<;>simp[h]
theorem A2(a b:qg):gB a b=X (decide (a.qG>=b.qG)&&decide (a.to<=b.to)):=by unfold gB;by_cases h:a.qG>=b.qG<;>simp[h]
theorem q07(i:C)(k:T)(r:k<i.stops.l.length)(hl:i.stops.l.length<2^60):
  ∃t:M,nQ i k=X t/\(t=U-> -1<=i.stops.l[k].up/\i.stops.l[k].up<k)/\
  xe ((k:Y),i)=if okAt i k i.stops.l[k] t=U then xe (((k+1:T):Y),i)else X (.inl V):=by
 have c:=xQ r;generalize i.stops.l[k]=x at c;obtain⟨t,f,u,h3,h4⟩:=DP i k x c hl;refine⟨t,f,u, ?_⟩;have H:q?.wrap ((k:Y)+1)=((k+1:T):Y):=sj o?;have P9:q?.wrap ((k:Y)-1)=(k:Y)-1:=qy o? o?;have s:=λb=>Fj i x b k o? hl k 0 o?;simp only[R_,O_]at s;rw[xe.eq_1];simp only[c,D,J,H,P9,s,within_eq];have F:decide ((k:Y)<(i.stops.l.length:Y))=U:=by simpa using r
 rw[Z F];have tail: ∀(b:qg)(q:M),(b.qG<=x.span.qG/\x.span.to<=b.to↔q=U)->
   (if decide (x.span.qG>x.span.to)=U then X (.inl V)else if(!(decide (x.span.qG>=b.qG)&&decide (x.span.to<=b.to)))=U then X (.inl V)
    else(X (if eb x (i.stops.l.take k)=U then(.inl V:M⊕Unit)else .inr ())).bind λv=>match v with
     | .inl y=>X (.inl y)
     | .inr _=>xe (((k+1:T):Y),i))=
   if(decide (x.span.qG<=x.span.to)&& !(eb x (i.stops.l.take k))&&q)=U then xe (((k+1:T):Y),i)else X (.inl V):=by
  intro b q p;by_cases f:x.span.qG>x.span.to
  ·have: ¬x.span.qG<=x.span.to:=o?;simp[f,this]
  have e :x.span.qG<=x.span.to:=o?;cases q with
  |true=>
   obtain⟨a1,a2⟩:=p.2 rfl;cases eb x (i.stops.l.take k)<;>simp[e,a1,a2]<;>omega
  |false=>
   have:(decide (x.span.qG>=b.qG)&&decide (x.span.to<=b.to))=V:=by
    rw[Bool.eq_false_iff];intro h;simp only[xn,N]at h;cases p.1 h
   simp[this]
 by_cases hu:x.up= -1;(have L:=h3 hu;subst L;have e1:(x.up != -1)=V:=by simp[hu]);(have e2:decide (x.up>=0)=V:=by simp[hu]);have e3: ¬0<=x.up:=o?;simp only[e1,e2,okAt,XS,e3,if_false,vH,Y_];exact tail i.span (decide (x.span.qG>=i.span.qG)&&decide (x.span.to<=i.span.to)) z?;have e1:(x.up != -1)=U:=by simp[hu]
 by_cases d:0<=x.up/\x.up<k;(obtain⟨Q,P⟩:=h4 hu d.1 d.2;have j:(decide (x.up<0) || decide (x.up>=(k:Y)))=V:=v?;have e2:decide (x.up>=0)=U:=v?;obtain⟨v,n⟩: ∃v:T,x.up=v:=⟨x.up.toNat,o?⟩;have z:v<i.stops.l.length:=o?;have m:=xQ z;have w:i.stops.l[x.up.toNat]? =X i.stops.l[v]:=by rw[n];simp[z]);(generalize i.stops.l[v]=y at m w;have AP:qk i.stops.l x.up=X y:=by rw[n];exact m);have E:=tail y.span (decide (x.span.qG>=y.span.qG)&&decide (x.span.to<=y.span.to)) z?;simp only[e1,j,e2,okAt,XS,d.1,AP,w,if_true,vH,if_false,J];by_cases a:x.up=(k:Y)-1;(have:=Q a;subst this;have e3:(x.up != (k:Y)-1)=V:=by simp[a]);simp only[e3,vH,if_false,Y_];exact E;(have e3:(x.up != (k:Y)-1)=U:=by simp[a]);(simp only[e3,if_true,P a,J];cases t with|true=>simp only[q1p,vH,if_false,Y_];exact E|false=>simp);have j:(decide (x.up<0) || decide (x.up>=(k:Y)))=U:=by simp only[w!,N];omega
 have:t=V:=by cases t with|true=>have:=u rfl;omega|false=>rfl
 subst this;simp[e1,j,okAt]
theorem DS(i:C)(k:T)(m:k<i.stops.l.length)(hl:i.stops.l.length<2^60)(t:M)(u:nQ i k=X t)(p:t=U-> -1<=i.stops.l[k].up/\i.stops.l[k].up<k)(u7:sm):
  yM (i.stops,(i.stops.l.length:Y),(k:Y),i,u7)=
   if(t&&decide (i.stops.l[k].span.qG<=i.stops.l[k].span.to)&& !(Jc u7 i.stops.l[k].up&&decide (i.stops.l[k].span.qG<ZO u7 i.stops.l[k].up))&&
    XS i i.stops.l[k])=U
   then yM (i.stops,(i.stops.l.length:Y),((k+1:T):Y),i,JN u7 i.stops.l[k].up i.stops.l[k].span.to)else X (.inl (V,u7)):=by
 have h:=xQ m;generalize i.stops.l[k]=x at h p;have s:q?.wrap ((k:Y)+1)=((k+1:T):Y):=sj o?;have r:decide ((k:Y)<(i.stops.l.length:Y))=U:=by simpa using m
 rw[yM.eq_1,Z r];simp only[h,u,D,J,s,A2];cases t with|false=>simp|true=>have:=p rfl;by_cases e:x.span.qG>x.span.to;have a: ¬x.span.qG<=x.span.to:=o?;simp[e,a];have a:x.span.qG<=x.span.to:=o?;by_cases hu:0<=x.up;(obtain⟨v,j⟩: ∃v:T,x.up=v:=⟨x.up.toNat,o?⟩;have q:v<i.stops.l.length:=o?;have f:=xQ q;have n:i.stops.l[x.up.toNat]? =X i.stops.l[v]:=by rw[j];simp[q]);(generalize i.stops.l[v]=y at f n;have w:qk i.stops.l x.up=X y:=by rw[j];exact f);simp only[w,n,J,XS];by_cases d:x.span.qG>=y.span.qG<;>by_cases c:x.span.to<=y.span.to<;>cases Jc u7 x.up<;>by_cases b:x.span.qG<ZO u7 x.up<;>simp[e,a,hu,d,c,b]<;>omega;simp only[XS];by_cases d:x.span.qG>=i.span.qG<;>by_cases c:x.span.to<=i.span.to<;>cases Jc u7 x.up<;>by_cases b:x.span.qG<ZO u7 x.up<;>simp[e,a,hu,d,c,b]<;>omega
structure Ke (l:R o) (k:T) (u7:sm):Prop where
 fwd: ∀(j:T) x,j<k->l[j]? =X x->x.span.qG<=x.span.to/\Jc u7 x.up=U/\x.span.to<=ZO u7 x.up
 bwd: ∀u,Jc u7 u=U-> ∃(j:T)(x:o),j<k/\l[j]? =X x/\x.up=u/\ZO u7 u=x.span.to
theorem S7{l:R o}{k:T}{u7:sm}(h:Ke l k u7)(x:o)(hk:k<=l.length):eb x (l.take k)=(Jc u7 x.up&&decide (x.span.qG<ZO u7 x.up)):=by rw[Bool.eq_iff_iff,YH];simp only[xn,N];constructor;(rintro⟨q,y,a,e,h3⟩;have d:q<k:=by have:=(qK a).1;simp at this;omega);rw[G? d]at a;obtain⟨_,b,c⟩:=h.fwd q y d a;rw[e]at b c;exact⟨b,o?⟩;rintro⟨a,e⟩;obtain⟨j,y,i,f,hu,he⟩:=h.bwd _ a;exact⟨j,y,by rw[G? i];exact f,hu,o?⟩
theorem q0e{l:R o}{k:T}{u7:sm}(h:Ke l k u7)(x:o)(f:l[k]? =X x)(n:x.span.qG<=x.span.to)(m:(Jc u7 x.up&&decide (x.span.qG<ZO u7 x.up))=V):Ke l (k+1) (JN u7 x.up x.span.to):=by constructor;intro j y i d;rw[Rj,Ri];by_cases p:j=k;subst p;rw[f]at d;cases d;simp[n];obtain⟨a,b,c⟩:=h.fwd j y o? d;refine⟨a,by simp[b], ?_⟩;by_cases e:y.up=x.up;rw[Z e];rw[e]at b c;simp only[b,Y_,decide_eq_false_iff_not]at m;omega;rw[W e];exact c;intro u hu;rw[Ri];rw[Rj]at hu;by_cases e:u=x.up;exact⟨k,x,o?,f,e.symm,by rw[Z e]⟩;rw[W e]at hu |-;obtain⟨j,y,i,d⟩:=h.bwd u hu;exact⟨j,y,o?,d⟩
theorem L3(i:C)(hl:i.stops.l.length<2^60): ∀(n k:T)(u7:sm),k+n=i.stops.l.length->Ke i.stops.l k u7->
  ∃(t:M)(e:sm),yM (i.stops,(i.stops.l.length:Y),(k:Y),i,u7)=X (if t=U then .inr e else .inl (V,e))/\
   xe ((k:Y),i)=X (if t=U then .inr ()else .inl V):=by intro n;induction n with|zero=>intro k u7 f _;obtain rfl:k=i.stops.l.length:=o?;refine⟨U,u7, ?_, ?_⟩;rw[yM.eq_1];simp;rw[xe.eq_1];simp|succ n d=>(intro k u7 f hs;have a:k<i.stops.l.length:=o?;obtain⟨t,p,m,j⟩:=q07 i k a hl;have h:=DS i k a hl t p m u7;rw[j,h,okAt,S7 hs _ o?];have c:i.stops.l[k]? =X i.stops.l[k]:=by simp[a]);generalize i.stops.l[k]=x at c |-;split;rename_i b;simp only[xn,N,M.not_eq_true']at b;exact d (k+1) _ o? (q0e hs x c b.1.1.2 b.1.2);exact⟨V,u7,rfl,rfl⟩
theorem may_same(i:C)(n:Y)(hl:i.stops.l.length<2^60): ∃t:M,QR i n=X t/\fM i n=X t:=by
 have d:cd i.span n=tN i.span n:=rfl;obtain⟨b,f⟩: ∃b,tN i.span n=X b:=by unfold tN;split<;>exact⟨_,rfl⟩
 obtain⟨t,e,c,a⟩:=L3 i hl i.stops.l.length 0 ⟨[],0⟩ o? ⟨λj x hj=>o?,λu hu=>by simp[mhas_nil]at hu⟩;simp only[R_]at c a;unfold QR fM;rw[d,f];simp only[D,J];cases b with|false=>exact⟨V,rfl,rfl⟩|true=>simp only[q1p,vH,if_false,c,a,J];cases t<;>exact⟨_,rfl,rfl⟩
end StM
end Go.Proofs.YtadahlbndbmdeaaGreat
namespace Go.Proofs.YtadahlbndbmdeaaGreat
open Go Go.Gm
namespace Xr
theorem Lu(n:Y)(is:I C)(a m:Y)(i:C)(hb:i.stops.l.length<=2^20): ∀(r:R o)(k:T)(out:R qg),i.stops.l.drop k=r->out.length+r.length<=2^29->
  yZ (n,is,m,a,i.stops,(i.stops.l.length:Y),(k:Y),out,i)=X (out++lx n r):=by intro r;induction r with|nil=>intro k out h _;have:=zd h;rw[yZ.eq_1,W v?];simp[lx]|cons x r c=>intro k out h e;obtain⟨f,d,h3⟩:=zx h;simp only[b?]at e;rw[yZ.eq_1,Z v?,A f,ws o?];simp only[D,J];have e1:=c (k+1) out d o?;have e2:=c (k+1) (out++[x.span]) d v?;generalize ((k+1:T):Y)=q at e1 e2 |-;cases b:x.qR with|true=>simp[e1,lx,isN,b]|false=>by_cases hn:x.n=n;simp[e2,lx,isN,b,hn,qC (show out.length+1<=2^30 by omega) (show 16<=2^16 by omega)];simp[e1,lx,isN,b,hn]
theorem Lt(n:Y)(is:I C)(f: ∀i∈is.l,i.stops.l.length<=2^20)(hL:is.l.length<=2^20): ∀(r:R C)(a:T)(out:R qg),is.l.drop a=r->out.length+B r<=2^29->
  bI (n,is,(is.l.length:Y),(a:Y),out)=X (out++yY n r):=by intro r;induction r with|nil=>intro a out h _;have:=zd h;rw[bI.eq_1,W v?];simp[yY]|cons i r c=>intro a out h d;obtain⟨b,j,h3⟩:=zx h;have hi:=zj b;simp only[B,e?,g!]at d;have hs:=WM n i.stops.l;have e:=Lu n is a is.l.length i (f i hi) i.stops.l 0 out rfl o?;rw[show ((0:T):Y)=0 from rfl]at e;rw[bI.eq_1,Z v?,A b,ws o?];simp only[D,J,e];rw[c (a+1) _ j (by simp only[B,p?];omega)];simp[yY]
theorem Lv(n:Y)(is:I C)(a: ∀i∈is.l,i.stops.l.length<=2^12)(b:is.l.length<=2^12):aW n is=X ⟨(yY n is.l).isEmpty,yY n is.l⟩:=by have h1:=XT a;have h2:is.l.length*2^12<=2^12*2^12:=w_ b (ke _);unfold aW;have e:=Lt n is (λi hi=>by have:=a i hi;omega) o? is.l 0 [] rfl v?;rw[show ((0:T):Y)=0 from rfl]at e;rw[e];simp
theorem plies_L0(s:qg)(l:I qg)(hL:l.l.length<2^60): ∀(r:R qg)(k:T),l.l.drop k=r-> ∃v:Y⊕Unit,zC (l,(l.l.length:Y),(k:Y),s)=X v/\((∃ y,v= .inl y/\0<=y/\r.any (λp=>decide (xK s p))=U)\/v= .inr ()/\r.any (λp=>decide (xK s p))=V):=by intro r;induction r with|nil=>intro k h;have:=zd h;rw[zC.eq_1,W v?];exact⟨_,rfl,.inr ⟨rfl,rfl⟩⟩|cons p r f=>intro k h;obtain⟨j,i,h3⟩:=zx h;obtain⟨v,d,v2⟩:=f (k+1) i;rw[zC.eq_1,Z v?,A j,ws o?];simp only[D,J,fX,show gB s p=X (decide (xK s p))from i7 s p];by_cases e:xK s p;rw[Z (by simpa using e)];exact⟨_,rfl,.inl ⟨_,rfl,o?,by simp[e]⟩⟩;rw[W (by simpa using e),d];refine⟨v,rfl, ?_⟩;rcases v2 with ⟨y,b,a,c⟩|⟨b,a⟩;exact .inl ⟨y,b,a,by simp only[R.any_cons,c,M.or_true]⟩;exact .inr ⟨b,by simp[e,a]⟩
theorem plies_ok(s:qg)(l:I qg)(d:l.l.length<2^60): ∃t:M,aw s l=X t/\(t=U↔lI s l.l):=by
 obtain⟨v,b,v2⟩:=plies_L0 s l d l.l 0 rfl;rw[show ((0:T):Y)=0 from rfl]at b;unfold aw jm jE;rw[b];rcases v2 with ⟨y,rfl,a,c⟩|⟨rfl,a⟩;refine⟨U,by simp[a],λ_=>?_,λ_=>rfl⟩;simpa[lI]using c;refine⟨V,z?,λh=>(by cases h),λh=>?_⟩;have:l.l.any (λp=>decide (xK s p))=U:=by simpa[lI]using h
 rw[a]at this;cases this
section
variable (st:qv) (Hl: ∀s∈st.qi.l,jY s) (h60:st.qi.l.length<2^60)
include Hl in
theorem pmay_L2(i:T)(s:g)(hs:st.qi.l[i]? =X s)(F:I qg)(ha:0<i-> ∀p,st.qi.l[i-1]? =X p->F.l=yY p.cur p.insts.l)(oG:F.l.length<2^60):
  ∀(d k:T)(e:Y),k+d=s.insts.l.length->(k=0->e=0)->(0<k-> ∀y,s.insts.l[k-1]? =X y->e=y.span.to)->
  ∃t:M,gm ((st.text.length:Y),F,(i:Y),e,st.qi,(st.qi.l.length:Y),(i:Y),s.insts,(s.insts.l.length:Y),(k:Y),st,s)=X (if t=U then .inr ()else .inl V)/\
   (t=U↔ ∀(r:T) x,k<=r->s.insts.l[r]? =X x->Je st i s.insts.l r x):=by
 have JI:=Hl s (zj hs);have hsn:=JI.1;intro d;induction d with
  |zero=>intro k e h _ _;rw[gm.eq_1,W v?];exact⟨U,rfl,λ_ r x hr a=>by have:=(qK a).1;omega,λ_=>rfl⟩
  |succ d ih=>
   (intro k e h P6 q;obtain⟨x,a⟩:=gl (l:=s.insts.l) (k:=k) o?;have hxs:=JI.2 x (zj a);obtain⟨t,g1,g2⟩:=ih (k+1) x.span.to o? o? (λ_ y j=>by rw[E!,a]at j;cases j;rfl);obtain⟨b,m1,m2⟩:=StM.may_same x (st.text.length:Y) o?;obtain⟨b2,m3,m4⟩:=Rf x (st.text.length:Y) o?;rw[m2]at m3;cases m3;have split: ∀(P:Prop),(P↔Je st i s.insts.l k x)->((P/\ ∀(r:T) z,k+1<=r->s.insts.l[r]? =X z->Je st i s.insts.l r z)↔ ∀(r:T) z,k<=r->s.insts.l[r]? =X z->Je st i s.insts.l r z):=by intro P hP;rw[hP];constructor;intro h r z hr m;by_cases c:r=k;subst c;rw[a]at m;cases m;exact h.1;exact h.2 r z o? m;exact λh=>⟨h k x (ke _) a,λr z hr m=>h r z o? m⟩);rw[gm.eq_1,Z v?,A a,ws o?];simp only[D,J,m1];by_cases E:Ht x st.text.length/\e<=x.span.qG;(have hb:b=U:=m4.2 E.1;subst hb;have f:0<k-> ∀y,s.insts.l[k-1]? =X y->y.span.to<=x.span.qG:=λh0 y j=>by have:=q h0 y j;omega);rw[W v?];by_cases w:0<i;(obtain⟨p,L⟩:=gl (l:=st.qi.l) (k:=i-1) (by have:=(qK hs).1;omega);obtain⟨u,l1,H⟩:=plies_ok x.span F oG;rw[Z (by simpa using w),l1];simp only[J];rw[ha w p L]at H;cases u with|false=>rw[Z z?];refine⟨V,rfl,λh=>(by cases h),λh=>?_⟩;have:=H.2 ((h k x (ke _) a).2.2 w p L);cases this|true=>rw[W z?,g1];refine⟨t,rfl,g2.trans ?_⟩;rw[<- split True ⟨λ_=>⟨E.1,f,λ_ p' n =>?_⟩,λ_=>trivial⟩];simp;rw[L]at n;cases n;exact H.1 rfl);rw[W (by simpa using w),g1];refine⟨t,rfl,g2.trans ?_⟩;rw[<- split True ⟨λ_=>⟨E.1,f,λh0=>K h0 w⟩,λ_=>trivial⟩];simp
   have v: ¬Je st i s.insts.l k x:=λQ=>E ⟨Q.1,by
    by_cases c:k=0
    ·rw[P6 c]
     exact Q.1.W2.1
    obtain⟨y,j⟩:=gl (l:=s.insts.l) (k:=k-1) o?
    rw[q o? y j]
    exact Q.2.1 o? y j⟩
   rw[Z (by
    cases hb:b with
    |false=>rfl
    |true=>
     have: ¬e<=x.span.qG:=λh=>E ⟨m4.1 hb,h⟩
     simp;omega)]
   exact⟨V,rfl,λh=>(by cases h),λh=>K (h k x (ke _) a) v⟩
include Hl h60 in
theorem pmay_L0: ∀(d i:T)(a:I qg),i+d=st.qi.l.length->(0<i-> ∀p,st.qi.l[i-1]? =X p->a.l=yY p.cur p.insts.l)->a.l.length<2^60->
  ∃t:M,nX ((st.text.length:Y),a,st.qi,(st.qi.l.length:Y),(i:Y),st)=X (if t=U then .inr ()else .inl V)/\(t=U↔ ∀(r:T) s,i<=r->st.qi.l[r]? =X s->GoodS st r s):=by intro d;induction d with|zero=>intro i a h _ _;rw[nX.eq_1,W v?];exact⟨U,rfl,λ_ r s n hs=>by have:=(qK hs).1;omega,λ_=>rfl⟩|succ d w=>intro i a h y v;obtain⟨s,hs⟩:=gl (l:=st.qi.l) (k:=i) o?;have f:=Hl s (zj hs);have hlen:=KU f s.cur;obtain⟨t,g1,g2⟩:=w (i+1) ⟨(yY s.cur s.insts.l).isEmpty,yY s.cur s.insts.l⟩ o? (λ_ p q=>by rw[E!,hs]at q;cases q;rfl) u?;rw[nX.eq_1,Z v?,A hs,ws o?];simp only[D,J];by_cases c:s.insts.l=[];rw[Z (by simp[c])];refine⟨V,rfl,λh=>(by cases h),λh=>?_⟩;exact K c (h i s (ke _) hs).1;obtain⟨u,m,j⟩:=pmay_L2 st Hl i s hs a y v s.insts.l.length 0 0 o? (λ_=>rfl) (λh=>K h o?);rw[show ((0:T):Y)=0 from rfl]at m;rw[W (by simpa using c),m];simp only[J];cases u with|false=>refine⟨V,rfl,λh=>(by cases h),λh=>?_⟩;have:=j.2 λr x _ e=>(h i s (ke _) hs).2 r x e;cases this|true=>simp only[if_true,Lv s.cur s.insts f.2 f.1,J];refine⟨t,g1,g2.trans ⟨λh r z n b=>?_,λh r z n b=>h r z o? b⟩⟩;by_cases E:r=i;subst E;rw[hs]at b;cases b;exact⟨c,λr x e=>j.1 rfl r x o? e⟩;exact h r z o? b
end
theorem mayP_iff(st:qv):MayP st↔(st.text.length<=65536/\st.qi.l.length<=8/\st.zP.l≠[]/\st.zP.l.length<=64/\Jb st.text.length st.zP.l/\Hs st.zP.l)/\ ∀(r:T) s,st.qi.l[r]? =X s->GoodS st r s:=by constructor;intro h;refine⟨⟨h.text,h.dJ,h.ne,h.Kb,h.Zj,h.Gr⟩,λr s hs=>?_⟩;have d:=h.may s (zj hs);have hl:=h.lies r s hs;exact⟨hl.1,λk x a=>⟨d.may k x a,λb y f=>d.Fq (k-1) k y x o? f a,λb p c=>hl.2 b p c x (zj a)⟩⟩;rintro⟨⟨v,u,t,q,n,m⟩,h⟩;refine⟨v,u,t,q,n,m,λs hs=>?_,λj s hs=>?_⟩;obtain⟨j,e⟩:=kS hs;exact I6 λk x a=>⟨((h j s e).2 k x a).1,((h j s e).2 k x a).2.1⟩;refine⟨(h j s hs).1,λb p c x a=>?_⟩;obtain⟨k,i⟩:=kS a;exact((h j s hs).2 k x i).2.2 b p c
theorem pmay_ok(st:qv)(p: ∀s∈st.qi.l,jY s)(n:st.zP.l.length<2^60)(d:st.qi.l.length<2^60)(f:st.text.length<2^60)(hn:st.zP.nil=U->st.zP.l=[])(hs:N5 st.zP.l): ∃t:M,fm st=X t/\(t=U↔MayP st):=by
 unfold fm;obtain⟨q,co,m,k⟩:=normP_ok (st.text.length:Y) st.zP n hn hs;rw[m];simp only[D,J];rcases k with ⟨rfl,c,b,n5,n6,n7⟩|⟨c,b⟩
 ·by_cases i:st.text.length<=65536
  ·rw[W v?];obtain⟨t,g1,g2⟩:=equal_ok q st.zP o?;rw[g1];simp only[J];by_cases a:Hs st.zP.l/\st.qi.l.length<=8;obtain rfl:t=U:=g2.2 (n6.2 a.1);rw[W v?];obtain⟨u,e,j⟩:=pmay_L0 st p d st.qi.l.length 0 ⟨U,[]⟩ o? (λh=>K h o?) z?;rw[show ((0:T):Y)=0 from rfl]at e;rw[e];refine⟨u,by cases u<;>rfl,j.trans ?_⟩;rw[mayP_iff];exact⟨λh=>⟨⟨i,a.2,c,b,n5,a.1⟩,λr s hs=>h r s o? hs⟩,λh r s _ hs=>h.2 r s hs⟩
   rw[Z (by
    cases f:t with
    |false=>rfl
    |true=>
     have: ¬st.qi.l.length<=8:=λh=>a ⟨n6.1 (g2.1 f),h⟩
     simp;omega)]
   exact⟨V,rfl,λh=>(by cases h),λh=>K ⟨h.Gr,h.dJ⟩ a⟩
  rw[Z v?];exact⟨V,rfl,λh=>(by cases h),λh=>K h.text i⟩
 rw[Z (by simp[c])];exact⟨V,rfl,λh=>(by cases h),λh=>K ⟨h.ne,h.Kb,h.Zj⟩ b⟩
theorem pmay_ref(st:qv)(c: ∀s∈st.qi.l,jY s)(b:st.zP.l.length<2^60)(a:st.qi.l.length<2^60)(d:st.text.length<2^60)(hn:st.zP.nil=U->st.zP.l=[])(hs:N5 st.zP.l): ∃t:M,fm st=X t/\bZ st=X t/\(t=U↔MayP st):=by
 obtain⟨t,h,f⟩:=pmay_ok st c b a d hn hs;obtain⟨u,e,h4⟩:=Us st c b;have:t=u:=by cases t<;>cases u<;>simp_all
 exact⟨t,h,this ▸ e,f⟩
end Xr
namespace Xr
def zfl(i:C):I Y:=⟨V,f? i.stops.l.length (0:Y)⟩
theorem Tx(s:g)(hs:jY s): ∀(r:R C)(a:T)(out:R (I Y)),s.insts.l.drop a=r->out.length=a->vR ((a:Y),s,⟨out.isEmpty,out⟩)=X ⟨(out++r.map zfl).isEmpty,out++r.map zfl⟩:=by intro r;have tv:=hs.1;induction r with|nil=>intro a out h _;have:=zd h;rw[vR.eq_1,W v?];simp|cons i r c=>intro a out h ho;obtain⟨b,d,h3⟩:=zx h;have hi:=hs.2 i (zj b);rw[vR.eq_1,Z v?,A b,ws (k:=a) o?];simp only[D,J];rw[Z o?,Z qC,Z qC];have:=c (a+1) (out++[zfl i]) d v?;rw[show (out++[zfl i]).isEmpty=V from z?]at this;simp only[zfl,X?]at this |-;rw[this];simp[zfl]
theorem V6(s:g)(hs:jY s): ∃f,mS s=X f/\e9 s.insts.l f:=by refine⟨⟨(s.insts.l.map zfl).isEmpty,s.insts.l.map zfl⟩, ?_,z?,z?,λa i f hi b=>?_⟩;unfold mS;have:=Tx s hs s.insts.l 0 [] rfl rfl;exact tW;simp only[Y?,hi,Option.map_some,wO]at b;subst b;refine⟨by simp[zfl],λ_=>rfl,λv c=>?_⟩;have:=(R.mem_replicate.1 c).2;omega
theorem begin_L0(st:qv)(hs: ∀s∈st.qi.l,jY s)(Ay:st.qi.l.length<=16)(q:R qm)(e:R g)(w:qa): ∀(r:R g)(i:T)(out:R (I (I Y))),st.qi.l.drop i=r->out.length=i->
  ∃a:R (I (I Y)),bu ((i:Y),st,q,e,w,⟨out.isEmpty,out⟩)=X ⟨(out++a).isEmpty,out++a⟩/\a.length=r.length/\ ∀(j:T) s f,r[j]? =X s->a[j]? =X f->e9 s.insts.l f:=by intro r;induction r with|nil=>intro i out h _;have:=zd h;rw[bu.eq_1,W v?];exact⟨[],z?,rfl,λj s f hs=>by simp at hs⟩|cons s r n=>intro i out h ho;obtain⟨d,p,h3⟩:=zx h;obtain⟨f,f1,f2⟩:=V6 s (hs s (zj d));rw[bu.eq_1,Z v?,A d,ws (k:=i) o?];simp only[D,J,f1];rw[Z qC];obtain⟨a,g1,g2,g3⟩:=n (i+1) (out++[f]) p v?;rw[show (out++[f]).isEmpty=V from z?]at g1;refine⟨f::a, ?_,by simp[g2],λj m t b c=>?_⟩;rw[show (⟨f.nil,f.l⟩:I (I Y))=f from rfl,g1];simp;cases j with|zero=>simp only[i?,wO]at b c;subst b c;exact f2|succ j=>exact g3 j m t (by simpa using b) (by simpa using c)
structure ux (st:qv):Prop where
 may:MayP st
 small: ∀s∈st.qi.l,jY s
 stop: ∀s∈st.qi.l,∀ i∈s.insts.l,∀ x∈i.stops.l,rA x
 YQ: ∀s∈st.qi.l,yY s.cur s.insts.l≠[]
 qn:st.zP.nil=V
theorem T7(st:qv)(h:ux st): ∃fl,cT st=X (st.text,⟨V,st.zP.l⟩,st.qi.l,fl)/\WK (st.text,⟨V,st.zP.l⟩,st.qi.l,fl):=by have h8:=h.may.dJ;have a:=h.may.Kb;have d:=h.may.text;obtain⟨b,g1,g2,g3⟩:=begin_L0 st h.small o? st.zP.l st.qi.l st.text st.qi.l 0 [] rfl rfl;rw[show ((0:T):Y)=0 from rfl]at g1;simp only[R.isEmpty_nil,M?]at g1;refine⟨⟨b.isEmpty,b⟩, ?_,⟨⟨u?,h.may.ne,rfl,a,h.may.Gr,h.may.Zj,u?,h.small,h.may.may,g2,λc=>?_,g3,h.stop⟩,d⟩⟩;unfold cT;rw[Z qC,Z qC,g1];rfl;exact tW
theorem sum_fit{n:T}{es:R qf}(hn:n<=65536)(hl:es.length<=2^19)(h:Y0 n es)(h2:(n:Y)+dO es<=65536):wa es<=2^36:=by have h3:=sumT_sp o? es h.Zj;have h4:es.length*n<=2^19*65536:=w_ hl hn;exact tW
def Less(st a :qv):Prop:=Curs st.qi.l a.qi.l
theorem Tp(st:qv)(h:ux st)(es:I qf)(hl:es.l.length<=2^19)(hT:wa es.l<=2^60):qL (dC st es) (λv=>v.2≠0\/v.2=0/\ux v.1/\Less st v.1):=by
 have F:=h.may.text;have h8:=h.may.dJ;obtain⟨t,m1,m2⟩:=Us st h.small (by have:=h.may.Kb;omega);obtain rfl:=m2.2 h.may;unfold dC;refine .go m1 ?_;rw[W z?];refine .bind (E6 (st.text.length:Y) o? es hl hT) λc hc=>?_;refine .ite (λq=> .ret (.inl (by simpa using q))) λq=>?_;obtain⟨e1,e2⟩:=hc (by simpa using q);have n:wa es.l<=2^36:=sum_fit F hl e1 e2;obtain⟨fl,b1,b2⟩:=T7 st h;refine .go b1 ?_;refine .bind (az (st.text,⟨V,st.zP.l⟩,st.qi.l,fl) b2.ok F es e1 n hl) λw e=>?_;have i:=e.text;refine .bind (Uw w ⟨e.ok,by simp only at i;omega⟩) λu hu=>?_;refine .ite (λp=> .ret (.inl (by simpa using p))) λp=>?_;rcases hu with hu|⟨_,hu,d⟩;exact K (by simpa using p) hu;have L: ∀y,Fin u.2.1.length u.2.2.2.1 y->ux ⟨u.2.1,u.2.2.1,⟨V,y⟩⟩/\Less st ⟨u.2.1,u.2.2.1,⟨V,y⟩⟩:=by intro y a;have OD:=d.len;have m:=e.len;have W0:=a.YQ.1;simp only at OD m W0;refine⟨⟨⟨hu.text,u?,hu.ok.ne,hu.ok.Kb,hu.ok.Zj,hu.ok.Gr,a.ok.may,λj s hs=>?_⟩,a.ok.small,a.ok.stop,λs hs=>?_,hu.ok.qn⟩,⟨u?,λj Q ZC=>?_⟩⟩;have:=a.closed j s (qK hs).1 hs;exact⟨this.1,this.2.2⟩;obtain⟨j,H⟩:=kS hs;exact(a.closed j s (qK H).1 H).2.1;obtain⟨s2,z,k2⟩:=a.YQ.2 j Q ZC;obtain⟨r,x⟩:=gl (l:=w.2.2.1) (k:=j) (by have h9:j<u.2.2.2.1.length:=(qK z).1;omega);obtain⟨s3,k4,k5⟩:=d.cur j r x;have f :u.2.2.2.1[j]? =X s2:=z;have b :u.2.2.2.1[j]? =X s3:=k4;rw[f]at b;cases b;obtain⟨P,k6,k7⟩:=e.cur j r x;exact⟨P,k6,k2.trans (k5.trans k7)⟩
 refine .bind (Gu u.2 hu.ok) λv E=>?_;rcases v with y|y;exact .ret (.inr ⟨rfl,L y E⟩);exact .ret (.inr ⟨rfl,L y E⟩)
end Xr
namespace Xr
def M4(s:g):g:=⟨s.cur,⟨(s.insts.l.map VS).isEmpty,s.insts.l.map VS⟩⟩
theorem Lc{s:g}(h:jY s):jY (M4 s):=by refine⟨by simpa[M4]using h.1,λi hi=>?_⟩;simp only[M4,B?]at hi;obtain⟨j,a,rfl⟩:=hi;exact h.2 j a
theorem UH(q:I qm)(h:q.l.length<=64)(hn:q.nil=V):wy q=X (.inr q.l):=by unfold wy;rw[hn,W z?,Z qC]
theorem pbeg_ok(st:qv)(h:ux st): ∃fl:R qN,dg st=X (st.text,⟨V,st.zP.l⟩,fl)/\fl.length<=8/\ ∀w∈fl,∃ s∈st.qi.l,w.mD=M4 s:=by
 have h8:=h.may.dJ;have loop: ∀(r:R g)(k:T)(out:R qN),st.qi.l.drop k=r->out.length=k-> ∃fl:R qN,uA (st.qi,(st.qi.l.length:Y),(k:Y),st,st.text,⟨V,st.zP.l⟩,out)=X (out++fl)/\fl.length=r.length/\ ∀w∈fl,∃ s∈r,w.mD=M4 s:=by intro r;induction r with|nil=>intro k out a _;have:=zd a;rw[uA.eq_1,W v?];exact⟨[],z?,rfl,z?⟩|cons s r d=>(intro k out a ho;obtain⟨g1,g2,g3⟩:=zx a;have b:=zj g1;obtain⟨m,p,b2⟩:=Lj s (h.small s b) (λi hi x e=>stopC_of (h.stop s b i hi x e));rw[uA.eq_1,Z v?,A g1,ws o?];have f:mK s st.text ⟨V,st.zP.l⟩ out=X (out++[⟨M4 s,⟨m.isEmpty,m⟩⟩]):=by unfold mK;rw[p];simp only[D,J];rw[Z qC];rfl);obtain⟨fl,f1,f2,f3⟩:=d (k+1) (out++[⟨M4 s,⟨m.isEmpty,m⟩⟩]) g2 v?;simp only[D,J,f];rw[f1];refine⟨⟨M4 s,⟨m.isEmpty,m⟩⟩::fl,z?,by simp[f2],λw hw=>?_⟩;rcases K?.1 hw with rfl|hw;exact⟨s,z?,rfl⟩;obtain⟨c,n,j⟩:=f3 w hw;exact⟨c,by simp[n],j⟩
 obtain⟨fl,f1,f2,f3⟩:=loop st.qi.l 0 [] rfl rfl;rw[show ((0:T):Y)=0 from rfl,M?]at f1;unfold dg;rw[UH st.zP h.may.Kb h.qn];simp only[D,J,f1];exact⟨fl,rfl,o?,f3⟩
theorem Ln(es:I qf)(b:qa)(q:I qm): ∀(n:T)(nl:M)(fl:R qN),fl.length=n->n<=8->(∀ w∈fl,kU w.mD es=X V)-> ∃a,jU (es,⟨b,q,⟨nl,fl⟩⟩)=X ⟨b,q,⟨a,[]⟩⟩:=by intro n;induction n with|zero=>(intro nl fl h _ _;have:fl=[]:=by simpa using h);subst this;rw[jU.eq_1,W z?];exact⟨nl,rfl⟩|succ n i=>intro nl fl h h8 hs;obtain⟨w,e⟩:=gl (l:=fl) (k:=n) o?;rw[jU.eq_1,Z (by simp only[N];omega)];simp only;rw[show q?.wrap ((fl.length:Y)-1)=(n:Y)from by rw[qy o? o?];omega,A e];simp only[D,J,hs w (zj e)];rw[Z z?];obtain⟨r,f,c,r3⟩:=qL.wo (l:=fl) (hi:=(n:Y)) o? o?;rw[f];simp only[J];rw[show (n:Y).toNat=n from o?]at c;exact i nl r o? o? (λx d=>hs x (U? (by rw[c]at d;exact d)))
theorem pleave(es:I qf)(b:qa)(q:I qm)(fl:R qN)(h8:fl.length<=8)(hs: ∀w∈fl,kU w.mD es=X V):
  ua es b q fl=X (.inr ())/\fl=[]\/ ∃nl,ua es b q fl=X (.inl ⟨b,q,⟨nl,[]⟩⟩):=by
 unfold ua nj;by_cases c:fl=[];subst c;rw[W z?];exact .inl ⟨rfl,rfl⟩;have hp:=R.length_pos_iff.2 c;obtain⟨w,d⟩:=gl (l:=fl) (k:=fl.length-1) o?;obtain⟨r,f,e,r3⟩:=qL.wo (l:=fl) (hi:=((fl.length-1:T):Y)) o? o?;have h: ∀x∈r,x∈fl:=λx a=>by rw[e]at a;exact U? a
 obtain⟨nl,i⟩:=Ln es b q r.length V r rfl o? (λx a=>hs x (h x a));refine .inr ⟨nl, ?_⟩;rw[Z (by simp only[N];omega),show q?.wrap ((fl.length:Y)-1)=((fl.length-1:T):Y)from by rw[qy o? o?];omega,A d];simp only[D,J,hs w (zj d)];rw[Z z?,f];simp only[J,i]
theorem prepeat0:wA ⟨V,[((-1:Y),(-1:Y))]⟩ 0=X []:=by unfold wA a7 cm;rfl
theorem play_ok(e:qf)(b:qa)(hb:b.length<=2^30)(c:uX e b.length)(ht:e.text.length<=60)(q:I qm)(n:X0 b.length q)(nl:M): ∃a,r9 q [e]=X a /\X0 (newText b e).length a /\
  tA (-1) (-1) (-1) e U ⟨b,q,⟨nl,[]⟩⟩=X ⟨newText b e,a,⟨nl,[]⟩⟩/\nr (-1) (-1) (-1) e U b q []=X (newText b e,a):=by
 have:=c.a0;have:=c.ab;have:=c.bn;obtain⟨a,h,f⟩:=Lo e b.length c q n;rw[<- Xp b e c]at f;obtain⟨r,m,k,r3⟩:=qL.wo (l:=b) (hi:=e.span.qG) o? o?;obtain⟨u,j,i,u3⟩:=qL.nR (l:=b) (lo:=e.span.to) o? o?;have d:(r++e.text)++u=newText b e:=by rw[k,i];rfl
 refine⟨a,h,f, ?_, ?_⟩;all_goals
  first|unfold tA|unfold nr
  simp only[r?];rw[show ((0:T):Y)=0 from rfl,prepeat0];simp only[D,J];rw[W (by decide)];first|unfold pw|unfold nu
  rw[W (by decide)];simp only[J];rw[m];simp only[J];rw[Z o?,j];simp only[J];rw[Z (by rw[p?];omega),h];simp only[J,d]
def mvs:I qm->R qf->Option (I qm)
 |q,[]=>X q
 |q,e::r=>r9 q [e]>>=λa =>mvs a r
theorem edit_in{s:qa}(hs:s.length<=65536){E:R qf}(k:Gj s.length E)(hl:E.length<20)(m: ∀e∈E,e.text.length<=60){l:R qf}{e:qf}{r:R qf}(h:E=l++e::r):uX e (VA s r).length/\(VA s r).length<=2^30:=by
 have p:e∈E:=by rw[h];simp
 obtain⟨i1,i2,i3⟩:=k.Zj e p;have eg:=m e p;have n:=k.apart;rw[h,R.pairwise_append]at n;obtain⟨j,f⟩:=C?.1 n.2.1;have i: ∀x∈r,0<=x.span.qG/\x.span.qG<=x.span.to/\x.span.to<=s.length:=λx d=>k.Zj x (by rw[h];simp[d]);have h1:=bck_len s r e.span.to.toNat i f (λx d=>by have:=j x d;omega) o?;have h2:=bck_up s r i f;have u: ∀(l:R qf),(∀ x∈l,x.text.length<=60)->wa l<=60*l.length:=by intro l;induction l with|nil=>intro _;simp[wa]|cons x l q=>(intro d;have a:=q λy t=>d y (by simp[t]);have b:=d x z?;have c:wa (x::l)=x.text.length+wa l:=by simp[wa]);simp only[b?];omega
 have h4:=u r λx d=>m x (by rw[h];simp[d]);have h5:r.length<=E.length:=by rw[h];simp;omega
 exact⟨⟨i1,i2,o?,o?,o?⟩,o?⟩
theorem pedit_L0(s:qa)(hs:s.length<=65536)(E:R qf)(hE:Gj s.length E)(hl:E.length<20)(m: ∀e∈E,e.text.length<=60)(nl:M): ∀(l r:R qf)(q:I qm),E=l++r->X0 (VA s r).length q->
  ∃b,mvs q l.reverse=X b /\X0 (VA s E).length b /\jz ((E.length:Y),(r.length:Y),⟨VA s r,q,⟨nl,[]⟩⟩,E.reverse)=X ⟨VA s E,b,⟨nl,[]⟩⟩/\
   jj ((E.length:Y),(r.length:Y),VA s r,q,[],E.reverse)=X (VA s E,b):=by intro l;induction h:l.length generalizing l with|zero=>(intro r q i j;have:l=[]:=by simpa using h);(subst this;have k:E=r:=by simpa using i);subst k;rw[jz.eq_1,W z?,jj.eq_1,W z?];exact⟨q,rfl,j,rfl,rfl⟩|succ n H=>(intro r q i j;obtain⟨a,e,rfl⟩: ∃a e,l=a ++[e]:=by rcases l.eq_nil_or_concat with c|⟨a,e,c⟩;rw[c]at h;simp at h;exact⟨a,e,by simpa using c⟩);(have d:E=a ++e::r:=by rw[i];simp);(obtain⟨P,Q⟩:=edit_in hs hE hl m d;have L:e∈E:=by rw[d];simp);(obtain⟨b,F,z,y,x⟩:=play_ok e (VA s r) Q P (m e L) q j nl;obtain⟨f,w,v,u,t⟩:=H a (by simpa using h) (e::r) b d z;have hEl:E.length=a.length+1+r.length:=by rw[d];simp;omega);(have p:qk E.reverse (r.length:Y)=X e:=by refine A ?_;rw[d,L',q15,R.append_assoc,R.getElem?_append_right z?,R.length_reverse];simp);refine⟨f,by rw[L'];simp only[q15,R.reverse_nil,M?,R.cons_append,mvs,F];exact w,v, ?_, ?_⟩;rw[jz.eq_1,Z (by simp only[N];omega),p,ws o?];simp only[D,J,r?,show q?.wrap (((0:T):Y)-1)= -1 from by decide];rw[W (by decide),y];simp only[J];exact u;rw[jj.eq_1,Z (by simp only[N];omega),p,ws o?];simp only[D,J,r?,show q?.wrap (((0:T):Y)-1)= -1 from by decide];rw[W (by decide),x];simp only[J];exact t
end Xr
namespace Xr
theorem wi{n:Int}(h: -9223372036854775808<=n:=by omega)(h2:n<=9223372036854775807:=by omega):IntKind.i64.wrap n=n:=qy h h2
def isB(b:UInt8):M:=(b.toNat:Y)==10
def Y1(s:qa):T:=s.countP isB
theorem Cu(s:qa):Y1 s<=s.length:=R.countP_le_length
theorem brk_cons(b:UInt8)(s:qa):(Y1 (b::s):Y)=Y1 s+if isB b=U then 1 else 0:=by unfold Y1;rw[S!];split<;>simp
structure Ad (i:T) (t:zi):Prop where
 a:0<=t.bytes/\t.bytes<=i
 b:0<=t.breaks/\t.breaks<=i
 c:0<=t.oq/\t.oq<=i
 d:0<=t.eD/\t.eD<=2*i
theorem of_L0(s:qa)(hs:s.length<=2^40)(t2:zi): ∀(r:qa)(i:T)(t:zi),s.drop i=r->i+r.length=s.length->Ad i t->
  qL (vS (s,(i:Y),t2,t)) (λv=>v.breaks=t.breaks+Y1 r/\Ad s.length v):=by intro r;induction r with|nil=>intro i t h hi e;have:=zd h;rw[vS.eq_1,W v?];simp only[r?,T.add_zero]at hi;exact .ret ⟨by simp[Y1],hi ▸ e⟩|cons b r j=>intro i t h hi e;simp only[b?]at hi;obtain⟨m,l,h3⟩:=zx h;have⟨p1,p2⟩:=e.a;have⟨p3,p4⟩:=e.b;have⟨p5,p6⟩:=e.c;have⟨p7,p8⟩:=e.d;rw[vS.eq_1,Z v?,ws o?];refine .go (A m) ?_;rw[wi (n:=t.bytes+1),wi (n:=t.breaks+1),wi (n:=t.oq+1),wi (n:=t.eD+1),wi (n:=t.eD+1+1)];have k:=brk_cons b r;refine .ite (λc=>?_) λc=>?_;{rw[Z (show isB b=U from c)]at k;refine .bind (Go.Proofs.YtadahlbndbmdeaaGreat.az b) λv _=>?_;refine .ite (λ_=>x_ (λ_=>?_) λ_=>?_) λ_=>x_ (λ_=>?_) λ_=>?_;all_goals exact .mono (j (i+1) _ l (by omega) ⟨by simp only;omega,by simp only;omega,by simp only;omega,by simp only;omega⟩) λv f=>⟨by have:=f.1;simp only at this;omega,f.2⟩};rw[W (show ¬isB b=U by unfold isB;simp[c])]at k;refine .bind (Go.Proofs.YtadahlbndbmdeaaGreat.az b) λv _=>?_;refine .ite (λ_=>x_ (λ_=>?_) λ_=>?_) λ_=>x_ (λ_=>?_) λ_=>?_;all_goals exact .mono (j (i+1) _ l (by omega) ⟨by simp only;omega,by simp only;omega,by simp only;omega,by simp only;omega⟩) λv f=>⟨by have:=f.1;simp only at this;omega,f.2⟩
theorem WD(s:qa)(hs:s.length<=2^40):qL (Zn s) (λv=>v.breaks=Y1 s/\Ad s.length v):=by unfold Zn;refine .bind (of_L0 s hs _ s 0 ⟨0,0,0,0⟩ rfl z? ⟨z?,z?,z?,z?⟩) λv a=>?_;exact .ret ⟨by have:=a.1;simp only at this;omega,a.2⟩
theorem by_tot(t:zi)(n:T)(h:Ad n t):qL (mH t 1) (λv=>0<=v/\v<=n):=by unfold mH;rw[W (by decide),Z (by decide)];exact .ret h.c
theorem Cr(s:qa)(hs:s.length<=2^40)(off:Y):qL (eJ s off) (λv=>(v.2=0/\0<=off/\off<=s.length/\v.1=Y1 (s.take off.toNat))\/(v.2≠0/\v.1=0/\ ¬(0<=off/\off<=s.length))):=by unfold eJ;refine .ite (λc=> .ret (.inr ⟨by decide,rfl, ?_⟩)) λc=>?_;simp only[w!,N]at c;omega;simp only[w!,N,not_or]at c;refine .bind .wo λr b=>?_;obtain⟨rfl,h2⟩:=b;refine .bind (WD _ (by rw[R.length_take];omega)) λv a=>?_;exact .ret (.inl ⟨rfl,o?,o?,a.1⟩)
def Vr:qa->T->R Y
 |[],_=>[]
 |b::r,i=>if isB b=U then((i+1:T):Y)::Vr r (i+1)else Vr r (i+1)
theorem q0q(s:qa)(hs:s.length<=2^28): ∀(r:qa)(i:T)(l:R Y),s.drop i=r->l.length<=i+1->yW (s,(i:Y),l)=X (l++Vr r i):=by intro r;induction r with|nil=>intro i l h _;have:=zd h;rw[yW.eq_1,W v?];simp[Vr]|cons b r a=>intro i l h hl;obtain⟨e,d,h3⟩:=zx h;rw[yW.eq_1,Z v?,A e,ws o?];simp only[D,J];by_cases c:isB b=U;rw[Z (show ((b.toNat:Y)==10)=U from c),Z qC,a (i+1) _ d v?];simp[Vr,c];rw[W (show ¬((b.toNat:Y)==10)=U from c),a (i+1) _ d o?];simp[Vr,c]
theorem BX(s:qa)(hs:s.length<=2^28):rS s=X ⟨V,0::Vr s 0⟩:=by unfold rS;rw[show (0:Y)=((0:T):Y)from rfl,q0q s hs s 0 _ rfl z?];simp
theorem st4_len: ∀(r:qa)(i:T),(Vr r i).length=Y1 r:=by intro r;induction r with|nil=>intro i;rfl|cons b r a=>intro i;simp only[Vr,Y1,S!];split;simp only[b?,a];rfl;simp only[a];rfl
theorem FK: ∀(r:qa)(i:T),∀ x∈Vr r i,(i:Y)<x/\x<=i+r.length:=by intro r;induction r with|nil=>intro i x h;simp[Vr]at h|cons b r a=>intro i x h;simp only[Vr]at h;simp only[b?];split at h;rcases K?.1 h with rfl|h;omega;have:=a (i+1) x h;omega;have:=a (i+1) x h;omega
theorem st4_pair: ∀(r:qa)(i:T),(Vr r i).Pairwise (· < ·):=by intro r;induction r with|nil=>intro i;simp[Vr]|cons b r a=>intro i;simp only[Vr];split;refine C?.2 ⟨λx c=>?_,a (i+1)⟩;have:=FK r (i+1) x c;omega;exact a (i+1)
theorem st4_at: ∀(r:qa)(i n k:T)(x:Y),k<Y1 (r.take n)->(Vr r i)[k]? =X x->x<=i+n:=by intro r;induction r with|nil=>intro i n k x h;simp[Y1]at h|cons b r d=>intro i n k x h a;cases n with|zero=>simp[Y1]at h|succ n=>simp only[Vr]at a;simp only[R.take_succ_cons,Y1,S!]at h;split at a;(rename_i c;rw[Z c]at h;cases k with|zero=>simp only[i?,wO]at a;omega|succ k=>have:=d (i+1) n k x (by unfold Y1;omega) (by simpa using a);omega);rename_i c;rw[W c]at h;have:=d (i+1) n k x (by unfold Y1;omega) a;omega
theorem Dm(s:qa):(0::Vr s 0).Pairwise (λa b:Y=>a<b):=C?.2 ⟨λx c=>by have:=FK s 0 x c;omega,st4_pair s 0⟩
theorem Rb(s:qa): ∀x∈(0::Vr s 0:R Y),0<=x/\x<=s.length:=by intro x hx;rcases K?.1 hx with rfl|hx;omega;have:=FK s 0 x hx;omega
theorem XN(s:qa)(hs:s.length<=2^28)(line:Y): ∃a b c:Y,bF s line=X (a,c)/\dG s line=X (b,c)/\0<=a/\a<=b/\b<=s.length/\
  (0<=line->line<=Y1 s->c=0)/\(∀ n:T,line=Y1 (s.take n)->a<=n):=by
 have hbl:=Cu s;have hL:((0::Vr s 0:R Y).length:Y)=Y1 s+1:=by simp[st4_len]
 unfold bF dG;rw[BX s hs];simp only[D,J];by_cases c:0<=line/\line<Y1 s+1;(obtain⟨k,rfl⟩: ∃k:T,line=k:=⟨line.toNat,o?⟩;obtain⟨x,e⟩:=gl (l:=(0::Vr s 0:R Y)) (k:=k) o?;have d:=Rb s x (zj e);have p: ∀n:T,(k:Y)=Y1 (s.take n)->x<=n:=by intro n hn;cases k with|zero=>simp only[i?,wO]at e;omega|succ k=>have:=st4_at s 0 n k x o? (by simpa using e);omega);(have e1:(decide ((k:Y)<0) || decide ((k:Y)>=((0::Vr s 0:R Y).length:Y)))=V:=by simp only[M.or_eq_false_iff,decide_eq_false_iff_not];omega);rw[e1];simp only[vH,if_false];rw[A e,ws o?];simp only[J];by_cases q:k+1<(0::Vr s 0:R Y).length;(obtain⟨y,f⟩:=gl (l:=(0::Vr s 0:R Y)) (k:=k+1) q;have hyi:=Rb s y (zj f);have jv:x<y:=by obtain⟨m,i⟩:=qK e;obtain⟨j,h⟩:=qK f;have:=t!.1 (Dm s) k (k+1) m j o?;rw[i,h]at this;exact this);rw[Z (by simp only[N];omega),A f];simp only[J];rw[wi (n:=y-1)];exact⟨x,y-1,0,rfl,rfl,d.1,o?,o?,λ_ _=>rfl,p⟩;rw[W (by simp only[N];omega)];exact⟨x,s.length,0,rfl,rfl,d.1,o?,o?,λ_ _=>rfl,p⟩;have e1:(decide (line<0) || decide (line>=((0::Vr s 0:R Y).length:Y)))=U:=by simp only[w!,N];omega
 rw[e1];simp only[if_true];exact⟨0,0,3,rfl,rfl,o?,o?,o?,λm j=>o?,λn hn=>o?⟩
theorem H9(s:qa)(n:T):Y1 (s.take n)<=Y1 s:=R.Sublist.countP_le (R.take_sublist n s)
theorem Lk(s:qa)(hs:s.length<=2^28)(off:Y)(j:0<=off)(i:off<=s.length):qL (o7 s off 1) (λv=>v.1=Y1 (s.take off.toNat)/\0<=v.2.1):=by unfold o7;refine .go (a:=U) (by unfold eX;simp) ?_;rw[W z?];refine .bind (Cr s o? off) λv d=>?_;rcases d with ⟨e,_,_,d⟩|⟨_,_,d⟩;rotate_left;exact K ⟨j,i⟩ d;rw[W (by simp[e])];have hb:=H9 s off.toNat;obtain⟨a,b,c,g1,_,g3,_,_,g4,g5⟩:=XN s hs v.1;refine .go g1 ?_;have:=g5 off.toNat d;refine .bind (qL.wz o? u? o?) λr h=>?_;have k:=h.2;refine .bind (WD r (by simp only at k;omega)) λw f=>?_;refine .bind (by_tot w _ f.2) λu hu=>?_;exact .ret ⟨d,hu.1⟩
theorem upto_tot(s:qa)(hs:s.length<=2^28)(n:Y)(hn:0<=n):qL (QC s 1 n) (λv=>0<=v/\v<=s.length):=by
 have loop: ∀(d k:T)(B:Y),k+d=s.length->0<=B->B<=k->qL (pQ (s,1,n,B,(k:Y))) (λv=>match v with| .inl y=>0<=y/\y<=s.length| .inr _=>True):=by intro d;induction d with|zero=>intro k B h _ _;rw[pQ.eq_1,W v?];exact .ret trivial|succ d a=>intro k B h m0 m1;rw[pQ.eq_1,Z v?,ws o?];refine .bind .wz λr e=>?_;have AL:=e.2;refine .bind (WD r o?) λw b=>?_;refine .bind (by_tot w _ b.2) λu hu=>?_;rw[wi (n:=B+u)];refine .ite (λ_=> .ret ⟨o?,o?⟩) λ_=>a (k+1) _ o? o? o?
 unfold QC;rw[W v?];refine .bind (loop s.length 0 0 o? o? o?) λv c=>?_;rcases v with v|v;exact .ret c;exact .ret ⟨o?,o?⟩
theorem UA(s:qa)(hs:s.length<=2^28)(line d:Y)(f:0<=d):qL (cV s line d 1) (λv=>0<=v.1/\v.1<=s.length):=by unfold cV;refine .go (a:=U) (by unfold eX;simp) ?_;rw[W z?];obtain⟨a,b,c,g1,g2,g3,g4,g5,_⟩:=XN s hs line;refine .go g1 ?_;refine .ite (λ_=> .ret ⟨u?,u?⟩) λ_=>?_;refine .go g2 ?_;refine .bind (qL.wz u? u? u?) λr e=>?_;have h:=e.2;simp only at h |-;refine .bind (upto_tot r o? d f) λu hu=>?_;rw[wi (n:=a+u)];exact .ret ⟨u?,u?⟩
end Xr
end Go.Proofs.YtadahlbndbmdeaaGreat
