/-
  FollowPlain: where no session stays.
-/
import Derived.Test.YtadahlbndbmdeaaGreatQay
import Derived.Test.YtadahlbndbmdeaaGreatQav
import Derived.Test.YtadahlbndbmdeaaGreatQax
open Bool renaming true->K
open Option renaming some->T
open _root_ renaming Int->Z,List->Y,decide_eq_true_eq->X,if_neg->V,Nat->U,if_pos->R,absurd->N
open Go.IntKind renaming i64->q?,u64->h?,signed->O',wrap->q11,bits->q12
open Go.Proofs.YtadahlbndbmdeaaGreat.qL renaming ite->x_,mono->U_,go->J',bind->Y',zY->q13
open Int renaming toNat_natCast->X?,add_assoc->H_
open List renaming length_cons->b?,length_append->p?,mem_append->t?,length_nil->r?,getElem?_append_left->c?,mem_singleton->d?,map_cons->e?,getElem?_cons_zero->i?,getElem?_cons_succ->Q?,getElem?_append_right->J?,mem_cons->K?,mem_map->B?,nil_append->M?,length_pos_iff->I?,length_singleton->u!,sum_cons->g!,take_of_length_le->l!,append_assoc->M!,getElem?_set->P!,length_map->j_,reverse_nil->u_,getElem?_set_self->e_,set_append_right->Z_,take_sublist_take_left->A_,Sublist->q1z
open Nat renaming strongRecOn->s?,sub_self->q20
open Relation renaming TransGen->E?
set_option linter.unusedSimpArgs false
set_option linter.unusedVariables false
namespace Go.Proofs.YtadahlbndbmdeaaGreat
open Go Go.Gm
theorem on_out10{A B C D E F G H I J:Type}{o:Option (A×B×C×D×E×F×G×H×I×J)}{Q:A×B×C×D×E×F×G×H×I×J->Prop}(h:qL o Q):
  qL (o>>=λv=>T (v.1,v.2.1,v.2.2.1,v.2.2.2.1,v.2.2.2.2.1,v.2.2.2.2.2.1,v.2.2.2.2.2.2.1,v.2.2.2.2.2.2.2.1,v.2.2.2.2.2.2.2.2.1,v.2.2.2.2.2.2.2.2.2)) Q:=Y' h λv a=> .ret a
section
variable {env:Sl qz} {lead unit:qa} {P:Y Pt} {ds:Y Z} {nm:Y qa}
def OfQ(env:Sl qz)(lead unit:qa)(P:Y Pt)(ds:Y Z)(nm:Y qa)(i:U)(x:Pt)(ns:Y Z)(ts:Y qa)(v:qa×Z×Sl qz×qa×qa×Y Pt×Y Z×Y qa×Y Z×Y qa):Prop:=
 v.1.length<=17592186044416/\(v.2.1=0-> ∃a b,v.2.2=(env,lead,unit,P,ds,nm,ns++a,ts++b)/\mF P (ns++a) (ts++b)/\(∀ m∈a,x.kind=1/\(m=x.n\/E? (Holds P) x.n m))/\Val P (ns++a) (ts++b) i v.1)
def TextQ(env:Sl qz)(lead unit:qa)(P:Y Pt)(ds:Y Z)(nm:Y qa)(n:Z)(ns:Y Z)(ts:Y qa)(v:qa×Z×Sl qz×qa×qa×Y Pt×Y Z×Y qa×Y Z×Y qa):Prop:=
 v.2.1=0-> ∃a b,v.2.2=(env,lead,unit,P,ds,nm,ns++a,ts++b)/\mF P (ns++a) (ts++b)/\(∀ m∈a,E? (Holds P) n m)/\Txt P (ns++a) (ts++b) n v.1/\v.1.length<=65536
theorem WD(hP:Good P)(hN:N2 P)(i:U)(x:Pt)(l:P[i]? =T x)(ns:Y Z)(ts:Y qa)(s:mF P ns ts)
  (z:x.kind=1->qL (uM (x.n,env,lead,unit,P,ds,nm,ns,ts)) (TextQ env lead unit P ds nm x.n ns ts)):
  qL (jM ((i:Z),env,lead,unit,P,ds,nm,ns,ts)) (OfQ env lead unit P ds nm i x ns ts):=by have hl:=hP.len;have M:=(qK l).1;have u:=zj l;have B:=hP.ok x u;have mw:=s.UO;have hlen:=s.len;rw[jM.eq_1];refine .go (a:=x) (by rw[xQ M];simpa[yc M]using l) ?_;refine .tI ?_ ?_<;>intro c;have j:=c;refine .bind (Rd x.n ns ts o? hlen) λv W=>?_;refine .tI ?_ ?_<;>intro c;(have NF:=c;have hn:x.n∉ns:=by rcases W with ⟨_,h⟩|⟨k,t,rfl,_⟩;exact h;omega);refine .bind (z j) λw hw=>?_;refine .tI ?_ ?_<;>intro c;exact .ret ⟨z?,λh=>N h c⟩;(have y:=c;obtain⟨a,b,e,D,L,J,I⟩:=hw y;obtain⟨o,w2,w3⟩:=w;simp only at e J I y;subst e;have A:x.n∉ns++a:=by intro h;rcases t?.1 h with h|h;exact hn h;exact hN _ (L _ h));(have C:=D.more A (B?.2 ⟨x,u,rfl⟩) J I;have r2:=D.UO;have Q:=D.len;simp only;refine .zY (by simp only[ql,xn,X];omega) ?_;refine .zY (by simp only[ql,xn,X];omega) ?_;have e1:q?.wrap (((ts++b++[o]).length:Z)-1)=((ts++b).length:Z):=by simp only[p?,b?,r?]at r2 Q |-;rw[wr o? o?];omega);(rw[e1];refine .go (Kt (ts++b) [] o) ?_;have f:=J4.new Q A o;have q: ∀m∈a++[x.n],x.kind=1/\(m=x.n\/E? (Holds P) x.n m):=by intro m hm;rcases t?.1 hm with hm|hm;exact⟨j,.inr (L m hm)⟩;simp only[d?]at hm;exact⟨j,.inl hm⟩);refine .tI ?_ ?_<;>intro c;have d:=c;obtain⟨r,p,hq⟩:=oO x.qZ B.qZ o o? 20000;refine .go p ?_;refine .ret ⟨?_,λg=>⟨a++[x.n],b++[o],z?,by simpa using C,q,x,o,l,λ_=>by simpa using f,λh=>N j h,λh=>(by rw[d]at h;cases h),λ_=>⟨r.2.1, ?_⟩⟩⟩;rcases hq with hq|hq;simp only;omega;simp only[hq];omega;rw[p];simp only at g |-;rw[<- g];have d:=c;exact .ret ⟨u?,λg=>⟨a++[x.n],b++[o],z?,by simpa using C,q,x,o,l,λ_=>by simpa using f,λh=>N j h,λ_=>rfl,λh=>(by rw[d]at h;cases h)⟩⟩;have NF:=c;rcases W with ⟨rfl,_⟩|⟨k,t,rfl,hk,H,F⟩;omega;have ht65:=(s.txt _ _ F).2;refine .go (a:=t) (by rw[xQ H];simpa[yc H]using hk) ?_;refine .tI ?_ ?_<;>intro c;have d:=c;obtain⟨r,p,hq⟩:=oO x.qZ B.qZ t o? 20000;refine .go p ?_;refine .ret ⟨?_,λg=>⟨[],[],z?,by simpa using s,z?,x,t,l,λ_=>by simpa using F,λh=>N j h,λh=>(by rw[d]at h;cases h),λ_=>⟨r.2.1, ?_⟩⟩⟩;rcases hq with hq|hq;simp only;omega;simp only[hq];omega;rw[p];simp only at g |-;rw[<- g];have d:=c;exact .ret ⟨u?,λg=>⟨[],[],z?,by simpa using s,z?,x,t,l,λ_=>by simpa using F,λh=>N j h,λ_=>rfl,λh=>(by rw[d]at h;cases h)⟩⟩;have j:=c;refine .tI ?_ ?_<;>intro c;have d:=c;have E:=B.tt d;obtain⟨r,p,hq⟩:=oO x.qZ B.qZ x.text E 20000;refine .go p ?_;refine .ret ⟨?_,λg=>⟨[],[],z?,by simpa using s,z?,x,x.text,l,λh=>N h j,λ_=>rfl,λh=>(by rw[d]at h;cases h),λ_=>⟨r.2.1, ?_⟩⟩⟩;rcases hq with hq|hq;simp only;omega;simp only[hq];omega;rw[p];simp only at g |-;rw[<- g];have d:=c;exact .ret ⟨B.tl,λg=>⟨[],[],z?,by simpa using s,z?,x,x.text,l,λh=>N h j,λ_=>rfl,λ_=>rfl,λh=>(by rw[d]at h;cases h)⟩⟩
abbrev RowR:=(qa×Z×qa×Sl qz×qa×qa×Y Pt×Y Z×Y qa×Y Z×Y qa)⊕(qa×Sl qz×qa×qa×Y Pt×Y Z×Y qa×Y Z×Y qa)
def RowQ(env:Sl qz)(lead unit:qa)(P:Y Pt)(ds:Y Z)(nm:Y qa)(i hi:U)(s:qa)(ns:Y Z)(ts:Y qa):RowR->Prop
 | .inl y=>y.2.1≠0
 | .inr y=> ∃a b t,y=(s++t,env,lead,unit,P,ds,nm,ns++a,ts++b)/\mF P (ns++a) (ts++b)/\(∀ m∈a,∃(j:U)(x:Pt),i<=j/\j<hi/\P[j]? =T x/\x.kind=1/\(m=x.n\/E? (Holds P) x.n m))/\re P (ns++a) (ts++b) i hi t/\(s++t).length<=65536
theorem row2_tot(hP:Good P){up:Z}{i hi:U}(F:tw P up i hi): ∀(s:qa)(ns:Y Z)(ts:Y qa),s.length<=65536->mF P ns ts->
  (∀(j:U)(x:Pt)(ns:Y Z)(ts:Y qa),i<=j->j<hi->P[j]? =T x->mF P ns ts->qL (jM ((j:Z),env,lead,unit,P,ds,nm,ns,ts)) (OfQ env lead unit P ds nm j x ns ts))->
  qL (jC ((hi:Z),s,(i:Z),env,lead,unit,P,ds,nm,ns,ts)) (RowQ env lead unit P ds nm i hi s ns ts):=by induction F with|nil up i=>intro s ns ts hs h c;rw[jC.eq_1,V z?];exact .ret ⟨[],[],[],z?,by simpa using h,z?,.nil _,by simpa using hs⟩|cons up i e hi x d hu p jv hle hk hd ho hr _ I=>intro s ns ts hs h c;have l:=(qK d).1;rw[jC.eq_1,R v?];refine .bind (c i x ns ts (ke _) o? d h) λv o=>?_;refine .tI ?_ ?_<;>intro f;exact .ret f;have q:=f;obtain⟨a,b,e1,C,B,k⟩:=o.2 q;obtain⟨g,v2,v3⟩:=v;have J:=o.1;simp only at e1 k q J;subst e1;simp only;refine .zY o? ?_;refine .tI ?_ ?_<;>intro f;exact .ret (by simp[RowQ]);have hlen:=f;refine .go (a:=x) (by rw[xQ l];simpa[yc l]using d) ?_;rw[p];refine(I (s++g) (ns++a) (ts++b) o? C (λj y ns ts h1 H=>c j y ns ts o? H)).mono λw n=>?_;rcases w with w|w;exact n;obtain⟨a2,b2,t,A,w2,z,u,r⟩:=n;refine⟨a++a2,b++b2,g++t, ?_, ?_, ?_, ?_, ?_⟩;rw[A];simp;simpa using w2;intro m hm;rcases t?.1 hm with hm|hm;exact⟨i,x,ke _,o?,d,B m hm⟩;obtain⟨j,y,j1,E,D⟩:=z m hm;exact⟨j,y,o?,E,D⟩;have:=re.cons i e hi x g t d p (k.app a2 b2) u;simpa using this;simpa using r
theorem row1_tot(hP:Good P){up:Z}{i hi:U}(F:tw P up i hi): ∀(s:qa)(ns:Y Z)(ts:Y qa),s.length<=65536->mF P ns ts->
  (∀(j:U)(x:Pt)(ns:Y Z)(ts:Y qa),i<=j->j<hi->P[j]? =T x->mF P ns ts->qL (jM ((j:Z),env,lead,unit,P,ds,nm,ns,ts)) (OfQ env lead unit P ds nm j x ns ts))->
  qL (vN ((hi:Z),s,(i:Z),env,lead,unit,P,ds,nm,ns,ts)) (RowQ env lead unit P ds nm i hi s ns ts):=by induction F with|nil up i=>intro s ns ts hs h c;rw[vN.eq_1,V z?];exact .ret ⟨[],[],[],z?,by simpa using h,z?,.nil _,by simpa using hs⟩|cons up i e hi x d hu p jv hle hk hd ho hr _ I=>intro s ns ts hs h c;have l:=(qK d).1;rw[vN.eq_1,R v?];refine .bind (c i x ns ts (ke _) o? d h) λv o=>?_;refine .tI ?_ ?_<;>intro f;exact .ret f;have q:=f;obtain⟨a,b,e1,C,B,k⟩:=o.2 q;obtain⟨g,v2,v3⟩:=v;have J:=o.1;simp only at e1 k q J;subst e1;simp only;refine .zY o? ?_;refine .tI ?_ ?_<;>intro f;exact .ret (by simp[RowQ]);have hlen:=f;refine .go (a:=x) (by rw[xQ l];simpa[yc l]using d) ?_;rw[p];refine(I (s++g) (ns++a) (ts++b) o? C (λj y ns ts h1 H=>c j y ns ts o? H)).mono λw n=>?_;rcases w with w|w;exact n;obtain⟨a2,b2,t,A,w2,z,u,r⟩:=n;refine⟨a++a2,b++b2,g++t, ?_, ?_, ?_, ?_, ?_⟩;rw[A];simp;simpa using w2;intro m hm;rcases t?.1 hm with hm|hm;exact⟨i,x,ke _,o?,d,B m hm⟩;obtain⟨j,y,j1,E,D⟩:=z m hm;exact⟨j,y,o?,E,D⟩;have:=re.cons i e hi x g t d p (k.app a2 b2) u;simpa using this;simpa using r
theorem text_tot(k:Good P)(C:N2 P): ∀(M:U)(n:Z),mu P n=M-> ∀(ns:Y Z)(ts:Y qa),mF P ns ts->qL (uM (n,env,lead,unit,P,ds,nm,ns,ts)) (TextQ env lead unit P ds nm n ns ts):=by
 have hl:=k.len;intro M;induction M using s? with
  |_ M ih=>
   intro n hn ns ts z;rw[uM.eq_1];refine .bind (JB n P ds nm hl) λv B=>?_;refine .tI ?_ ?_<;>intro g;have NF:=g;rcases B with ⟨_,h⟩|⟨d,x,rfl,_⟩;exact .ret λ_=>⟨[],[],z?,by simpa using z,z?,.inl ⟨rfl,h⟩,z?⟩;omega;have NF:=g;rcases B with ⟨rfl,_⟩|⟨d,x,rfl,f,s,r,q⟩;omega;have i:=(qK f).1;obtain⟨e,u,hc,_,_⟩:=k.inner f;refine .go (a:=x) (by rw[xQ i];simpa[yc i]using f) ?_;refine .tI ?_ ?_<;>intro g;have c:=g;refine .bind .get λo _=>?_;refine .tI ?_ ?_<;>intro g;(exact .ret λh=>by simp at h);have hlen:=g;refine .ret λ_=>⟨[],[],z?,by simpa using z,z?,.inr ⟨d,e,x,f,s,r,q,u,.inl ?_⟩,u?⟩;intro h;rw[h]at c;simp at c
   have c:=g;have hee:=k.end_ f;rw[wr (n:=(d:Z)+1) o? o?,show((d:Z)+1)=((d+1:U):Z) by omega,u];have F: ∀(j:U)(y:Pt),d+1<=j->j<e->P[j]? =T y->y.kind=1->Holds P n y.n:=λj y E D p l=>⟨d,j,x,y,f,s,r,q,o?,o?,p,l,rfl⟩;have L:=row2_tot (env:=env) (lead:=lead) (unit:=unit) (ds:=ds) (nm:=nm) k hc [] ns ts z? z (λj y ns ts E D p l=>
    WD k C j y p ns ts l λhk=>ih (mu P y.n) (by rw[<- hn];exact mu_lt C (F j y E D p hk)) y.n rfl ns ts l)
   refine on_out10 (o:=gJ (((d+1:U):Z),(e:Z),env,lead,unit,P,ds,nm,ns,ts)) ?_;rw[gJ.eq_1];refine .bind L λw A=>?_;rcases w with w|w;exact .ret λh=>N h A;obtain⟨a,b,t,rfl,w2,J,I,H⟩:=A;refine .ret λ_=>⟨a,b,rfl,w2,λm hm=>?_,.inr ⟨d,e,x,f,s,r,q,u,.inr (by simpa using I)⟩,by simpa using H⟩;obtain⟨j,y,j1,j2,W,Q,j5⟩:=J m hm;have h:=F j y j1 j2 W Q;rcases j5 with rfl|j5;exact .single h;exact E?.trans (.single h) j5
end
set_option maxHeartbeats 1000000
inductive Z1 (H:Z->Z->Prop):Z->Z->Z->U->Y qu->Prop
 |nil (up lo hi:Z) (b:U) (h:lo<=hi):Z1 H up lo hi b []
 |cons (up lo hi:Z) (b:U) (x:qu) (qB rest:Y qu) (hu:x.up=up) (h1:lo<=x.span.qG) (h2:x.span.qG<=x.span.to) (hH: ∀y∈qB,H x.n y.n)
   (hk:Z1 H (b:Z) x.span.qG x.span.to (b+1) qB) (hr:Z1 H up x.span.to hi (b+1+qB.length) rest):Z1 H up lo hi b (x::(qB++rest))
theorem Z1.le{H:Z->Z->Prop}{up lo hi:Z}{b:U}{l:Y qu}(h:Z1 H up lo hi b l):lo<=hi:=by induction h with|nil _ _ _ _ h=>exact h|cons _ _ _ _ _ _ _ _ h1 h2 _ _ _ _ ih=>omega
theorem Z1.mono{H:Z->Z->Prop}{up lo hi:Z}{b:U}{l:Y qu}(h:Z1 H up lo hi b l){a:Z}(e:hi<=a):Z1 H up lo a b l:=by induction h with|nil up lo hi b h=>exact .nil _ _ _ _ o?|cons up lo hi b x qB rest hu i g f d _ _ c=>exact .cons up lo a b x qB rest hu i g f d (c e)
theorem Z1.low{H:Z->Z->Prop}{up lo hi:Z}{b:U}{l:Y qu}(h:Z1 H up lo hi b l){a :Z}(hh:a <=lo):Z1 H up a hi b l:=by cases h with|nil up lo hi b h=>exact .nil _ _ _ _ o?|cons up lo hi b x qB rest hu h1 f e d c=>exact .cons up a hi b x qB rest hu o? f e d c
theorem Z1.MJ{H:Z->Z->Prop}{up lo hi:Z}{b:U}{l:Y qu}(h:Z1 H up lo hi b l)(x:qu)(hu:x.up=up)(j:x.span.qG=hi)(i:x.span.to=hi):Z1 H up lo hi b (l++[x]):=by induction h with|nil up lo hi b h=>exact .cons up lo hi b x [] [] hu o? o? z? (.nil _ _ _ _ o?) (.nil _ _ _ _ o?)|cons up lo hi b y qB rest a d c g f _ _ e=>have:=Z1.cons up lo hi b y qB (rest++[x]) a d c g f (e hu j i);simpa using this
def Xa(P:Y Pt)(j:U):U:=(P.take j).countP (λx=>x.kind==1)
theorem Xb{P:Y Pt}{i:U}{x:Pt}(h:P[i]? =T x):Xa P (i+1)=Xa P i+if x.kind=1 then 1 else 0:=by obtain⟨hl,rfl⟩:=qK h;unfold Xa;rw[Y.take_succ_eq_append_getElem hl,Y.countP_append];exact tW
section
variable {env:Sl qz} {lead unit:qa} {P:Y Pt} {ds:Y Z} {nm:Y qa} {ns:Y Z} {ts:Y qa}
theorem E9(r:Good P)(j:mF P ns ts)(i:U)(t:qa)(o:Val P ns ts i t):jM ((i:Z),env,lead,unit,P,ds,nm,ns,ts)=T (t,0,env,lead,unit,P,ds,nm,ns,ts):=by
 have hl:=r.len;have mw:=j.UO;have hlen:=j.len;obtain⟨x,b,g,y,w,u,s⟩:=o;have f:=(qK g).1;have A:qk P (i:Z)=T x:=by rw[xQ f];simpa[yc f]using g
 rw[jM.eq_1,A];simp only[zl,qM];by_cases a:x.kind=1;have m:=y a;obtain⟨v,Kz,c⟩:=Rd x.n ns ts o? hlen;rcases c with ⟨_,hn⟩|⟨k,t',rfl,p,e,d⟩;obtain⟨k,z,_⟩:=m;exact N (zj z) hn;(have:=m.one d;subst this;have SG:qk ts (k:Z)=T b:=by rw[xQ e];simpa[yc e]using p);exact tW;have q:=w a;subst q;rw[V (by simp[a])];cases h:x.qR;rw[V z?,u h];obtain⟨l,hl⟩:=s h;rw[R rfl,hl];rfl
theorem R4(j:Good P)(p:mF P ns ts){i:U}{x:Pt}{t:qa}(a:P[i]? =T x)(g:x.kind=1)(c:x.jO=K)(m:Val P ns ts i t){e:U}(he:x.end_=(e:Z))(o:x.opts.l≠[]->e=i+1): ∃u,re P ns ts (i+1) e u/\u.length<=t.length:=by obtain⟨y,b,k,r,_,q,_⟩:=m;rw[a]at k;cases k;have n:=q ((j.ok x (zj a)).dt c);subst n;rcases(p.txt _ _ (r g)).1 with ⟨_,h⟩|⟨d,s,y,f,a2,a3,a4,a5,a6⟩;exact N rfl (h x (zj a) g c);have:d=i:=Y4 j.un f a a3 c a4;subst this;rw[a]at f;cases f;have:s =e:=o?;subst this;rcases a6 with a6|a6;rw[o a6];exact⟨[],.nil _,U.zero_le _⟩;exact⟨_,a6,ke _⟩
structure StQ (P:Y Pt) (qp:Z) (i hi:U) (W:qa) (out:Y qu) (zw:Y Z) (KY:Z) (l:Y qu) (pl:Y Z):Prop where
 RG:pl.length=zw.length
 dP: ∀j,j<i->pl[j]? =zw[j]?
 SM:Z1 (Holds P) KY qp (qp+W.length) out.length l
 mem: ∀y∈l,∃(j:U)(p:Pt),i<=j/\j<hi/\P[j]? =T p/\p.kind=1/\p.n=y.n/\p.qZ=y.qZ/\p.opts=y.opts
 len:l.length+Xa P i<=Xa P hi
theorem FQ(s:Good P)(hM:mF P ns ts){up:Z}{i hi:U}(hc:tw P up i hi): ∀(qp:Z)(W:qa)(out:Y qu)(zw:Y Z)(f:Z),re P ns ts i hi W->0<=qp->qp+W.length<=65536->hi<=P.length->zw.length=P.length->out.length+hi<=P.length+i->
  ((up= -1/\f= -1)\/ ∃u:U,up=u/\u<i/\zw[u]? =T f)->
  qL (zq ((hi:Z),qp,(i:Z),env,lead,unit,out,zw,P,ds,nm,ns,ts)) (λv=> ∃l pl,v=(qp+W.length,env,lead,unit,out++l,pl,P,ds,nm,ns,ts)/\StQ P qp i hi W out zw f l pl):=by
 have hPl:=s.len;induction hc with
  |nil up i=>(intro qp W out zw f hR h0 z D ee hol F;have hT0:W=[]:=by cases hR with|nil=>rfl|cons _ e _ x t u c E _ o=>(have h3:=(s.end_ c).1;have h4: ∀{a b:U}{t:qa},re P ns ts a b t->a<=b:=by intro a b t h;induction h with|nil=>omega|cons a e b x t u c E _ _ ih=>have:=(s.end_ c).1;omega);have:=h4 o;omega);subst hT0;rw[zq.eq_1,V z?];exact .ret ⟨[],zw,z?,rfl,λ_ _=>rfl,.nil _ _ _ _ z?,z?,z?⟩
  |cons up i e hi x c hu E jv hle hk hd ho o Pa Y9=>
   (intro qp W out zw f hR h0 z D ee hol F;have lG:=(qK c).1;have P7:qk P (i:Z)=T x:=by rw[xQ lG];simpa[yc lG]using c);(obtain⟨t,u,hTu,g,hru⟩: ∃t u,W=t++u/\Val P ns ts i t/\re P ns ts e hi u:=by cases hR with|nil=>omega|cons _ e' _ y t u hy hye g hr2=>rw[c]at hy;cases hy;have:e' =e:=o?;subst this;exact⟨t,u,rfl,g,hr2⟩);subst hTu;simp only[p?]at z;have AD:=Xb c;have hchi:Xa P (i+1)<=Xa P e:=by unfold Xa;exact q1z.countP_le (A_ o?)
   rw[zq.eq_1,R v?];refine .go P7 ?_;refine .go (E9 s hM i t g) ?_;simp only;have ew:q?.wrap (qp+(t.length:Z))=qp+t.length:=wr o? o?;rw[ew];have behind: ∀(l:Y qu)(pl:Y Z),StQ P qp i e t out zw f l pl->l.length<=e-i->
     qL (qk P (i:Z)>>=λy=>zq ((hi:Z),qp+t.length,y.end_,env,lead,unit,out++l,pl,P,ds,nm,ns,ts)) (λv=> ∃l pl,v=(qp+(t++u).length,env,lead,unit,out++l,pl,P,ds,nm,ns,ts)/\StQ P qp i hi (t++u) out zw f l pl):=by
    intro l pl h OD;refine .go P7 ?_;rw[E];refine(Y9 (qp+t.length) u (out++l) pl f hru o? o? D (h.RG.trans ee) v? ?_).mono λv g=>?_
    ·rcases F with F|⟨w,A,w2,I⟩
     ·exact .inl F
     exact .inr ⟨w,A,o?,by rw[h.dP w w2];exact I⟩
    obtain⟨l2,pl2,rfl,q⟩:=g;refine⟨l++l2,pl2,by simp[H_],q.RG.trans h.RG,λj L=>(q.dP j o?).trans (h.dP j L), ?_, ?_, ?_⟩
    ·have M:=q.SM;have z:=h.SM;have app: ∀{up lo hi:Z}{b:U}{l:Y qu},Z1 (Holds P) up lo hi b l-> ∀{H:Z}{r:Y qu},Z1 (Holds P) up hi H (b+l.length) r->Z1 (Holds P) up lo H b (l++r):=by
      intro up lo hi b l hl;induction hl with
      |nil up lo hi b h=>intro H r o;simpa using o.low h
      |cons up lo hi b x qB rest hu z M hH hk _ _ ih=>
       intro H r o;have e1:b+(x::(qB++rest)).length=b+1+qB.length+rest.length:=v?;rw[e1]at o;have:=Z1.cons up lo H b x qB (rest++r) hu z M hH hk (ih o);simpa using this
     simp only[p?]at M;have:=app z M;simpa[H_]using this
    ·intro y hy;rcases t?.1 hy with hy|hy
     ·obtain⟨j,p,J,B,m⟩:=h.mem y hy;exact⟨j,p,J,o?,m⟩
     obtain⟨j,p,J,B,m⟩:=q.mem y hy;exact⟨j,p,o?,B,m⟩
    have:=q.len;have:=h.len;simp only[p?];omega
   by_cases k:x.kind=1
   ·rw[R k]at AD;rw[R (by simp[k])];have stop: ∀(S:qu),S.up=f->S.span.qG=qp->S.span.to=qp+t.length->S.n=x.n->S.qZ=x.qZ->S.opts=x.opts->
      qL (qk zw (i:Z)>>=λ_=>if ql (out.length+1) 200=K then
       if x.jO=K then
        xd (q?.wrap ((i:Z)+1),x.end_,qp,env,lead,unit,out++[S],zw.set (i:Z).toNat (out.length:Z),P,ds,nm,ns,ts)>>=λv=>
        qk v.2.2.2.2.2.2.1 (i:Z)>>=λy=>
        zq ((hi:Z),qp+t.length,y.end_,v.2.1,v.2.2.1,v.2.2.2.1,v.2.2.2.2.1,v.2.2.2.2.2.1,v.2.2.2.2.2.2.1,v.2.2.2.2.2.2.2.1,v.2.2.2.2.2.2.2.2.1,v.2.2.2.2.2.2.2.2.2.1,v.2.2.2.2.2.2.2.2.2.2)
       else
        qk P (i:Z)>>=λy=>zq ((hi:Z),qp+t.length,y.end_,env,lead,unit,out++[S],zw.set (i:Z).toNat (out.length:Z),P,ds,nm,ns,ts)
       else none) (λv=> ∃l pl,v=(qp+(t++u).length,env,lead,unit,out++l,pl,P,ds,nm,ns,ts)/\StQ P qp i hi (t++u) out zw f l pl):=by
     intro S s1 s2 s3 Q s5 s6;refine .bind .get λ_ _=>?_;refine .zY (by simp only[ql,xn,X];omega) ?_;rw[X?];have sa: ∀j,j<i->(zw.set i (out.length:Z))[j]? =zw[j]? :=λj L=>by rw[P!];rw[V o?]
     cases TK:x.jO
     ·rw[V z?];refine behind [S] _ ⟨z?,sa, ?_, ?_,v?⟩ v?
      ·exact .cons f qp _ out.length S [] [] s1 o? o? z? (.nil _ _ _ _ o?) (.nil _ _ _ _ o?)
      intro y hy;simp only[d?]at hy;subst hy;exact⟨i,x,ke _,jv,c,k,Q.symm,s5.symm,s6.symm⟩
     rw[R rfl];obtain⟨w,A,w2⟩:=R4 s hM c k TK g E ho;have AF:=Pa qp w (out++[S]) (zw.set i (out.length:Z)) (out.length:Z) A h0 o? o? (by simpa using ee) v? (.inr ⟨i,rfl,o?,e_ o?⟩);have hk3:qL (xd (((i+1:U):Z),x.end_,qp,env,lead,unit,out++[S],zw.set i (out.length:Z),P,ds,nm,ns,ts)) (λv=> ∃l pl,v=(qp+w.length,env,lead,unit,out++[S]++l,pl,P,ds,nm,ns,ts)/\StQ P qp (i+1) e w (out++[S]) (zw.set i (out.length:Z)) (out.length:Z) l pl):=by
      rw[xd.eq_1,E];exact .bind AF λv g=> .ret g
     rw[wr (n:=(i:Z)+1) o? o?,show((i:Z)+1)=((i+1:U):Z) by omega];refine .bind hk3 λv g=>?_;obtain⟨l,pl,rfl,q⟩:=g;have e1:out++[S]++l=out++(S::l):=z?;simp only[e1];have hql:=q.len;have W0:Xa P e<=Xa P (i+1)+(e-(i+1)):=by
      have: ∀d,Xa P (i+1+d)<=Xa P (i+1)+d:=by
       intro d;induction d with
       |zero=>simp
       |succ d ih=>
        by_cases Oz:i+1+d<P.length
        ·have:=Xb (yc Oz);rw[show i+1+(d+1)=i+1+d+1 by omega,this];split<;>omega
        have e2:Xa P (i+1+(d+1))=Xa P (i+1+d):=by unfold Xa;rw[l! o?,l! o?]
        omega
      have:=this (e-(i+1));rw[show i+1+(e-(i+1))=e by omega]at this;exact this
     refine behind (S::l) pl ⟨by simpa using q.RG,λj L=>(q.dP j o?).trans (sa j L), ?_, ?_,v?⟩ v?
     ·have OC:Z1 (Holds P) (out.length:Z) S.span.qG S.span.to (out.length+1) l:=by
       rw[s2,s3];have:=q.SM;simp only[p?,b?,r?]at this;exact this.mono o?
      have:=Z1.cons f qp (qp+t.length) out.length S l [] s1 o? o? (λy hy=>?_) OC (.nil _ _ _ _ o?)
      ·simpa using this
      obtain⟨j,p,J,B,m,j4,j5,_⟩:=q.mem y hy;rw[Q];exact⟨i,j,x,p,c,k,TK,rfl,o?,o?,m,j4,j5⟩
     intro y hy;rcases K?.1 hy with rfl|hy
     ·exact⟨i,x,ke _,jv,c,k,Q.symm,s5.symm,s6.symm⟩
     obtain⟨j,p,J,B,m⟩:=q.mem y hy;exact⟨j,p,o?,B,m⟩
    rcases F with ⟨u1,u2⟩|⟨w,A,w2,I⟩;rw[V v?];exact stop _ u2.symm rfl rfl rfl rfl rfl;rw[R v?];have C:=(qK I).1;refine .go (a:=f) (by rw[hu,A,xQ C];simpa[yc C]using I) ?_;exact stop _ rfl rfl rfl rfl rfl rfl
   rw[V k]at AD;rw[V (by simp[k])];have hde:e=i+1:=hd ((s.ok x (zj c)).other k).1;have:=behind [] zw ⟨rfl,λ_ _=>rfl,.nil _ _ _ _ o?,z?,v?⟩ z?;simpa using this
end
section
variable {env:Sl qz} {lead unit:qa} {P:Y Pt} {ds:Y Z} {nm:Y qa} {ns:Y Z} {ts:Y qa}
theorem FP(s:Good P)(hM:mF P ns ts){up:Z}{i hi:U}(hc:tw P up i hi): ∀(qp:Z)(W:qa)(out:Y qu)(zw:Y Z)(f:Z),re P ns ts i hi W->0<=qp->qp+W.length<=65536->hi<=P.length->zw.length=P.length->out.length+hi<=P.length+i->
  ((up= -1/\f= -1)\/ ∃u:U,up=u/\u<i/\zw[u]? =T f)->
  qL (zU ((hi:Z),qp,(i:Z),env,lead,unit,zw,P,ds,nm,ns,ts,out)) (λv=> ∃l pl,v=(qp+W.length,env,lead,unit,pl,P,ds,nm,ns,ts,out++l)/\StQ P qp i hi W out zw f l pl):=by
 have hPl:=s.len;induction hc with
  |nil up i=>(intro qp W out zw f hR h0 z D ee hol F;have hT0:W=[]:=by cases hR with|nil=>rfl|cons _ e _ x t u c E _ o=>(have h3:=(s.end_ c).1;have h4: ∀{a b:U}{t:qa},re P ns ts a b t->a<=b:=by intro a b t h;induction h with|nil=>omega|cons a e b x t u c E _ _ ih=>have:=(s.end_ c).1;omega);have:=h4 o;omega);subst hT0;rw[zU.eq_1,V z?];exact .ret ⟨[],zw,z?,rfl,λ_ _=>rfl,.nil _ _ _ _ z?,z?,z?⟩
  |cons up i e hi x c hu E jv hle hk hd ho o Pa Y9=>
   (intro qp W out zw f hR h0 z D ee hol F;have lG:=(qK c).1;have P7:qk P (i:Z)=T x:=by rw[xQ lG];simpa[yc lG]using c);(obtain⟨t,u,hTu,g,hru⟩: ∃t u,W=t++u/\Val P ns ts i t/\re P ns ts e hi u:=by cases hR with|nil=>omega|cons _ e' _ y t u hy hye g hr2=>rw[c]at hy;cases hy;have:e' =e:=o?;subst this;exact⟨t,u,rfl,g,hr2⟩);subst hTu;simp only[p?]at z;have AD:=Xb c;have hchi:Xa P (i+1)<=Xa P e:=by unfold Xa;exact q1z.countP_le (A_ o?)
   rw[zU.eq_1,R v?];refine .go P7 ?_;refine .go (E9 s hM i t g) ?_;simp only;have ew:q?.wrap (qp+(t.length:Z))=qp+t.length:=wr o? o?;rw[ew];have behind: ∀(l:Y qu)(pl:Y Z),StQ P qp i e t out zw f l pl->l.length<=e-i->
     qL (qk P (i:Z)>>=λy=>zU ((hi:Z),qp+t.length,y.end_,env,lead,unit,pl,P,ds,nm,ns,ts,out++l)) (λv=> ∃l pl,v=(qp+(t++u).length,env,lead,unit,pl,P,ds,nm,ns,ts,out++l)/\StQ P qp i hi (t++u) out zw f l pl):=by
    intro l pl h OD;refine .go P7 ?_;rw[E];refine(Y9 (qp+t.length) u (out++l) pl f hru o? o? D (h.RG.trans ee) v? ?_).mono λv g=>?_
    ·rcases F with F|⟨w,A,w2,I⟩
     ·exact .inl F
     exact .inr ⟨w,A,o?,by rw[h.dP w w2];exact I⟩
    obtain⟨l2,pl2,rfl,q⟩:=g;refine⟨l++l2,pl2,by simp[H_],q.RG.trans h.RG,λj L=>(q.dP j o?).trans (h.dP j L), ?_, ?_, ?_⟩
    ·have M:=q.SM;have z:=h.SM;have app: ∀{up lo hi:Z}{b:U}{l:Y qu},Z1 (Holds P) up lo hi b l-> ∀{H:Z}{r:Y qu},Z1 (Holds P) up hi H (b+l.length) r->Z1 (Holds P) up lo H b (l++r):=by
      intro up lo hi b l hl;induction hl with
      |nil up lo hi b h=>intro H r o;simpa using o.low h
      |cons up lo hi b x qB rest hu z M hH hk _ _ ih=>
       intro H r o;have e1:b+(x::(qB++rest)).length=b+1+qB.length+rest.length:=v?;rw[e1]at o;have:=Z1.cons up lo H b x qB (rest++r) hu z M hH hk (ih o);simpa using this
     simp only[p?]at M;have:=app z M;simpa[H_]using this
    ·intro y hy;rcases t?.1 hy with hy|hy
     ·obtain⟨j,p,J,B,m⟩:=h.mem y hy;exact⟨j,p,J,o?,m⟩
     obtain⟨j,p,J,B,m⟩:=q.mem y hy;exact⟨j,p,o?,B,m⟩
    have:=q.len;have:=h.len;simp only[p?];omega
   by_cases k:x.kind=1
   ·rw[R k]at AD;rw[R (by simp[k])];have stop: ∀(S:qu),S.up=f->S.span.qG=qp->S.span.to=qp+t.length->S.n=x.n->S.qZ=x.qZ->S.opts=x.opts->
      qL (qk zw (i:Z)>>=λ_=>if ql (out.length+1) 200=K then
       if x.jO=K then
        xd (q?.wrap ((i:Z)+1),x.end_,qp,env,lead,unit,out++[S],zw.set (i:Z).toNat (out.length:Z),P,ds,nm,ns,ts)>>=λv=>
        qk v.2.2.2.2.2.2.1 (i:Z)>>=λy=>
        zU ((hi:Z),qp+t.length,y.end_,v.2.1,v.2.2.1,v.2.2.2.1,v.2.2.2.2.2.1,v.2.2.2.2.2.2.1,v.2.2.2.2.2.2.2.1,v.2.2.2.2.2.2.2.2.1,v.2.2.2.2.2.2.2.2.2.1,v.2.2.2.2.2.2.2.2.2.2,v.2.2.2.2.1)
       else
        qk P (i:Z)>>=λy=>zU ((hi:Z),qp+t.length,y.end_,env,lead,unit,zw.set (i:Z).toNat (out.length:Z),P,ds,nm,ns,ts,out++[S])
       else none) (λv=> ∃l pl,v=(qp+(t++u).length,env,lead,unit,pl,P,ds,nm,ns,ts,out++l)/\StQ P qp i hi (t++u) out zw f l pl):=by
     intro S s1 s2 s3 Q s5 s6;refine .bind .get λ_ _=>?_;refine .zY (by simp only[ql,xn,X];omega) ?_;rw[X?];have sa: ∀j,j<i->(zw.set i (out.length:Z))[j]? =zw[j]? :=λj L=>by rw[P!];rw[V o?]
     cases TK:x.jO
     ·rw[V z?];refine behind [S] _ ⟨z?,sa, ?_, ?_,v?⟩ v?
      ·exact .cons f qp _ out.length S [] [] s1 o? o? z? (.nil _ _ _ _ o?) (.nil _ _ _ _ o?)
      intro y hy;simp only[d?]at hy;subst hy;exact⟨i,x,ke _,jv,c,k,Q.symm,s5.symm,s6.symm⟩
     rw[R rfl];obtain⟨w,A,w2⟩:=R4 s hM c k TK g E ho;have AF:=FQ (env:=env) (lead:=lead) (unit:=unit) (ds:=ds) (nm:=nm) s hM hk qp w (out++[S]) (zw.set i (out.length:Z)) (out.length:Z) A h0 o? o? (by simpa using ee) v? (.inr ⟨i,rfl,o?,e_ o?⟩);have hk3:qL (xd (((i+1:U):Z),x.end_,qp,env,lead,unit,out++[S],zw.set i (out.length:Z),P,ds,nm,ns,ts)) (λv=> ∃l pl,v=(qp+w.length,env,lead,unit,out++[S]++l,pl,P,ds,nm,ns,ts)/\StQ P qp (i+1) e w (out++[S]) (zw.set i (out.length:Z)) (out.length:Z) l pl):=by
      rw[xd.eq_1,E];exact .bind AF λv g=> .ret g
     rw[wr (n:=(i:Z)+1) o? o?,show((i:Z)+1)=((i+1:U):Z) by omega];refine .bind hk3 λv g=>?_;obtain⟨l,pl,rfl,q⟩:=g;have e1:out++[S]++l=out++(S::l):=z?;simp only[e1];have hql:=q.len;have W0:Xa P e<=Xa P (i+1)+(e-(i+1)):=by
      have: ∀d,Xa P (i+1+d)<=Xa P (i+1)+d:=by
       intro d;induction d with
       |zero=>simp
       |succ d ih=>
        by_cases Oz:i+1+d<P.length
        ·have:=Xb (yc Oz);rw[show i+1+(d+1)=i+1+d+1 by omega,this];split<;>omega
        have e2:Xa P (i+1+(d+1))=Xa P (i+1+d):=by unfold Xa;rw[l! o?,l! o?]
        omega
      have:=this (e-(i+1));rw[show i+1+(e-(i+1))=e by omega]at this;exact this
     refine behind (S::l) pl ⟨by simpa using q.RG,λj L=>(q.dP j o?).trans (sa j L), ?_, ?_,v?⟩ v?
     ·have OC:Z1 (Holds P) (out.length:Z) S.span.qG S.span.to (out.length+1) l:=by
       rw[s2,s3];have:=q.SM;simp only[p?,b?,r?]at this;exact this.mono o?
      have:=Z1.cons f qp (qp+t.length) out.length S l [] s1 o? o? (λy hy=>?_) OC (.nil _ _ _ _ o?)
      ·simpa using this
      obtain⟨j,p,J,B,m,j4,j5,_⟩:=q.mem y hy;rw[Q];exact⟨i,j,x,p,c,k,TK,rfl,o?,o?,m,j4,j5⟩
     intro y hy;rcases K?.1 hy with rfl|hy
     ·exact⟨i,x,ke _,jv,c,k,Q.symm,s5.symm,s6.symm⟩
     obtain⟨j,p,J,B,m⟩:=q.mem y hy;exact⟨j,p,o?,B,m⟩
    rcases F with ⟨u1,u2⟩|⟨w,A,w2,I⟩;rw[V v?];exact stop _ u2.symm rfl rfl rfl rfl rfl;rw[R v?];have C:=(qK I).1;refine .go (a:=f) (by rw[hu,A,xQ C];simpa[yc C]using I) ?_;exact stop _ rfl rfl rfl rfl rfl rfl
   rw[V k]at AD;rw[V (by simp[k])];have hde:e=i+1:=hd ((s.ok x (zj c)).other k).1;have:=behind [] zw ⟨rfl,λ_ _=>rfl,.nil _ _ _ _ o?,z?,v?⟩ z?;simpa using this
theorem many_tot(c:Good P): ∀(q:Y Pt)(k:U)(m:Z),P.drop k=q->0<=m->m<=k->qL (gr (m,(k:Z),env,lead,unit,P,ds,nm)) (λv=>v+Xa P k=m+Xa P P.length):=by have hl:=c.len;intro q;induction q with|nil=>(intro k m a e d;rw[gr.eq_1,V (by simpa using uU a)];have:=u9 a;refine .ret ?_;have:Xa P k=Xa P P.length:=by unfold Xa;rw[l! this,l! (ke _)]);omega|cons x q ih=>intro k m a e d;obtain⟨b,a2,a3,a4⟩:=yB a;obtain⟨f,_,_⟩:=drop_cons a;have hc:=Xb f;rw[gr.eq_1,R (by simpa using b),ZX o? b];have:= @wr;exact tW
theorem zero_tot(s:qa)(pl:Y Z)(st:Y qu)(hs:st.length<=40000000): ∀(q:Y qu)(k:U)(z:Bool),st.drop k=q->(z=K-> ∃x∈st,x.n=0/\x.qR=false)->
  qL (yI (s,z,(k:Z),env,lead,unit,P,ds,nm,ns,ts,pl,st)) (λv=>v=K-> ∃x∈st,x.n=0/\x.qR=false):=by intro q;induction q with|nil=>intro k z a b;rw[yI.eq_1,V (by simpa using uU a)];exact .ret b|cons x q ih=>intro k z a b;obtain⟨c,a2,a3,a4⟩:=yB a;rw[yI.eq_1,R (by simpa using c),ZX o? c];exact tW
end
structure C9 (s:qa) (st:Y qu):Prop where
 len:s.length<=65536
 SM: ∃H:Z->Z->Prop,Z1 H (-1) 0 s.length 0 st/\ ∀n,¬ E? H n n
 many:0<st.length/\st.length<=257
 n: ∀x∈st,0<=x.n/\x.n<=100000000
 qZ: ∀x∈st,uf x.qZ<=1000000000/\(∀ o∈x.opts.l,o.length<=17592186044416)/\Jt x.opts=0/\x.opts.l.length<=8192002
 free: ∃x∈st,x.qR=false
theorem Ca{env:Sl qz}{lead unit:qa}(hE:PA env lead unit)(l:Sl qF)(hl:qS (l.l.map sJ)<=8192002):qL (iS l env lead unit) (λr=>r.2.2=0->C9 r.1 r.2.1.l):=by
 unfold iS;refine .bind (Gl l o?) λv hv=>?_;refine .tI ?_ ?_<;>intro hT;exact .ret z?;have hS:=hv hT;refine .bind (Dg hE l hl hS (-1)) λk hk=>?_;obtain⟨e1,e2,e3,⟨t,t1,t2,t3⟩,hI,_⟩:=hk;obtain⟨k1,k2,k3,r,kd,kn⟩:=k;simp only at e1 e2 e3 t1 hI;subst e1 e2 e3;simp only[List.nil_append]at t1;subst t1;simp only[List.length_nil]at t2;refine .bind (M5 r kd kn t2 hI o?) λP hP=>?_;refine .bind (Dn P kd kn hP) λw hw=>?_;refine .tI ?_ ?_<;>intro hT;exact .ret z?;have hN:=hw hT;have hPl:=hP.len;have hmany:=many_tot (env:=k1) (lead:=k2) (unit:=k3) (ds:=kd) (nm:=kn) hP P 0 0 rfl o? o?;refine .bind hmany λm hm=>?_;refine .tI ?_ ?_<;>intro hT;exact .ret z?;have hm256:=hT;have hcnt:Xa P P.length<=256:=by (have:Xa P 0=0:=by simp[Xa]);omega
 have hM0:mF P [] []:=⟨rfl,z?,z?,λn t h=>by obtain⟨k,h,_⟩:=h;simp at h⟩;have lH:=row1_tot (env:=k1) (lead:=k2) (unit:=k3) (ds:=kd) (nm:=kn) hP hP.chain [] [] [] z? hM0 (λj y ns ts h1 h2 h3 h4=>
  WD hP hN j y h3 ns ts h4 λ_=>text_tot hP hN _ y.n rfl ns ts h4)
 have AM:qL (rO (0:Int) (P.length:Int) k1 k2 k3 P kd kn) (λv=>v.2.1=0-> ∃ns ts,v=(v.1,0,k1,k2,k3,P,kd,kn,ns,ts)/\mF P ns ts/\re P ns ts 0 P.length v.1/\v.1.length<=65536):=by unfold rO;refine .bind lH λw hw=>?_;rcases w with w|w;exact .ret λh=>absurd h hw;obtain⟨a,b,t,rfl,w2,w3,w4,w5⟩:=hw;exact .ret λ_=>⟨a,b,z?,by simpa using w2,by simpa using w4,by simpa using w5⟩
 refine .bind AM λy hy=>?_;refine .tI ?_ ?_<;>intro hT;exact .ret λh=>absurd h hT;obtain⟨ns,ts,e,y2,y3,y4⟩:=hy hT;rw[e];simp only;generalize y.1=s at y3 y4 |-;refine .zY o? ?_;refine .zY (by simp only[ql,xn,decide_eq_true_eq];omega) ?_;have Ky:=FP (env:=k1) (lead:=k2) (unit:=k3) (ds:=kd) (nm:=kn) hP y2 hP.chain 0 s [] (List.replicate P.length 0) (-1) y3 o? o? (ke _) z? z? (.inl ⟨rfl,rfl⟩);have hst2:qL (mQ (0:Int) (P.length:Int) (0:Int) k1 k2 k3 (List.replicate P.length 0) P kd kn ns ts) (λv=> ∃l pl,v=((0:Int)+s.length,k1,k2,k3,pl,P,kd,kn,ns,ts,[]++l)/\StQ P 0 0 P.length s [] (List.replicate P.length 0) (-1) l pl):=by unfold mQ;exact .bind Ky λv hv=> .ret hv
 rw[show (P.length:Int).toNat=P.length by simp];refine .bind hst2 λz hz=>?_;obtain⟨st,pl,rfl,q⟩:=hz;simp only[List.nil_append];have hql:=q.len;have hc0:Xa P 0=0:=by simp[Xa]
 have hnn: ∀x∈st,0<=x.n/\x.n<=100000000:=by intro x hx;obtain⟨j,p,_,_,j3,_,j5,_⟩:=q.mem x hx;rw[<- j5];exact hP.n p (zj j3)
 have hff: ∀x∈st,uf x.qZ<=1000000000/\(∀ o∈x.opts.l,o.length<=17592186044416)/\Jt x.opts=0/\x.opts.l.length<=8192002:=by intro x hx;obtain⟨j,p,_,_,j3,_,_,j6,j7⟩:=q.mem x hx;have:=hP.ok p (zj j3);rw[<- j6,<- j7];exact⟨this.qZ,this.ol⟩
 have OC:Z1 (Holds P) (-1) 0 s.length 0 st:=by have:=q.SM;simpa using this
 refine .bind (zero_tot s pl st o? st 0 false rfl z?) λz hz=>?_;refine .tI ?_ ?_<;>intro hT;refine .zY (by simp only[ql,xn,decide_eq_true_eq];omega) ?_;refine .ret λ_=>⟨y4,⟨Holds P,OC.MJ _ rfl rfl rfl,hN⟩,v?,λx hx=>?_,λx hx=>?_,⟨_,List.mem_append_right _ (List.mem_singleton.2 rfl),rfl⟩⟩;rcases List.mem_append.1 hx with hx|hx;exact hnn x hx;simp only[List.mem_singleton]at hx;subst hx;simp;rcases List.mem_append.1 hx with hx|hx;exact hff x hx;simp only[List.mem_singleton]at hx;subst hx;refine⟨?_,by simp[eN]⟩;simp[uf,uR,eN,JX,qS];obtain⟨x,hx,_,h0⟩:=hz hT;refine .ret λ_=>⟨y4,⟨Holds P,OC,hN⟩,⟨List.length_pos_of_mem hx,u?⟩,hnn,hff,⟨x,hx,h0⟩⟩
namespace Xr
theorem idx3{x z:qu}{qB rest:Y qu}{k:U}(h:(x::(qB++rest))[k]? =T z):(k=0/\z=x)\/(∃ i,k=i+1/\qB[i]? =T z)\/(∃ i,k=i+1+qB.length/\rest[i]? =T z):=by cases k with|zero=>simp at h;exact .inl ⟨rfl,h.symm⟩|succ k=>simp only[Q?]at h;by_cases a:k<qB.length;rw[c? a]at h;exact .inr (.inl ⟨k,rfl,h⟩);rw[J? o?]at h;exact .inr (.inr ⟨k-qB.length,o?,h⟩)
theorem idx_k{x z:qu}{qB rest:Y qu}{i:U}(h:qB[i]? =T z):(x::(qB++rest))[i+1]? =T z:=by have hi:=(qK h).1;simp only[Q?];rw[c? hi];exact h
theorem idx_r{x z:qu}{qB rest:Y qu}{i:U}(h:rest[i]? =T z):(x::(qB++rest))[i+1+qB.length]? =T z:=by rw[show i+1+qB.length=(qB.length+i)+1 by omega];simp only[Q?];rw[J? o?];simpa using h
structure LayIn (up lo hi:Z) (b:U) (l:Y qu) (k:U) (x:qu):Prop where
 lo:lo<=x.span.qG
 le:x.span.qG<=x.span.to
 hi:x.span.to<=hi
 ins:x.up=up\/ ∃(q:U)(y:qu),x.up=((b+q:U):Z)/\q<k/\l[q]? =T y/\y.span.qG<=x.span.qG/\x.span.to<=y.span.to
 C3: ∀(j:U)(y:qu),j<k->l[j]? =T y->y.up=x.up->y.span.to<=x.span.qG
 pre: ∀(j:U)(y:qu),j<k->x.up<((b+j:U):Z)->l[j]? =T y->x.up<=y.up
theorem LayX.wW{H:Z->Z->Prop}{up lo hi:Z}{b:U}{l:Y qu}(h:Z1 H up lo hi b l):up<b-> ∀(k:U)(x:qu),l[k]? =T x->LayIn up lo hi b l k x:=by induction h with|nil=>intro _ k x F;simp at F|cons up lo hi b x qB rest hu L J hH hk I s r=>(intro hub k z E;have s:=s o?;have r:=r o?;have o: ∀(i:U)(y:qu),qB[i]? =T y->i<qB.length:=λi y h=>(qK h).1;have m:=I.le;have d: ∀(i:U)(y:qu),qB[i]? =T y->(b:Z)<=y.up/\y.up<b+1+qB.length:=by intro i y h;have:=o i y h;rcases(s i y h).ins with e|⟨q,w,e,C,_⟩<;>omega);(have g: ∀(i:U)(y:qu),rest[i]? =T y->y.up=up\/(b:Z)+1+qB.length<=y.up:=by intro i y h;rcases(r i y h).ins with e|⟨q,w,e,C,_⟩;exact .inl e;right;omega);rcases idx3 E with ⟨rfl,rfl⟩|⟨i,rfl,hi⟩|⟨i,rfl,hi⟩;exact⟨L,J,m,.inl hu,λj y n=>o?,λj y n=>o?⟩;have q:=s i z hi;refine⟨by have:=q.lo;omega,q.le,by have:=q.hi;omega, ?_, ?_, ?_⟩;rcases q.ins with e|⟨p,y,e,D,u,t⟩;exact .inr ⟨0,x,by simpa using e,o?,z?,q.lo,q.hi⟩;exact .inr ⟨p+1,y,by rw[e];omega,o?,idx_k u,t⟩;intro j y n f B;rcases idx3 f with ⟨rfl,rfl⟩|⟨a,rfl,c⟩|⟨a,rfl,c⟩;have:=d i z hi;omega;exact q.C3 a y o? c B;have:=o i z hi;omega;intro j y n A f;have v:=d i z hi;rcases idx3 f with ⟨rfl,rfl⟩|⟨a,rfl,c⟩|⟨a,rfl,c⟩;omega;exact q.pre a y o? o? c;have:=o i z hi;omega;have q:=r i z hi;refine⟨by have:=q.lo;omega,q.le,q.hi, ?_, ?_, ?_⟩;rcases q.ins with e|⟨p,y,e,D,u,t⟩;exact .inl e;exact .inr ⟨p+1+qB.length,y,by rw[e];omega,o?,idx_r u,t⟩;intro j y n f B;rcases idx3 f with ⟨rfl,rfl⟩|⟨a,rfl,c⟩|⟨a,rfl,c⟩;exact q.lo;have M:=d a y c;have a2:=g i z hi;omega;exact q.C3 a y o? c B;intro j y n A f;have v:=g i z hi;rcases idx3 f with ⟨rfl,rfl⟩|⟨a,rfl,c⟩|⟨a,rfl,c⟩;omega;have M:=d a y c;have a2:=o a y c;omega;exact q.pre a y o? o? c
def JW(a:Z)(x:qu):qu:={ x with span:=⟨x.span.qG+a,x.span.to+a⟩ }
theorem LayX.shift{H:Z->Z->Prop}{up lo hi:Z}{b:U}{l:Y qu}(h:Z1 H up lo hi b l)(a:Z):Z1 H up (lo+a) (hi+a) b (l.map (JW a)):=by induction h with|nil up lo hi b h=>exact .nil _ _ _ _ o?|cons up lo hi b x qB rest hu h1 h2 e hk hr g f=>rw[e?,Y.map_append];refine .cons up (lo+a) (hi+a) b (JW a x) _ _ hu ?_ ?_ (λy d=>?_) g ?_;simp only[JW];omega;simp only[JW];omega;obtain⟨z,c,rfl⟩:=B?.1 d;exact e z c;simp only[j_];exact f
theorem lay_may{H:Z->Z->Prop}{i:qr}{n:Z}(h:Z1 H (-1) i.span.qG i.span.to 0 i.stops.l)(r:0<=i.span.qG)(o:i.span.to<=n):Ht i n:=by have b:=λk x a=>LayX.wW h o? k x a;have jv: ∀{k:U}{x:qu},i.stops.l[k]? =T x->k<i.stops.l.length:=λh=>(qK h).1;refine⟨⟨r,Go.Proofs.YtadahlbndbmdeaaGreat.Z1.le h,o⟩,λk x a=>?_,λk x a=>(b k x a).le,λk x a _=>⟨(b k x a).lo,(b k x a).hi⟩,λk x a p y hp c=>?_,λk x a=>(b k x a).C3,λk x a q y m hu c=>(b k x a).pre q y m o? c⟩;rcases(b k x a).ins with e|⟨q,y,e,j,_⟩<;>omega;rcases(b k x a).ins with e|⟨q,z,e,j,d,g,f⟩;omega;have:q=p:=o?;subst this;rw[c]at d;cases d;exact⟨g,f⟩
end Xr
namespace Xr
theorem Nk{st:qv}(h:ux st)(k:Z):qL (dD st k) (λv=>v.2=0->ux v.1):=by
 have hl:=h.may.dJ;unfold dD;refine Ut h ?_;rw[V z?];refine .ite (λ_=> .ret λd=>N d (by decide)) λc=>?_;have p:st.qi.l≠[]:=by intro e;rw[e]at c;simp at c
 have cz:=I?.2 p;rw[wi (n:=(st.qi.l.length:Z)-1),show(st.qi.l.length:Z)-1=((st.qi.l.length-1:U):Z)from o?];obtain⟨x,g⟩:=gl (l:=st.qi.l) (k:=st.qi.l.length-1) o?;refine .go (gi g) ?_;refine .bind (IX h k _ x (zj g) _ x.insts.l 0 false [] rfl z? z? (by simp[wa])) λv i=>?_;refine .ite (λ_=> .ret λd=>N d (by decide)) λ_=>?_;refine .ite (λ_=> .ret λd=>N d (by decide)) λ_=>?_;have hv2:v.2.length*17592186044416<=4096*17592186044416:=mulR _ i.1;refine .bind (Tp st h ⟨v.2.isEmpty,v.2⟩ (by have:=i.1;simp only;omega) (by have:=i.2;simp only;omega)) λw b=>?_;refine .ite (λj=> .ret λd=>N d (by simpa using j)) λj=>?_;rcases b with b|⟨_,b,a⟩;exact N (by simpa using j) b;refine .ite (λ_=> .ret λ_=>b) λr=>?_;have hlen:w.1.qi.l.length=st.qi.l.length:=by have:=a.1;simp only[X]at r;omega
 refine .bind (JC b x.cur (λy q f=>?_) (by intro e;rw[e]at hlen;simp at hlen;omega)) λu hu=> .ret hu;obtain⟨s,m,o⟩:=a.2 _ y f;rw[hlen,g]at m;cases m;rw[<- o];exact b.YQ y q
structure N1 (env:Sl qz):Prop where
 len:env.l.length<=64
 val: ∀p∈env.l,p.value.length<=65536
theorem Ax(name:qa)(env:Sl qz)(h:N1 env):qL (gH name env) (λv=>v.1.length<=65536):=by
 have hl:=h.len;have loop: ∀(d k:U),k+d=env.l.length->qL (yH (name,env,(k:Z))) (λv=>match v with| .inl y=>y.1.length<=65536| .inr _=>True):=by intro d;induction d with|zero=>intro k h;rw[yH.eq_1,V v?];exact .ret trivial|succ d b=>intro k hk;obtain⟨x,a⟩:=gl (l:=env.l) (k:=k) o?;rw[yH.eq_1,R v?,ws o?];refine .go (gi a) ?_;exact .ite (λ_=> .ret (h.val x (zj a))) λ_=>b (k+1) o?
 unfold gH;refine .bind (loop env.l.length 0 o?) λv hv=>?_;exact tW
theorem R6(s:qa)(hs:s.length<=2^28)(c:UInt8):qL (vL s c) (λv=> -1<=v/\v<s.length):=by
 have loop: ∀k:U,k<=s.length->qL (mc (s,c,(k:Z)-1)) (λv=> -1<=v/\v<s.length):=by intro k;induction k with|zero=>intro _;rw[mc.eq_1,V z?];exact .ret ⟨o?,o?⟩|succ k ih=>intro h;obtain⟨b,hb⟩:=gl (l:=s) (k:=k) o?;rw[show ((k+1:U):Z)-1=(k:Z)from o?,mc.eq_1,R z?,wi (n:=(k:Z)-1)];have:= @gi;exact tW
 unfold vL;have:= @wi;exact tW
theorem CL(n:Z)(b:0<=n)(a:n<=2^28):qL (w7 n) (λv=>v.length<=n+1):=by
 have loop: ∀(m:U)(n:Z)(s r:qa),m=n.toNat->0<=n->n<=2^28->(s.length:Z)+n<=2^29->qL (bT (n,s,r)) (λv=>(v.length:Z)<=s.length+n):=by intro m;induction m using s? with|_ m ih=>intro n s r hm b a hs;rw[bT.eq_1];have:= @wi;exact tW
 unfold w7;exact tW
section
variable (s:qa) (hs:s.length<=65536) (env:Sl qz) (line:Z) (x:qm) (sp:qg) (r2 out r4:Y qz)
include hs
theorem placeA(b:Z): ∀k:U,k<=s.length->qL (bh (s,env,line,(k:Z),b,x,sp,r2,out,r4)) (λv=>0<=v/\v<=k):=by intro k;induction k with|zero=>intro _;rw[bh.eq_1,V z?];exact .ret ⟨o?,o?⟩|succ k a=>intro h;obtain⟨c,e⟩:=gl (l:=s) (k:=k) o?;rw[bh.eq_1,R (by simp only[X];omega),wi (n:=((k+1:U):Z)-1),show((k+1:U):Z)-1=(k:Z)from o?];refine .go (gi e) ?_;refine .bind (aX c) λv _=>?_;exact .ite (λ_=>U_ (a o?) λv d=>⟨d.1,o?⟩) λ_=> .ret ⟨o?,o?⟩
theorem placeA2(b:Z): ∀k:U,k<=s.length->qL (yp (s,env,line,(k:Z),b,x,sp,r2,out)) (λv=>0<=v/\v<=k):=by intro k;induction k with|zero=>intro _;rw[yp.eq_1,V z?];exact .ret ⟨o?,o?⟩|succ k a=>intro h;obtain⟨c,e⟩:=gl (l:=s) (k:=k) o?;rw[yp.eq_1,R (by simp only[X];omega),wi (n:=((k+1:U):Z)-1),show((k+1:U):Z)-1=(k:Z)from o?];refine .go (gi e) ?_;refine .bind (aX c) λv _=>?_;exact .ite (λ_=>U_ (a o?) λv d=>⟨d.1,o?⟩) λ_=> .ret ⟨o?,o?⟩
theorem placeB(a:Z): ∀(d k:U),k+d=s.length->qL (bj (s,env,line,a,(k:Z),x,sp,r2,out,r4)) (λv=>k<=v/\v<=s.length):=by intro d;induction d with|zero=>intro k h;rw[bj.eq_1,V v?];exact .ret ⟨o?,o?⟩|succ d b=>intro k h;obtain⟨c,f⟩:=gl (l:=s) (k:=k) o?;rw[bj.eq_1,R v?,ws o?];refine .go (gi f) ?_;refine .bind (aX c) λv _=>?_;exact .ite (λ_=>U_ (b (k+1) o?) λv e=>⟨o?,e.2⟩) λ_=> .ret ⟨o?,o?⟩
theorem placeB2(a:Z): ∀(d k:U),k+d=s.length->qL (yq (s,env,line,a,(k:Z),x,sp,r2,out)) (λv=>k<=v/\v<=s.length):=by intro d;induction d with|zero=>intro k h;rw[yq.eq_1,V v?];exact .ret ⟨o?,o?⟩|succ d b=>intro k h;obtain⟨c,f⟩:=gl (l:=s) (k:=k) o?;rw[yq.eq_1,R v?,ws o?];refine .go (gi f) ?_;refine .bind (aX c) λv _=>?_;exact .ite (λ_=>U_ (b (k+1) o?) λv e=>⟨o?,e.2⟩) λ_=> .ret ⟨o?,o?⟩
end
section
def N7(l:Y qz):Prop:= ∀p∈l,p.value.length<=1048576
theorem cY{p:qz}{l:Y qz}(h:p.value.length<=1048576)(hl:N7 l):N7 (p::l):=λq hq=>by rcases K?.1 hq with rfl|hq;exact h;exact hl q hq
variable {s:qa} (hs:s.length<=65536) {env:Sl qz} (he:N1 env)
include hs he
theorem RF(x:qm)(h0:0<=(vA x).qG)(u:(vA x).to<=s.length):qL (aJ s x env) (λv=>v.1.l.length<=100/\N7 v.1.l):=by
 have SF:=he.len;have hE:N7 env.l:=λp hp=>by have:=he.val p hp;omega
 have hx:=QQ x;obtain⟨k,hk⟩: ∃k:U,x.head=k:=⟨x.head.toNat,o?⟩;have hA:=Cr s o? x.head;unfold aJ;refine .go (Vq x) ?_;rw[V v?];have lines: ∀{β:Type}{Q:β->Prop}{f:(Z×Z)->qa->Option β},(∀ v r,0<=v.1->v.1<=65536->r.length<=65536->qL (f v r) Q)->qL (eJ s x.head>>=λv=>bF s v.1>>=λa=>dG s v.1>>=λb=>wz s a.1 b.1>>=λr=>f v r) Q:=by intro β Q f hf;refine .bind hA λv j=>?_;obtain⟨a,b,c,g1,g2,g3,g4,g5,_⟩:=XN s o? v.1;refine .go g1 (J' g2 ?_);refine .bind (qL.wz u? u? u?) λr y=>?_;have q:=H9 s x.head.toNat;have hb2:=Cu s;have:=y.2;simp only at this;refine hf v r ?_ ?_ o?<;>rcases j with ⟨_,_,_,j⟩|⟨_,j,_⟩<;>omega
 have J: ∀(n:U)(e:Y qz),n<=36->e.length<=36->N7 e->qL (if ql (n+env.l.length) 32=K then T ((⟨false,e++env.l⟩:Sl qz),(0:Z))else none) (λv=>v.1.l.length<=100/\N7 v.1.l):=by intro n e hn hl j;refine .zY qC (.ret ⟨v?,λp hp=>?_⟩);rcases t?.1 hp with hp|hp;exact j p hp;exact hE p hp
 have E: ∀(m n:U)(e:Y qz)(L:qa->qa->qa->Y qz),m<=36->n<=36->e.length<=36->N7 e->(∀ a b c:qa,a.length<=65536->b.length<=65536->c.length<=65536->(L a b c).length<=36/\N7 (L a b c))-> ∀v:qa×Bool,v.1.length<=65536->
   qL (if v.2=K then vL v.1 47>>=λa=>nR v.1 (q?.wrap (a+(1:Z)))>>=λr=>vL r 46>>=λb=>if(decide (b>(0:Z)))=K then wo r b>>=λC=>wo v.1 (if (0:Z)>a then(0:Z)else a)>>=λh=>if ql n 32=K then if ql (n+env.l.length) 32=K then T ((⟨false,L r C h++env.l⟩:Sl qz),(0:Z))else none else none else wo v.1 (if (0:Z)>a then(0:Z)else a)>>=λh=>if ql n 32=K then if ql (n+env.l.length) 32=K then T ((⟨false,L r r h++env.l⟩:Sl qz),(0:Z))else none else none else if ql (m+env.l.length) 32=K then T ((⟨false,e++env.l⟩:Sl qz),(0:Z))else none) (λv=>v.1.l.length<=100/\N7 v.1.l):=by
  intro m n e L W hn hl j D v M;refine .ite (λ_=>?_) λ_=>J m e W hl j;refine .bind (R6 v.1 o? 47) λa t=>?_;rw[wi (n:=a+1)];refine .bind .nR λr y=>?_;have AL:=y.2;refine .bind (R6 r o? 46) λb q=>?_;have dir:qL (wo v.1 (if (0:Z)>a then(0:Z)else a)) (λz=>z.length<=65536):=U_ (qL.wo (by split<;>omega) (by split<;>omega)) λz P=>by have:=P.2;split at this<;>omega
  refine .ite (λc=>?_) λ_=>?_
  ·simp only[X]at c;refine .bind .wo λC u=>?_;have h1l:=u.2;refine .bind dir λh i=>q13 qC ?_;exact J n _ hn (D r C h o? o? i).1 (D r C h o? o? i).2
  refine .bind dir λh i=>q13 qC ?_;exact J n _ hn (D r r h o? o? i).1 (D r r h o? o? i).2
 have d: ∀n:Z,0<=n->n<=65537->qL (w7 n) (λv=>v.length<=65538):=λn a b=>U_ (CL n a o?) λv j=>o?;have get:=λn=>Ax n env he;rw[hk]at lines |-;refine .ite (λc=>?_) λc=>?_;{simp only[X]at c;refine .bind .wz λr7 h7=>q13 qC ?_;have h7l:=h7.2;refine lines λv r B M y=>?_;refine .zY qC ?_;refine .bind (placeA s hs env _ x _ _ _ _ _ k o?) λa t=>?_;refine .bind (placeB s hs env _ x _ _ _ _ a (s.length-k) k o?) λb q=>?_;rw[wi (n:=v.1+1)];refine .ite (λA=>?_) λA=>?_;{simp only[X]at A;refine .bind .wz λw H=>?_;have F:=H.2;refine .zY qC ?_;refine .bind (d _ B o?) λd1 u=>?_;refine .bind (d _ o? o?) λd2 i=>?_;refine .zY qC ?_;refine .bind (get _) λg o=>?_;exact E _ _ _ (λa b c=>_) (by omega) (by omega) (by simp) (by repeat (first|refine cY (by simp only;omega) ?_|exact λp hp=>N hp (by simp))) (λa b c t q I=>⟨by simp,(by repeat (first|refine cY (by simp only;omega) ?_|exact λp hp=>N hp (by simp)))⟩) g o};refine .bind (d _ B o?) λd1 u=>?_;refine .bind (d _ o? o?) λd2 i=>?_;refine .zY qC ?_;refine .bind (get _) λg o=>?_;exact E _ _ _ (λa b c=>_) (by omega) (by omega) (by simp) (by repeat (first|refine cY (by simp only;omega) ?_|exact λp hp=>N hp (by simp))) (λa b c t q I=>⟨by simp,(by repeat (first|refine cY (by simp only;omega) ?_|exact λp hp=>N hp (by simp)))⟩) g o};skip;refine lines λv r B M y=>?_;refine .zY qC ?_;refine .bind (placeA2 s hs env _ x _ _ _ _ k o?) λa t=>?_;refine .bind (placeB2 s hs env _ x _ _ _ a (s.length-k) k o?) λb q=>?_;rw[wi (n:=v.1+1)];refine .ite (λA=>?_) λA=>?_;{simp only[X]at A;refine .bind .wz λw H=>?_;have F:=H.2;refine .zY qC ?_;refine .bind (d _ B o?) λd1 u=>?_;refine .bind (d _ o? o?) λd2 i=>?_;refine .zY qC ?_;refine .bind (get _) λg o=>?_;exact E _ _ _ (λa b c=>_) (by omega) (by omega) (by simp) (by repeat (first|refine cY (by simp only;omega) ?_|exact λp hp=>N hp (by simp))) (λa b c t q I=>⟨by simp,(by repeat (first|refine cY (by simp only;omega) ?_|exact λp hp=>N hp (by simp)))⟩) g o};refine .bind (d _ B o?) λd1 u=>?_;refine .bind (d _ o? o?) λd2 i=>?_;refine .zY qC ?_;refine .bind (get _) λg o=>?_;exact E _ _ _ (λa b c=>_) (by omega) (by omega) (by simp) (by repeat (first|refine cY (by simp only;omega) ?_|exact λp hp=>N hp (by simp))) (λa b c t q I=>⟨by simp,(by repeat (first|refine cY (by simp only;omega) ?_|exact λp hp=>N hp (by simp)))⟩) g o
end
end Xr
namespace Xr
theorem Dc(s:qa)(hs:s.length<=65536)(line:Z):qL (aQ s line) (λv=>v.1.length<=65536):=by
 have loop: ∀(f:Z)(d k:U),k+d=s.length->qL (yV (s,f,(k:Z))) (λv=>k<=v/\v<=s.length):=by intro f d;induction d with|zero=>intro k h;rw[yV.eq_1,V v?];exact .ret ⟨o?,o?⟩|succ d i=>intro k h;obtain⟨b,m⟩:=gl (l:=s) (k:=k) o?;have g:=i (k+1) o?;rw[yV.eq_1,R v?,ws o?];refine .go (gi m) ?_;exact .ite (λ_=>U_ g λv e=>⟨o?,e.2⟩) λ_=>x_ (λ_=>U_ g λv e=>⟨o?,e.2⟩) λ_=> .ret ⟨o?,o?⟩
 unfold aQ;obtain⟨a,b,c,g1,_,g3,g4,g5,_⟩:=XN s o? line;refine .go g1 ?_;refine .ite (λ_=> .ret z?) λ_=>?_;obtain⟨k,rfl⟩: ∃k:U,a=k:=⟨a.toNat,o?⟩;refine .bind (loop k (s.length-k) k o?) λv e=>?_;refine .bind (qL.wz u? u? o?) λr j=> .ret ?_;have:=j.2;simp only at this |-;omega
structure Gk (q:Y qm) (es:Y qf) (mz:Y (Sl qu)):Prop where
 le:es.length=mz.length
 each: ∀(j:U) e,es[j]? =T e-> ∃x m,q[j]? =T x/\mz[j]? =T m/\e.span=vA x/\C9 e.text m.l
theorem Gk.MJ{q:Y qm}{es:Y qf}{g:Y (Sl qu)}(h:Gk q es g){x:qm}(hx:q[es.length]? =T x){t:qa}{m:Sl qu}(hm:C9 t m.l):Gk q (es++[⟨vA x,t⟩]) (g++[m]):=by have f:=h.le;refine⟨by simp[f],λj e i=>?_⟩;by_cases c:j<es.length;rw[c? c]at i;obtain⟨y,z,a,b,c1,d⟩:=h.each j e i;exact tW;exact tW
theorem OP{st:qv}(h:ux st)(l:Sl qF)(hl:qS (l.l.map sJ)<=8192002){env:Sl qz}(t:N1 env)(unit:qa)(hu:unit.length<=65536)(t6:qv): ∀(r:Y qm)(i:U)(es:Y qf)(d:Y (Sl qu)),st.zP.l.drop i=r->es.length=i->Gk st.zP.l es d->
  qL (uO (l,env,unit,(i:Z),st,t6,es,d)) (λv=>match v with| .inl y=>y.1≠0| .inr y=>y.1.length=st.zP.l.length/\Gk st.zP.l y.1 y.2):=by have h64:=h.may.Kb;have p:=h.may.text;intro r;induction r with|nil=>(intro i es d j g b;have:=zd j;rw[uO.eq_1,V v?];refine .ret ⟨?_,b⟩;cases ec:es.length with|zero=>omega|succ k=>obtain⟨e,f⟩:=gl (l:=es) (k:=k) o?;obtain⟨x,m,a,_⟩:=b.each k e f;have:=(qK a).1;omega)|cons x r q=>intro i es d j g b;obtain⟨g1,g2,g3⟩:=zx j;have n:=h.may.Zj x (zj g1);have hle:=b.le;rw[uO.eq_1,R v?,ws o?];refine .go (gi g1) ?_;refine .go (Vq x) ?_;refine .bind (RF p t x n.1 n.2) λv o=>?_;refine .bind (Cr st.text o? (vA x).qG) λa _=>?_;refine .bind (Dc st.text p a.1) λld hld=>?_;refine .bind (Ca ⟨by have:=o.1;omega,o.2,o?,o?⟩ l hl) λm s=>?_;refine .ite (λc=> .ret (by simpa using c)) λc=>?_;refine .zY qC (q13 qC ?_);exact q (i+1) _ _ g2 (by simp[g]) (b.MJ (by rw[g];exact g1) (s (by simpa using c)))
structure C8 (i:qr):Prop where
 SM: ∃H:Z->Z->Prop,Z1 H (-1) i.span.qG i.span.to 0 i.stops.l
 len:i.stops.l.length<=257
 stop: ∀x∈i.stops.l,rA x
 free: ∃x∈i.stops.l,x.qR=false
def Kd:Z->Z->Y qr->Prop
 |lo,hi,[]=>lo<=hi
 |lo,hi,i::l=>lo<=i.span.qG/\C8 i/\Kd i.span.to hi l
theorem Kd.le: ∀{l:Y qr}{lo hi:Z},Kd lo hi l->lo<=hi:=by intro l;induction l with|nil=>intro lo hi h;exact h|cons i l a=>intro lo hi h;obtain⟨H,b⟩:=h.2.1.SM;have:=Go.Proofs.YtadahlbndbmdeaaGreat.Z1.le b;have:=a h.2.2;have:=h.1;omega
theorem Kd.each: ∀{l:Y qr}{lo hi:Z},Kd lo hi l-> ∀(a:U) i,l[a]? =T i->lo<=i.span.qG/\i.span.to<=hi/\C8 i/\ ∀(b:U) j,a<b->l[b]? =T j->i.span.to<=j.span.qG:=by intro l;induction l with|nil=>intro lo hi h a i c;simp at c|cons i l d=>intro lo hi h a j c;obtain⟨H,g⟩:=h.2.1.SM;have h1:=Go.Proofs.YtadahlbndbmdeaaGreat.Z1.le g;cases a with|zero=>(simp only[i?,wO]at c;subst c;refine⟨h.1,Kd.le h.2.2,h.2.1,λb k f e=>?_⟩;cases b with|zero=>omega|succ b=>exact(d h.2.2 b k (by simpa using e)).1)|succ a=>obtain⟨a1,a2,a3,a4⟩:=d h.2.2 a j (by simpa using c);refine⟨by have:=h.1;omega,a2,a3,λb k f e=>?_⟩;exact tW
theorem Kd.may{l:Y qr}{hi:Z}(h:Kd 0 hi l):eE l hi:=by refine⟨λa i c=>?_,λa b i j m c d=>(Kd.each h a i c).2.2.2 b j m d⟩;obtain⟨k,g,f,_⟩:=Kd.each h a i c;obtain⟨H,e⟩:=f.SM;exact lay_may e k g
def Ch(n:Z):Z->Y qf->Prop
 |p,[]=>p<=n
 |p,e::r=>p<=e.span.qG/\e.span.qG<=e.span.to/\Ch n e.span.to r
theorem OR(es:Sl qf)(h:Z)(i:U)(qp:Z)(r t6:qv)(d:Y (Sl qu))(w:qa)(w2:Sl qm)(g:Y qb)(f:Sl (Sl (Sl Z)))(s:Z)(t:Y qr)(b a:Z)(m:Sl qu)(e:d[i]? =T m)(Ub:m.l.length<=257)(ha:0<=qp/\qp<=2^40)(o: ∀x∈m.l,0<=x.span.qG/\x.span.qG<=x.span.to/\x.span.to<=65536):
  ∀(q:Y qu)(k:U)(out:Y qu),m.l.drop k=q->out.length=k->uQ (es,h,(i:Z),qp,(k:Z),r,t6,d,w,w2,g,f,s,t,b,a,out)=T (out++q.map (JW qp)):=by intro q;induction q with|nil=>intro k out c p;have:=zd c;rw[uQ.eq_1,gi e];simp only[zl,qM];rw[V v?];simp|cons x q j=>intro k out c p;obtain⟨g1,g2,g3⟩:=zx c;have hx:=o x (zj g1);rw[uQ.eq_1,gi e];simp only[zl,qM];rw[R v?,gi g1];simp only[qM];rw[R qC,ws o?,wi (n:=x.span.qG+qp),wi (n:=x.span.to+qp),j (k+1) _ g2 v?];simp[JW]
theorem OQ(n:Z)(hn:0<=n/\n<=65536)(es:Sl qf)(hl:es.l.length<=64)(F t6:qv)(q:Y qm)(f:Y (Sl qu))(hM:Gk q es.l f)(w:qa)(w2:Sl qm)(C:Y qb)(B:Sl (Sl (Sl Z)))(s:Z): ∀(r:Y qf)(i:U)(a p:Z)(b:Y qr),es.l.drop i=r->i<=64->Ch n p r->0<=p->0<=p+a-> -(i:Z)*65536<=a->a<=(i:Z)*65536->b.length=i->
  qL (uP (es,a,(i:Z),F,t6,f,w,w2,C,B,s,b)) (λv=> ∃l,v=b++l/\l.length=r.length/\Kd (p+a) (n+a+dO r) l):=by intro r;induction r with|nil=>intro i a p b A hi u _ _ _ _ _;have:=zd A;rw[uP.eq_1,V v?];refine .ret ⟨[],z?,rfl, ?_⟩;simp only[Kd,dO,Y.map_nil,Y.sum_nil];have:p<=n:=u;omega|cons e r g=>(intro i a p b A hi u hp hpb GR hb2 P;obtain⟨g1,g2,g3⟩:=zx A;obtain⟨x,m,_,Q,_,c⟩:=hM.each i e g1;obtain⟨c1,c2,E⟩:=u;have t: ∀(r:Y qf)(p:Z),Ch n p r->p<=n:=by intro r;induction r with|nil=>intro p h;exact h|cons e r g=>intro p h;have h1:=g _ h.2.2;have:=h.1;have:=h.2.1;omega);have hen:=t r _ E;have htl:=c.len;obtain⟨H,D,_⟩:=c.SM;rw[uP.eq_1,R v?,ws o?];refine .go (gi g1) ?_;rw[wi (n:=e.span.qG+a)];refine .go (OR es a i _ F t6 f w w2 C B s b _ _ m Q c.many.2 ⟨o?,o?⟩ (λy o=>?_) m.l 0 [] rfl rfl) ?_;obtain⟨k,W⟩:=kS o;have:=LayX.wW D o? k y W;exact⟨this.lo,this.le,by have:=this.hi;omega⟩;refine .zY qC ?_;rw[wi (n:=e.span.qG+a+(e.text.length:Z)),wi (n:=a+(e.text.length:Z)),wi (n:=e.span.to-e.span.qG),wi (n:=a+(e.text.length:Z)-(e.span.to-e.span.qG))];have d:=LayX.shift D (e.span.qG+a);simp only[M?];refine .mono (g (i+1) _ e.span.to _ g2 o? E o? o? (by push_cast;omega) (by push_cast;omega) (by simp[P])) λv M=>?_;obtain⟨l,L,J,I⟩:=M;refine⟨_::l,by rw[L,M!];rfl,by simp[J],⟨u?,⟨⟨H, ?_⟩, ?_,λy o=>?_, ?_⟩, ?_⟩⟩;simp only;rw[show (0:Z)+(e.span.qG+a)=e.span.qG+a from o?,show((e.text.length:Z)+(e.span.qG+a))=e.span.qG+a+e.text.length from o?]at d;exact d;simp only[j_];exact c.many.2;obtain⟨z,j,rfl⟩:=B?.1 o;exact c.qZ z j;obtain⟨z,j,h⟩:=c.free;exact⟨JW _ z,B?.2 ⟨z,j,rfl⟩,h⟩;simp only;rw[show e.span.qG+a+(e.text.length:Z)=e.span.to+(a+e.text.length-(e.span.to-e.span.qG))from o?];rw[show n+a+dO (e::r)=n+(a+e.text.length-(e.span.to-e.span.qG))+dO r from by simp only[dO,e?,g!,gE];omega];exact I
end Xr
namespace Xr
theorem well_fin{w:World}(hu:WK w){y:Y qb}(a:Fin w.1.length w.2.2.1 y)(h8:w.2.2.1.length<=8):ux ⟨w.1,w.2.1,⟨false,y⟩⟩:=by have W0:=a.YQ.1;refine⟨⟨hu.text,u?,hu.ok.ne,hu.ok.Kb,hu.ok.Zj,hu.ok.Gr,a.ok.may,λj s hs=>?_⟩,a.ok.small,a.ok.stop,λs hs=>?_,hu.ok.qn⟩;have:=a.closed j s (qK hs).1 hs;exact⟨this.1,this.2.2⟩;obtain⟨j,b⟩:=kS hs;exact(a.closed j s (qK b).1 b).2.1
theorem chain_es{n:U}{q:Y qm}(hi:Jb n q)(l:Hs q): ∀(es:Y qf)(j:U)(p:Z),(∀(k:U) e,es[k]? =T e-> ∃x,q[j+k]? =T x/\e.span=vA x)->p<=n->(∀ x,q[j]? =T x->p<=(vA x).qG)->Ch n p es:=by intro es;induction es with|nil=>intro j p _ h _;exact h|cons e es i=>intro j p h hp d;obtain⟨x,f,a⟩:=h 0 e z?;have c:=hi x (zj f);have g:=sK x;refine⟨by rw[a];exact d x f,by rw[a];exact g,i (j+1) _ (λk r o =>?_) (by rw[a];exact c.2) λy b=>?_⟩;obtain⟨y,b,m⟩:=h (k+1) r (by simpa using o);exact⟨y,by rw[show j+1+k=j+(k+1)from o?];exact b,m⟩;rw[a];obtain⟨t,a2⟩:=qK f;obtain⟨s,b2⟩:=qK b;have:=Y.pairwise_iff_getElem.1 l j (j+1) t s o?;simp only[U.add_zero]at a2;rw[a2,b2]at this;omega
theorem push_tot{w:World}(a:WK w)(s:qb)(hs:jY s)(h:eE s.insts.l w.1.length)(k: ∀i∈s.insts.l,∀ x∈i.stops.l,rA x)(h8:w.2.2.1.length<8):qL (mR s w.1 w.2.1 w.2.2.1 w.2.2.2) (λv=>v.1=w.2.2.1++[s]/\WK (w.1,w.2.1,v.1,v.2)):=by
 obtain⟨f,f1,f2⟩:=V6 s hs;have e:=a.ok.U0;unfold mR;refine .zY qC (J' f1 (q13 qC (.ret ⟨rfl,⟨?_,a.text⟩⟩)));have d: ∀{P:qb->Prop},(∀ x∈w.2.2.1,P x)->P s-> ∀x∈w.2.2.1++[s],P x:=by intro P o n x hx;rcases t?.1 hx with hx|hx;exact o x hx;simp only[d?]at hx;subst hx;exact n
 refine⟨a.ok.blen,a.ok.ne,a.ok.qn,a.ok.Kb,a.ok.Gr,a.ok.Zj,v?,d a.ok.small hs,d a.ok.may h,by simp[e],λ_=>rfl,λj x g hx b=>?_,d a.ok.stop k⟩;by_cases c:j<w.2.2.1.length;rw[c? c]at hx;simp only at b;rw[c? o?]at b;exact a.ok.each j x g hx b;have m:=(qK hx).1;simp only[p?,u!]at m;have:j=w.2.2.1.length:=o?;subst this;rw[J? (ke _)]at hx;simp only at b;rw[J? o?,e]at b;simp only[q20,i?,wO]at hx b;subst hx;rw[<- b];exact f2
theorem Df{st:qv}(h:ux st)(l:Sl qF)(hl:qS (l.l.map sJ)<=8192002){env:Sl qz}(he:N1 env):qL (dE st l env) (λv=>v.2=0->ux v.1):=by
 have ht:=h.may.text;have h64:=h.may.Kb;have cz:=I?.2 h.may.ne;unfold dE;refine Ut h ?_;rw[V z?];refine .bind (Gl l o?) λa _=>?_;refine .ite (λ_=> .ret λg=>N g (by decide)) λ_=>?_;refine .bind (Ax _ env he) λu hu=>?_;refine .bind (OP h l hl he u.1 hu _ st.zP.l 0 [] [] rfl rfl ⟨rfl,z?⟩) λv H=>?_;rcases v with v|v;exact .ret λg=>N g H;obtain⟨es,mz⟩:=v;obtain⟨v1,I⟩:=H;simp only at v1 I |-;have hT:wa es<=es.length*65536:=MQ es 65536 λe W=>by obtain⟨k,A⟩:=kS W;obtain⟨x,m,_,_,_,hm⟩:=I.each k e A;exact hm.len
 have hT2:es.length*65536<=64*65536:=mulR _ o?;refine .bind (E6 (st.text.length:Z) o? ⟨es.isEmpty,es⟩ u? u?) λc hc=>?_;refine .ite (λc0=> .ret λg=>N g (by simpa using c0)) λc0=>?_;obtain⟨e1,e2⟩:=hc (by simpa using c0);simp only at e1 e2;obtain⟨fl,b1,b2⟩:=T7 st h;refine .go b1 ?_;refine .bind (az (st.text,⟨false,st.zP.l⟩,st.qi.l,fl) b2.ok ht ⟨es.isEmpty,es⟩ e1 u? u?) λw hw=>?_;have M:=hw.text;simp only at M;refine .ite (λ_=> .ret λg=>N g (by decide)) λE=>?_;have P:w.2.2.1.length<8:=by simp only[X]at E;omega
 have HT:Ch st.text.length 0 es:=chain_es (n:=st.text.length) h.may.Zj h.may.Gr es 0 0 (λk e A=>by
  obtain⟨x,m,a,_,b,_⟩:=I.each k e A
  exact⟨x,by rw[U.zero_add];exact a,b⟩) o? λx F=>(h.may.Zj x (zj F)).1
 refine .bind (OQ st.text.length ⟨o?,o?⟩ ⟨es.isEmpty,es⟩ u? st _ st.zP.l mz I w.1 w.2.1 w.2.2.1 w.2.2.2 0 es 0 0 0 [] rfl o? HT o? o? o? o? rfl) λis Q=>?_;obtain⟨SL,i1,i2,i3⟩:=Q;simp only[M?]at i1;subst i1;rw[show (0:Z)+0=0 from rfl,show(st.text.length:Z)+0+dO es=w.1.length from o?]at i3;have B:=Kd.may i3;have hisl:is.length<=64:=o?;have f: ∀i∈is,C8 i:=λi hi=>by obtain⟨k,A⟩:=kS hi;exact(Kd.each i3 k i A).2.2.1
 have hb: ∀i∈is,i.stops.l.length<=2^12:=λi hi=>by have:=(f i hi).len;omega
 refine .bind (Xq ⟨is.isEmpty,is⟩ hb u?) λns OG=>?_;have kN:ns.l≠[]:=by refine OG.2 ?_;obtain⟨i,hi⟩:=gl (l:=is) (k:=0) o?;exact⟨i,zj hi,(f i (zj hi)).free⟩
 have j:=I?.2 kN;obtain⟨x,F⟩:=gl (l:=ns.l) (k:=0) j;refine .go (gi F) ?_;have hxs:yY x is≠[]:=OG.1.of x (zj F);have hWK:WK w:=⟨hw.ok,o?⟩;refine .bind (push_tot hWK ⟨x,⟨is.isEmpty,is⟩⟩ ⟨u?,hb⟩ B (λi hi=>(f i hi).stop) P) λp hp=>?_;obtain⟨p1,p2⟩:=hp;have hplen:p.1.length=w.2.2.1.length+1:=by rw[p1];simp
 refine .bind (Uw (w.1,w.2.1,p.1,p.2) p2) λu hu=>?_;refine .ite (λE=> .ret λg=>N g (by simpa using E)) λE=>?_;rcases hu with hu|⟨_,hu,t⟩;exact N (by simpa using E) hu;have hulen:u.2.2.2.1.length=p.1.length:=t.len;have D: ∀y,Fin u.2.1.length u.2.2.2.1 y->qL (if (decide ((y.length:Z)<(p.1.length:Z)))=K then T ((qv.mk u.2.1 u.2.2.1 (⟨false,y⟩:(Sl qb))),(0:Z))else rR u.2.1 u.2.2.1 x y>>=λXE=>T (XE.1,XE.2)) (λv=>v.2=0->ux v.1):=by (intro y o;have d:=well_fin hu o o?;refine .ite (λ_=> .ret λ_=>d) λc2=>?_;have r:y.length=p.1.length:=by have:=o.YQ.1;simp only[X]at c2;omega);refine .bind (Ob d x (λz hz L=>?_) (by intro e;simp only at e;rw[e]at r;simp at r;omega)) λv H=> .ret H;obtain⟨s,J,s2⟩:=o.YQ.2 _ z L;have C:y.length-1=w.2.2.1.length:=o?;obtain⟨s',t1,t2⟩:=t.cur w.2.2.1.length ⟨x,⟨is.isEmpty,is⟩⟩ (by simp only[p1];rw[J? (ke _)];simp);simp only at J;rw[C]at J;have q :u.2.2.2.1[w.2.2.1.length]? =T s' :=t1;rw[J]at q;cases q;have:z.cur=x:=s2.trans t2;rw[<- this];exact d.YQ z hz
 refine .bind (Gu u.2 hu.ok) λy o=>?_;rcases y with y|y;exact D y o;exact D y o
end Xr
namespace Xr
theorem tR(b:UInt8):qL (wX b) (λ_=>True):=by unfold wX;split<;>exact .ret trivial
theorem cA(b:UInt8):qL (yD b) (λ_=>True):=by unfold yD;(repeat' split)<;>exact .ret trivial
theorem Uz(s:qa):qL (kh s) (λ_=>True):=by
 have loop:s.length<=64-> ∀(d k:U),k+d=s.length->qL (jL (s,(k:Z))) (λ_=>True):=by intro hs d;induction d with|zero=>intro k h;rw[jL.eq_1,V v?];exact .ret trivial|succ d e=>intro k h;obtain⟨b,f⟩:=gl (l:=s) (k:=k) o?;have a:=e (k+1) o?;rw[jL.eq_1,R v?,ws o?];refine .go (gi f) ?_;refine .bind (cA b) λv _=>?_;refine .ite (λ_=>x_ (λ_=>x_ (λ_=> .ret trivial) λ_=>?_) λ_=>a) λ_=>a;refine .bind (tR b) λv _=>?_;exact .ite (λ_=> .ret trivial) λ_=>a
 unfold kh;refine .ite (λ_=> .ret trivial) λc=>?_;simp only[Bool.or_eq_true,X,not_or]at c;refine .bind (loop o? s.length 0 o?) λv _=>?_;rcases v with v|v<;>exact .ret trivial
theorem set_tot(name value:qa){env:Sl qz}(f:N1 env):qL (eW name value env) (λv=>v.2=0->N1 v.1):=by
 have hl:=f.len;unfold eW;refine .bind (Uz name) λa _=>?_;refine .ite (λ_=> .ret λb=>N b (by decide)) λ_=>?_;refine .ite (λ_=> .ret λb=>N b (by decide)) λc=>?_;have g:value.length<=65536:=by simp only[X]at c;omega
 refine .zY qC ?_;have loop: ∀(d k:U),k+d=env.l.length->qL (pL (name,value,(k:Z),env.l)) (λv=>match v with| .inl y=>y.1=0->N1 ⟨false,y.2⟩| .inr _=>True):=by intro d;induction d with|zero=>intro k h;rw[pL.eq_1,V v?];exact .ret trivial|succ d i=>intro k h;obtain⟨x,j⟩:=gl (l:=env.l) (k:=k) o?;rw[pL.eq_1,R v?,ws o?];refine .go (gi j) ?_;refine .ite (λ_=> .ret λ_=>⟨v?,λp hp=>?_⟩) λ_=>i (k+1) o?;rcases Y.mem_or_eq_of_mem_set hp with hp|rfl;exact f.val p hp;exact g
 refine .bind (loop env.l.length 0 o?) λv e=>?_;rcases v with v|v;exact .ret e;refine .ite (λ_=> .ret λb=>N b (by decide)) λm=>?_;have jv:env.l.length<64:=by simp only[X]at m;omega
 refine .zY qC (.ret λ_=>⟨v?,λp hp=>?_⟩);rcases t?.1 hp with hp|hp;exact f.val p hp;simp only[d?]at hp;subst hp;exact g
structure Is (o:pq):Prop where
 text:o.text.length<=65536
 es:o.edits.l.length<=10
 et:wa o.edits.l<=2^60
 qs:o.zP.l.length<2^60
theorem FN{b:qa}{q:Sl qm}{f:Sl qb}(h:ux ⟨b,q,f⟩){env:Sl qz}(m:N1 env){o:pq}(e:Is o)(r j:Sl qv):qL (bE o b q f env r j) (λv=>v.2.2=0->ux v.1):=by
 have ht:b.length<=65536:=h.may.text;have g:q.l.length<=64:=h.may.Kb;have e8:Jb b.length q.l:=h.may.Zj;have i: ∀es:Sl qf,es.l.length<=2^19->wa es.l<=2^60->qL (dC (qv.mk b q f) es>>=λv=>T (v.1,K,v.2)) (λv=>v.2.2=0->ux v.1):=λes u t=>Y' (Tp _ h es u t) λv a=> .ret λd=>by rcases a with a|⟨_,a,_⟩;exact N d a;exact a
 have s: ∀{p:Option (qv×Z)},qL p (λv=>v.2=0->ux v.1)->qL (p>>=λv=>T (v.1,K,v.2)) (λv=>v.2.2=0->ux v.1):=λk=>Y' k λv a=> .ret a;unfold bE;refine .ite (λ_=>?_) λ_=>?_;refine .bind (q0F q o.text g e.text) λv a=>i v (by have:=a.1;omega) (by have:=a.2;omega);refine .ite (λ_=>?_) λ_=>?_;have:= @CN;exact tW;refine .ite (λ_=>i o.edits (by have:=e.es;omega) e.et) λ_=>?_;refine .ite (λ_=>Y' (Qg (b.length:Z) o.zP e.qs) λv a=> .ret λd=>ux.sel h (a d)) λ_=>?_;refine .ite (λ_=>Y' (go_tot b o? o.n o.extend q o?) λv a=> .ret λd=>ux.sel h (a d)) λ_=>?_;refine .ite (λ_=>?_) λ_=>?_;refine .bind (DY o.text) λv a=>?_;refine .ite (λ_=>s (Df h v.1 a.1 m)) λc=> .ret λd=>N d (by simpa using c);have:= @Dy;have:= @DR;have:= @R8;have:= @Nk;exact tW
structure MW (b:qa) (q:Sl qm) (ss:Sl qb) (env:Sl qz) (r r2:Sl qv) (n:U):Prop where
 MU:ux ⟨b,q,ss⟩
 env:N1 env
 behind: ∀s∈r.l,ux s
 ahead: ∀s∈r2.l,ux s
 len:r.l.length<=n/\r2.l.length<=n
 nb:r.nil=K->r.l=[]
 na:r2.nil=K->r2.l=[]
theorem MW.mono{b:qa}{q:Sl qm}{a:Sl qb}{env:Sl qz}{r c:Sl qv}{n:U}(h:MW b q a env r c n):MW b q a env r c (n+1):=⟨h.MU,h.env,h.behind,h.ahead,by have:=h.len;omega,h.nb,h.na⟩
theorem QP{r:Y qv}(h: ∀s∈r,ux s){x:qv}(a:ux x): ∀s∈r++[x],ux s:=λs hs=>by rcases t?.1 hs with hs|hs;exact h s hs;simp only[d?]at hs;subst hs;exact a
theorem do30_tot{b:qa}{q:Sl qm}{t:Sl qb}{env:Sl qz}{r g:Sl qv}{n:U}(h:MW b q t env r g n)(hn:n<=50){o:pq}(w:Is o):qL (mT o b q t env r g) (λv=>match v with
  | .inl y=>MW y.2.1 y.2.2.1 y.2.2.2.1 y.2.2.2.2 r g (n+1)
  | .inr (.inl y)=>MW y.2.1 y.2.2.1 y.2.2.2.1 env y.2.2.2.2.2 y.2.2.2.2.1 (n+1)
  | .inr (.inr (.inl y))=>MW y.2.1 y.2.2.1 y.2.2.2.1 env y.2.2.2.2.1 y.2.2.2.2.2 (n+1)
  | .inr (.inr (.inr y))=>MW y.2.1 y.2.2.1 y.2.2.2.1 env y.2.2.2.2 ⟨K,[]⟩ (n+1)):=by
 have a:=h.mono;have hl:=h.len;have p: ∀s∈([]:Y qv),ux s:=z?;have swap: ∀{l:Sl qv},(l.nil=K->l.l=[])->(∀ s∈l.l,ux s)->l.l.length≠0-> ∃(k:U)(x:qv),l.l.length=k+1/\l.nil=false/\q?.wrap ((l.l.length:Z)-1)=(k:Z)/\qk l.l (k:Z)=T x/\wo l.l (k:Z)=T (l.l.take k)/\ux x/\(∀ s∈l.l.take k,ux s)/\(l.l.take k).length=k\/100<l.l.length:=by
  intro l j f d;by_cases c:100<l.l.length
  ·exact⟨0,qv.mk [] ⟨K,[]⟩ ⟨K,[]⟩,.inr c⟩
  obtain⟨k,d⟩: ∃k:U,l.l.length=k+1:=⟨l.l.length-1,o?⟩;obtain⟨x,u⟩:=gl (l:=l.l) (k:=k) o?;refine⟨k,x,.inl ⟨d, ?_, ?_,gi u,VC _ _ o?,f x (zj u),λs hs=>f s (Y.mem_of_mem_take hs),v?⟩⟩
  ·cases e:l.nil
   ·rfl
   rw[j e]at d;simp at d
  rw[wi (n:=(l.l.length:Z)-1)];omega
 unfold mT;refine .ite (λ_=>?_) λ_=>?_
 ·refine .bind (set_tot o.name o.text h.env) λv i=>?_;refine .ite (λc=> .ret ⟨h.MU,i (by simpa using c),h.behind,h.ahead,a.len,h.nb,h.na⟩) λ_=> .ret a
 refine .ite (λ_=>?_) λ_=>?_
 ·refine .ite (λ_=> .ret a) λc=>?_;obtain⟨k,x,⟨d,g0,m,g1,g2,g3,g4,g5⟩|hc⟩:=swap h.nb h.behind (by intro e;rw[e]at c;simp at c)
  ·rw[m];refine .ite (λe=>?_) λe=>?_
   ·rw[R (by rw[h.na e];rfl)];refine .zY qC ?_;rw[V (by simp[g0])];exact .go g1 (J' g2 (.ret ⟨g3,h.env,g4,QP p h.MU,by simp only[u!];omega,z?,z?⟩))
   refine .zY qC ?_;rw[V (by simp[g0])];exact .go g1 (J' g2 (.ret ⟨g3,h.env,g4,QP h.ahead h.MU,by simp only[p?,u!];omega,z?,z?⟩))
  omega
 refine .ite (λ_=>?_) λ_=>?_
 ·refine .ite (λ_=> .ret a) λc=>?_;obtain⟨k,x,⟨d,g0,m,g1,g2,g3,g4,g5⟩|hc⟩:=swap h.na h.ahead (by intro e;rw[e]at c;simp at c)
  ·rw[m];refine .ite (λe=>?_) λe=>?_
   ·rw[R (by rw[h.nb e];rfl)];refine .zY qC ?_;rw[V (by simp[g0])];exact .go g1 (J' g2 (.ret ⟨g3,h.env,QP p h.MU,g4,by simp only[u!];omega,z?,z?⟩))
   refine .zY qC ?_;rw[V (by simp[g0])];exact .go g1 (J' g2 (.ret ⟨g3,h.env,QP h.behind h.MU,g4,by simp only[p?,u!];omega,z?,z?⟩))
  omega
 refine .bind (FN h.MU h.env w r g) λv i=>?_;refine .ite (λ_=> .ret a) λc=>?_;have f:=i (by simpa using c);refine .ite (λ_=>?_) λ_=> .ret ⟨f,h.env,h.behind,h.ahead,a.len,h.nb,h.na⟩;refine .zY qC (q13 qC ?_);rw[V v?];refine .ret ⟨f,h.env,QP h.behind h.MU,z?, ?_,z?,z?⟩;simp only[p?,u!,r?];omega
theorem long_tot(n:Z)(hn:0<=n/\n<=1000)(a:Y qa)(hl:a.length<=10):qL (Q8 n a) (λv=>v=false-> ∀s∈a,(s.length:Z)<=n):=by
 have loop: ∀(r:Y qa)(i:U)(m:Z),a.drop i=r->0<=m->m<=n->qL (py (m,(i:Z),a)) (λv=>match v with| .inl y=>y=K| .inr _=> ∀s∈r,(s.length:Z)<=n):=by intro r;induction r with|nil=>intro i m h _ _;have:=zd h;rw[py.eq_1,V v?];exact .ret z?|cons x r ih=>intro i m h h0 h1;obtain⟨g1,g2,g3⟩:=zx h;rw[py.eq_1,R v?,ws o?];have:= @gi;have:= @wi;exact tW
 unfold Q8;refine .bind (loop a 0 n rfl hn.1 o?) λv b=>?_;rcases v with v|v;(have c:v=K:=b;exact .ret λh=>by rw[c]at h;cases h);exact .ret λ_=>b
theorem Rm(many n:Z)(hm:0<=many/\many<=100)(hn:0<=n/\n<=1000)(es:Sl qf):qL (eP many n es) (λv=>v=false->es.l.length<=many/\wa es.l<=n):=by
 unfold eP;refine .ite (λ_=> .ret z?) λc=>?_;simp only[X]at c;have loop: ∀(r:Y qf)(i:U)(m:Z),es.l.drop i=r->0<=m->m<=n->qL (pz (m,es,(i:Z))) (λv=>match v with| .inl y=>y=K| .inr _=>(wa r:Z)<=m):=by intro r;induction r with|nil=>intro i m h _ _;have:=zd h;rw[pz.eq_1,V v?];exact .ret (by simpa[wa])|cons x r d=>intro i m h h0 h1;obtain⟨g1,g2,g3⟩:=zx h;rw[pz.eq_1,R v?,ws o?];refine .go (gi g1) ?_;refine .ite (λ_=> .ret rfl) λc=>?_;simp only[X]at c;rw[wi (n:=m-(x.text.length:Z))];refine .mono (d (i+1) _ g2 o? o?) λv a=>?_;rcases v with v|v;exact a;simp only[wa,e?,g!]at a |-;push_cast;omega
 refine .bind (loop es.l 0 n rfl hn.1 o?) λv a=>?_;rcases v with v|v;(have b:v=K:=a;exact .ret λh=>by rw[b]at h;cases h);have b:(wa es.l:Z)<=n:=a;exact .ret λ_=>⟨o?,b⟩
theorem ops_tot(many n:Z)(hm:0<=many/\many<=50)(hn:0<=n/\n<=1000)(os:Sl pq):qL (Xl many n os) (λv=>v=false->os.l.length<=many/\ ∀o∈os.l,Is o):=by
 unfold Xl;refine .ite (λ_=> .ret z?) λc=>?_;simp only[X]at c;have q: ∀(i:U)(x:pq),os.l[i]? =T x->x.edits.l.length<=10-> ∀(r:Y qf)(k:U)(m:Z)(d:Y qa),x.edits.l.drop k=r->(wa r:Z)<=1000-> -5000+wa r<=m->m<=1000->qL (rI (m,os,(i:Z),(k:Z),d)) (λv=>v=m-wa r):=by intro i x j hxl r;induction r with|nil=>intro k m d h _ _ _;have:=zd h;rw[rI.eq_1];refine .go (gi j) ?_;rw[V v?];exact .ret (by simp[wa])|cons e r f=>(intro k m d h s h2 h3;obtain⟨g1,g2,g3⟩:=zx h;have hs:(wa (e::r):Z)=e.text.length+wa r:=by simp[wa]);rw[rI.eq_1];refine .go (gi j) ?_;rw[R v?,ws o?];refine .go (gi g1) ?_;rw[wi (n:=m-(e.text.length:Z))];exact .mono (f (k+1) _ d g2 o? o? o?) λv b=>o?
 have loop: ∀(r:Y pq)(i:U)(m:Z),os.l.drop i=r->0<=m->m<=n->qL (rH (m,os,(i:Z))) (λv=>match v with| .inl y=>y=K| .inr _=> ∀o∈r,Is o):=by intro r;induction r with|nil=>intro i m h _ _;have:=zd h;rw[rH.eq_1,V v?];exact .ret z?|cons x r f=>intro i m h p s;obtain⟨g1,g2,g3⟩:=zx h;rw[rH.eq_1,R v?,ws o?];refine .go (gi g1) ?_;refine .bind (long_tot m ⟨p,o?⟩ [x.name,x.text] z?) λv b=>?_;refine .ite (λ_=> .ret rfl) λD=>?_;have a:=b (by simpa using D);have hname:=a x.name z?;have htext:=a x.text z?;refine .ite (λ_=> .ret rfl) λC=>?_;refine .ite (λ_=> .ret rfl) λB=>?_;simp only[X]at C B;refine .bind (Rm 10 m o? ⟨p,o?⟩ x.edits) λu hu=>?_;refine .ite (λ_=> .ret rfl) λA=>?_;obtain⟨u1,u2⟩:=hu (by simpa using A);rw[wi (n:=m-(x.name.length:Z)),wi (n:=m-(x.name.length:Z)-(x.text.length:Z))];refine .bind (q i x g1 o? x.edits.l 0 _ _ rfl o? o? o?) λw hw=>?_;refine .ite (λ_=> .ret rfl) λt=>?_;simp only[X]at t;refine .mono (f (i+1) w g2 o? o?) λz g=>?_;rcases z with z|z;exact g;intro o ho;rcases K?.1 ho with rfl|ho;exact⟨o?,o?,o?,o?⟩;exact g o ho
 refine .bind (loop os.l 0 n rfl hn.1 o?) λv b=>?_;rcases v with v|v;(have E:v=K:=b;exact .ret λh=>by rw[E]at h;cases h);exact .ret λ_=>⟨o?,b⟩
theorem well0:ux ⟨[],⟨false,[⟨0,0⟩]⟩,⟨K,[]⟩⟩:=by refine⟨⟨z?,z?,z?,z?,λx a=>?_,by simp[Hs],z?,λj s hs=>by simp at hs⟩,z?,z?,z?,rfl⟩;simp only[d?]at a;subst a;exact⟨by decide,by decide⟩
theorem new_ok:QE=T (.inr (0,[],⟨false,[⟨0,0⟩]⟩,⟨K,[]⟩,⟨K,[]⟩)):=by unfold QE;rw[dF.eq_1,V z?];rfl
end Xr
namespace Xr
theorem O3(os:Sl pq)(hl:os.l.length<=40)(j: ∀o∈os.l,Is o)(t2:qv): ∀(r:Y pq)(i:U)(b:qa)(q:Sl qm)(a:Sl qb)(env:Sl qz)(d c:Sl qv),os.l.drop i=r->MW b q a env d c i->
  qL (vB (os,(i:Z),t2,b,q,a,env,d,c)) (λv=>ux ⟨v.1,v.2.1,v.2.2.1⟩):=by intro r;induction r with|nil=>intro i b q a env d c h g;have:=zd h;rw[vB.eq_1,V v?];exact .ret g.MU|cons o r e=>intro i b q a env d c h g;obtain⟨g1,g2,g3⟩:=zx h;rw[vB.eq_1,R v?,ws o?];refine .go (gi g1) ?_;refine .bind (do30_tot g o? (j o (zj g1))) λv f=>?_;rcases v with y|y|y|y;exact e (i+1) _ _ _ _ _ _ g2 f;exact e (i+1) _ _ _ _ _ _ g2 f;exact e (i+1) _ _ _ _ _ _ g2 f;exact e (i+1) _ _ _ _ _ _ g2 f
theorem CI(os:Sl pq)(hl:os.l.length<=40)(b: ∀o∈os.l,Is o):qL (iq os) ux:=by unfold iq;refine .go new_ok ?_;refine .bind (O3 os hl b _ os.l 0 _ _ _ _ _ _ rfl ⟨well0,⟨z?,z?⟩,z?,z?,z?,z?,z?⟩) λv a=> .ret a
end Xr
namespace Xr
theorem Fp: ∀(m:U)(d:Y qf)(a:U)(b:Y qf)(c:Y qf),m=b.length->a=c.length->(c.length+b.length+a)<2^20-> ∀f:Y qf,f.length=a->d=f++b++c->
  qL (xo ((a:Z),(a:Z)+b.length-1,d)) (λr=>r=f++b.reverse++c):=by intro m;induction m using s? with|_ m k=>intro d a b c g ha hlen f hf o;subst o;rw[xo.eq_1];refine .ite (λe=>?_) (λe=>?_);rotate_left;(have e: ¬((a:Z)<a+b.length-1):=by simpa using e);refine .ret ?_;(match b,e with|[],_=>rfl|[x],_=>rfl|x::y::r,e=>simp only[b?]at e;omega);(have e:(a:Z)<a+b.length-1:=by simpa using e);match b,g,hlen,e with|[],_,_,e=>simp only[r?]at e;omega|x::r,g,hlen,e=>rcases List.eq_nil_or_concat r with h|⟨q,y,h⟩;subst h;simp only[b?,r?]at e;omega;(subst h;simp only[Y.concat_eq_append,b?,p?,r?]at g hlen e |-;have n:(a:Z)+((q.length+(0+1)+1:U):Z)-1=((f++x::q).length:Z):=v?;have e1:f++x::(q++[y])++c=(f++x::q)++y::c:=z?;have e2:f++x::(q++[y])++c=f++x::(q++[y]++c):=z?;rw[n];refine .go (a:=y) (by rw[e1];exact Q2 _ _ _ rfl) ?_;refine .go (a:=x) (by rw[e2];exact Q2 _ _ _ o?) ?_;have j:(f++x::(q++[y])++c).set ((a:Z)).toNat y=(f++y::q)++y::c:=by rw[e2,show((a:Z)).toNat=f.length from o?,Z_ _ _ o?];simp);(have s:(f++x::q).length=(f++y::q).length:=z?;rw[j,s];refine .go (a:=y) (Q2 _ _ _ rfl) ?_;have i:((f++y::q)++y::c).set (((f++y::q).length:U):Z).toNat x=(f++[y])++q++([x]++c):=by rw[show (((f++y::q).length:U):Z).toNat=(f++y::q).length from o?,Z_ _ _ o?];simp);(rw[i];have p:q?.wrap ((a:Z)+1)=((a+1:U):Z):=by rw[qy o? o?];omega);(have t:q?.wrap ((((f++y::q).length:U):Z)-1)=((a+1:U):Z)+q.length-1:=by simp only[p?,b?];rw[qy o? o?];omega);rw[p,t];refine(k q.length o? _ (a+1) q ([x]++c) rfl v? v? (f++[y]) v? rfl).mono λr l=>?_;rw[l];simp
theorem rev_tot(d:Y qf)(hd:d.length<2^19):qL (xx d) (λr=>r=d.reverse):=by unfold xx;have h:=Fp _ d 0 d [] rfl rfl v? [] rfl z?;rw[qy o? o?];rw[show ((0:U):Z)=0 from rfl,Z.zero_add]at h;refine .bind h λv a=> .ret ?_;simpa using a
theorem rev_nil:kJ ⟨K,[]⟩=T ():=by unfold kJ;rw[uw.eq_1,V (by rw[qy z? z?];simp)];rfl
theorem E4(x n:Z)(e:0<n)(h1:n<=2^40):qL (Qa x n) (λv=>0<=v/\v<n):=by
 have b:h?.wrap n=n:=by simp only[q11,q12,O'];simp;omega
 have a:0<=h?.wrap x:=by simp only[q11,q12,O'];simp;omega
 unfold Qa;rw[b,R o?];have d:=Z.tmod_nonneg n a;have c:=Z.tmod_lt_of_pos (h?.wrap x) e;rw[wi (n:=(h?.wrap x).tmod n)];exact .ret ⟨d,c⟩
theorem near_tot(n:Z)(hn:0<=n/\n<=2^30)(es:Sl qf)(hl:es.l.length<=4)(g: ∀e∈es.l,e.text.length<=60):qL (ir n es) (λv=>v.l.length<=4/\(v.nil=K->v.l=[])/\ ∀e∈v.l,e.text.length<=60):=by
 have loop: ∀(r:Y qf)(i:U)(out:Y qf),es.l.drop i=r->out.length<=i->i<=es.l.length->(∀ e∈out,e.text.length<=60)->qL (nY (n,es,(i:Z),out)) (λv=>v.length<=4/\ ∀e∈v,e.text.length<=60):=by intro r;induction r with|nil=>intro i out h k j c;have:=zd h;rw[nY.eq_1,V v?];exact .ret ⟨o?,c⟩|cons x r f=>intro i out h k j c;obtain⟨g1,g2,g3⟩:=zx h;rw[nY.eq_1,R v?,ws o?];refine .go (gi g1) ?_;rw[wi (n:=n+1)];refine .bind (E4 _ (n+1) o? o?) λa _=>?_;refine .bind (E4 _ 6 o? o?) λb _=>?_;refine .zY qC (f (i+1) _ g2 v? o? λe he=>?_);rcases t?.1 he with he|he;exact c e he;rw[d?.1 he];exact g x (zj g1)
 unfold ir;exact .bind (loop es.l 0 [] rfl z? z? z?) λv d=> .ret ⟨d.1,z?,d.2⟩
theorem BP(a b:Sl qm)(h:a.l=b.l)(hl:a.l.length<=64):eQ a b=T K:=by
 have loop: ∀(d i:U),i+d=a.l.length->pA (a,b,(i:Z))=T (.inr ()):=by intro d;induction d with|zero=>intro i hi;rw[pA.eq_1,V v?]|succ d e=>(intro i hi;obtain⟨x,c⟩:=gl (l:=a.l) (k:=i) o?;have f:b.l[i]? =T x:=by rw[<- h];exact c);rw[pA.eq_1,R v?,gi c,gi f,ws o?];simp only[zl,qM];rw[V z?,e (i+1) o?]
 unfold eQ;rw[V (by simp[h])];have:=loop a.l.length 0 o?;rw[show ((0:U):Z)=0 from rfl]at this;rw[this];rfl
theorem pdo_ok(st:qv)(h:ux st)(es:Sl qf)(hl:es.l.length<=4)(hn:es.nil=K->es.l=[])(H: ∀e∈es.l,e.text.length<=60)(hs: ∀s∈st.qi.l,kU s es=T false):
  ∃t c,nh st.text es=T (t,c)/\((c≠0/\t=[]/\fj st es=T (⟨[],⟨K,[]⟩,⟨K,[]⟩⟩,c))\/
   c=0/\ ∃v E q,vW es=T v/\(v= .inl ⟨K,[]⟩/\E=[]\/v= .inr E)/\E.length<=4/\mvs ⟨false,st.zP.l⟩ E.reverse=T q/\q.nil=false/\q.l.length<=64/\fj st es=T (⟨t,⟨false,q.l⟩,⟨K,[]⟩⟩,0)):=by
 have I:=h.may.text;have h8:=h.may.dJ;obtain⟨tm,f1,_,f3⟩:=pmay_ref st h.small (by have:=h.may.Kb;omega) o? o? (λc=>(by rw[h.qn]at c;cases c)) (.inr (YD h.may.Gr));obtain rfl:=f3.2 h.may;obtain⟨c,v,E,J,C,v2,v3,v4,v5,W⟩:=Li st.text I es o? hn H;by_cases f:c=0;rotate_left;refine⟨[],c,v5 f,.inl ⟨f,rfl, ?_⟩⟩;unfold fj;rw[f1];simp only[zl,qM,J];rw[V z?,R (by simpa using f)];have m:=v4 f;have hEl:=v3.length_eq;have A: ∀e∈E,e.text.length<=60:=λe j=>H e (v3.mem_iff.1 j);have k:VA st.text E=fwd st.text 0 E:=by rw[Ak st.text E 0 m.Zj m.apart (λe j=>by have:=(m.Zj e j).1;omega) o?];simp
 obtain⟨fl,b1,b2,b3⟩:=pbeg_ok st h;have Ky: ∀w∈fl,kU w.mD es=T false:=by intro w hw;obtain⟨s,n,D9⟩:=b3 w hw;obtain⟨x,Q,P⟩:=WJ s (h.small s n) es o?;obtain⟨y,M,L⟩:=WJ (M4 s) (Lc (h.small s n)) es o?;have F:=hs s n;rw[Q]at F;cases F;rw[D9,M];cases y with|false=>rfl|true=>have h1:=L.1 rfl;have h2: ∀e∈es.l,G3 s e.span:=λe j=>(owns_nrm s e.span).1 (h1 e j);exact N (P.2 h2) z?
 have B:X0 st.text.length ⟨false,st.zP.l⟩:=⟨h.may.ne,rfl,h.may.Kb,h.may.Gr,h.may.Zj⟩;have a: ∃q,mvs ⟨false,st.zP.l⟩ E.reverse=T q/\X0 (VA st.text E).length q/\(∀ nl,mJ es ⟨st.text,⟨false,st.zP.l⟩,⟨nl,[]⟩⟩=T ⟨VA st.text E,q,⟨nl,[]⟩⟩)/\gQ es st.text ⟨false,st.zP.l⟩ []=T (VA st.text E,q):=by
  have key:=λnl=>pedit_L0 st.text I E m o? A nl E [] ⟨false,st.zP.l⟩ z? B;obtain⟨q,d,b,_,p⟩:=key K;have u: ∀nl,jz ((E.length:Z),0,⟨st.text,⟨false,st.zP.l⟩,⟨nl,[]⟩⟩,E.reverse)=T ⟨VA st.text E,q,⟨nl,[]⟩⟩:=λnl=>by obtain⟨q',D,_,k3,_⟩:=key nl;rw[d]at D;cases D;exact k3
  have o :jj ((E.length:Z),0,st.text,⟨false,st.zP.l⟩,[],E.reverse)=T (VA st.text E,q):=p;refine⟨q,d,b,λnl=>?_, ?_⟩;all_goals
   first|unfold mJ|unfold gQ
   rw[C];simp only[zl,qM];rcases v2 with ⟨rfl,rfl⟩|rfl
   ·simp only[rev_nil,qM];first|rw[mB.eq_1,V (by simp)]|rw[bJ.eq_1,V (by simp)]
    simp only[u_,mvs,wO]at d;rw[<- d];rfl
   obtain⟨r,r1,r2⟩:=rev_tot E o?;subst r2;simp only[r1,qM,Y.length_reverse];first|rw[u]|rw[o]
   rfl
 obtain⟨q,d,b,u,p⟩:=a;refine⟨_,0,W f,.inr ⟨rfl,v,E,q,C,v2,o?,d,b.qn,b.Kb, ?_⟩⟩;unfold fj;rw[f1];simp only[zl,qM,J,b1];rw[V z?,V (by simpa using f)];have g:cK (VA st.text E) q []=T ⟨VA st.text E,⟨false,q.l⟩,⟨K,[]⟩⟩:=by unfold cK dj;rw[V z?];simp only[zl,qM,UH q b.Kb b.qn];rfl
 have i:q?.wrap (((0:U):Z)-1)= -1:=by decide
 rcases pleave es st.text ⟨false,st.zP.l⟩ fl b2 Ky with ⟨z,rfl⟩|⟨nl,z⟩;rw[z];simp only[zl,qM,p];unfold nk ud np ue mC hC;simp only[r?,i];rw[V (by decide)];simp only[zl,qM];rw[V (by decide),V z?];simp only[qM,g];rw[k];rw[z];simp only[zl,qM,u];unfold pr bK pt bL ri nq;simp only[r?,i];rw[V (by decide)];simp only[zl,qM];rw[V (by decide),V z?];simp only[qM,g];rw[k]
theorem lawmv(q0:Sl qm)(st o:qv)(E:Y qf)(hl:E.length<=4): ∀(l:Y qf)(q z:Sl qm)(r:Y qf),E=l++r->mvs q l.reverse=T z->jV (q,(l.length:Z)-1,st,o,E)=T z:=by intro l;induction h:l.length generalizing l with|zero=>(intro q z r d a;have:l=[]:=by simpa using h);subst this;simp only[u_,mvs,wO]at a;rw[jV.eq_1,V (by decide),a]|succ n i=>(intro q z r d a;obtain⟨b,e,rfl⟩: ∃b e,l=b ++[e]:=by rcases l.eq_nil_or_concat with c|⟨b,e,c⟩;rw[c]at h;simp at h;exact⟨b,e,by simpa using c⟩);(have hn:b.length=n:=by simpa using h);(have hEl:E.length=n+1+r.length:=by rw[d];simp;omega);(rw[Y.reverse_append]at a;simp only[Y.reverse_cons,u_,M?,Y.cons_append,mvs]at a;have j:E[n]? =T e:=by rw[d,M!,J? o?,hn,q20];rfl);rw[jV.eq_1,R (by simp only[X];omega),show(((n+1:U)):Z)-1=(n:Z)from o?,gi j];simp only[zl,qM];cases f:r9 q [e]with|none=>rw[f]at a;cases a|some g =>rw[f]at a;simp only[zl,qM]at a |-;rw[qy (n:=(n:Z)-1) o? o?];exact i b hn g z (e::r) (by rw[d];simp) a
theorem eh(os:Sl pq)(es:Sl qf):ug os es=T K:=by
 have key:qL (ug os es) (λv=>v=K):=by (unfold ug;refine .bind (ops_tot 4 100 o? o? os) λv f=>?_;refine .ite (λ_=>J' (a:=K) rfl (.ret rfl)) λc=>?_;obtain⟨z,r⟩:=f (by simpa using c);refine .bind (Rm 4 60 o? o? es) λu hu=>?_;refine .ite (λ_=>J' (a:=K) rfl (.ret rfl)) λc=>?_;obtain⟨h3,h4⟩:=hu (by simpa using c);have o: ∀(l:Y qf),∀ e∈l,e.text.length<=wa l:=by intro l;induction l with|nil=>intro e he;cases he|cons x l i=>(intro e he;have hT:wa (x::l)=x.text.length+wa l:=by simp[wa]);rcases K?.1 he with rfl|he;omega;have:=i e he;omega);(refine .bind (CI os o? r) λst g=>?_;have hb:=g.may.text;have h8:=g.may.dJ;refine .bind (near_tot _ ⟨o?,o?⟩ es o? (λe he=>by have:=o es.l e he;omega)) λins hi=>?_;obtain⟨i1,i2,i3⟩:=hi;have loop: ∀(d k:U),k+d=st.qi.l.length->qL (kB (ins,(k:Z),st)) (λv=>v= .inl K\/v= .inr ()/\ ∀(j:U) s,k<=j->st.qi.l[j]? =T s->kU s ins=T false):=by intro d;induction d with|zero=>intro k H;rw[kB.eq_1,V v?];exact .ret (.inr ⟨rfl,λj s p hs=>by have:=(qK hs).1;omega⟩)|succ d i=>intro k H;obtain⟨s,hs⟩:=gl (l:=st.qi.l) (k:=k) o?;obtain⟨b,A,b2⟩:=WJ s (g.small s (zj hs)) ins o?;rw[kB.eq_1,R v?];refine .go (gi hs) (J' A ?_);cases b with|true=>rw[R rfl];exact .go (a:=K) rfl (.ret (.inl rfl))|false=>rw[V z?,ws o?];refine(i (k+1) o?).mono λv f=>f.imp id λ⟨g1,g2⟩=>⟨g1,λj x p m=>?_⟩;by_cases e:j=k;subst e;rw[hs]at m;cases m;exact A;exact g2 j x o? m);refine .bind (loop st.qi.l.length 0 o?) λv f=>?_;rcases f with rfl|⟨rfl,f⟩;exact .ret rfl;(have hs: ∀s∈st.qi.l,kU s ins=T false:=λs F=>by obtain⟨j,p⟩:=kS F;exact f j s o? p);obtain⟨t,c,L,a2⟩:=pdo_ok st g ins i1 i2 i3 hs;refine .go L ?_;rcases a2 with ⟨J,rfl,a2⟩|⟨rfl,w,E,q,C,w2,B,h,w5,y,a2⟩;refine .go a2 ?_;simp only;rw[V z?,R (by simpa using J),R z?];exact .go (a:=K) rfl (.ret rfl);(refine .go a2 ?_;simp only;rw[V z?,V z?];refine .go C ?_;have D:st.zP=⟨false,st.zP.l⟩:=by have:=g.qn;cases I:st.zP with|mk a b=>rw[I]at this;simp only at this;rw[this]);rcases w2 with ⟨rfl,rfl⟩|rfl;simp only[u_,mvs,wO]at h;simp only;refine .go (a:=()) (by rw[nw.eq_1,V (by decide)]) ?_;rw[R z?];refine .go (BP _ _ (by rw[<- h]) (by simp only;exact y)) ?_;exact .go (a:=K) rfl (.ret rfl);simp only;rw[qy (n:=(E.length:Z)-1) o? o?];refine .go (lawmv st.zP st _ E B E st.zP q [] z? (by rw[D];exact h)) ?_;rw[R z?];refine .go (BP _ _ rfl (by simp only;exact y)) ?_;exact .go (a:=K) rfl (.ret rfl)
 obtain⟨v,z,r⟩:=key;rw[z,r]
end Xr
theorem eh(os:Sl pq)(es:Sl qf):ug os es=T K:=Xr.eh os es
end Go.Proofs.YtadahlbndbmdeaaGreat
