/-
  What a snippet's parts come to: memory, values, rows.
-/
import Derived.Test.YtadahlbndbmdeaaGreatQax
import Derived.Test.YtadahlbndbmdeaaGreatQaw
open Go.Gm renaming qa->L,Sl->F
open Go.Proofs.YtadahlbndbmdeaaGreat renaming qL->K,tW->E
open Option renaming some->N
open _root_ renaming List->Z,Int->Y,Nat->V,if_pos->T,if_neg->R,decide_eq_true_eq->M,absurd->J,Bool->I,congrArg->H
open Bool renaming not_eq_true'->b_,or_assoc->q1r,false->X,true->U
open Go.Proofs.YtadahlbndbmdeaaGreat.qL renaming ite->C,bind->Y'
open Int renaming toNat_natCast->X?
open List renaming length_cons->b?,length_append->p?,mem_append->D,length_nil->r?,getElem?_append_left->c?,mem_singleton->d?,map_cons->e?,getElem?_cons_zero->i?,getElem?_cons_succ->Q?,getElem?_append_right->J?,mem_cons->K?,mem_of_mem_take->U?,mem_map->B?,nil_append->M?,length_pos_iff->I?,nodup_append->O?,length_singleton->u!,nodup_cons->o!,append_assoc->M!,filter_cons->D!,length_take->t_,mem_filter->L_,filter_append->q06,any_cons->q1q
open Nat renaming strongRecOn->s?,add_mul->S?,zero_add->x!,zero_le->A!,eq_or_lt_of_le->q14
open Relation renaming TransGen->E?
set_option linter.unusedSimpArgs false
set_option linter.unusedVariables false
namespace Go.Proofs.YtadahlbndbmdeaaGreat
open Go Go.Gm
namespace Xr
structure Yn (n:Y) (q:F qm):Prop where
 ne:q.l≠[]
 Kb:q.l.length<=64
 Zj:Jb n q.l
 Gr:Hs q.l
 qn:q.nil=X
theorem Qg(n:Y)(l:F qm)(hl:l.l.length<2^60):K (mU n l) (λv=>v.2=0->Yn n v.1):=by obtain⟨q,c,g1,g2⟩:=E8 n l hl;refine⟨(q,c),g1,λf=>?_⟩;rcases g2 with ⟨_,b,h2,g,rfl⟩|⟨h,_⟩;obtain⟨k1,a⟩:=Uv l.l;obtain⟨e,d⟩:=JM n l.l g;exact⟨a b,u?,d,e,M1 (a b)⟩;exact J f h
theorem leadT(b:UInt8):K (ur b) (λ_=>True):=Go.Proofs.YtadahlbndbmdeaaGreat.az b
theorem aX(b:UInt8):K (gN b) (λ_=>True):=by unfold gN;split<;>exact .ret trivial
section
variable (s:L) (hs:s.length<=2^28)
include hs
theorem left_L0: ∀k:V,k<s.length->K (gb (s,(k:Y))) (λv=>0<=v/\v<=k):=by intro k;induction k with|zero=>intro _;rw[gb.eq_1,R z?];exact .ret ⟨o?,o?⟩|succ k a=>intro h;obtain⟨b,d⟩:=gl h;rw[gb.eq_1,T (by simp only[M];omega)];refine .go (gi d) ?_;refine .bind (leadT b) λv _=>?_;refine .ite (λ_=>?_) λ_=> .ret ⟨o?,o?⟩;rw[show (((k+1:V):Y)-1)=(k:Y)from o?,wi (n:=(k:Y))];exact .mono (a o?) λv c=>⟨c.1,o?⟩
theorem left_tot(a:Y)(h0:0<=a)(h1:a<=s.length):K (QI s a) (λv=>0<=v/\v<=s.length):=by
 unfold QI;rw[wi (n:=a-1)];have hl:K (gb (s,a-1)) (λv=>v<=s.length):=by by_cases c:0<a;obtain⟨k,d⟩: ∃k:V,a-1=k:=⟨(a-1).toNat,o?⟩;rw[d];exact .mono (left_L0 s hs k o?) λv b=>o?;rw[gb.eq_1,R v?];exact .ret o?
 refine .bind hl λv b=> .ret ?_;constructor<;>split<;>omega
theorem right_L0: ∀(d k:V),k+d=s.length->K (yL (s,(k:Y))) (λv=>0<=v/\v<=s.length):=by intro d;induction d with|zero=>intro k h;rw[yL.eq_1,R v?];exact .ret ⟨o?,o?⟩|succ d a=>intro k h;obtain⟨b,c⟩:=gl (l:=s) (k:=k) o?;rw[yL.eq_1,T v?,ws o?];refine .go (gi c) ?_;refine .bind (leadT b) λv _=>?_;exact .ite (λ_=>a (k+1) o?) λ_=> .ret ⟨o?,o?⟩
theorem q0a(a:Y)(h0:0<=a)(h1:a<=s.length):K (oh s a) (λv=>0<=v/\v<=s.length):=by
 unfold oh;rw[wi (n:=a+1)];have hl:K (yL (s,a+1)) (λv=>0<=v):=by by_cases c:a+1<=s.length;obtain⟨k,d⟩: ∃k:V,a+1=k:=⟨(a+1).toNat,o?⟩;rw[d];exact .mono (right_L0 s hs (s.length-k) k o?) λv b=>b.1;rw[yL.eq_1,R v?];exact .ret o?
 refine .bind hl λv b=> .ret ?_;constructor<;>split<;>omega
theorem step_L5: ∀k:V,k<=s.length->K (pZ (s,(k:Y))) (λv=>0<=v/\v<=s.length):=by intro k;induction k with|zero=>intro _;rw[pZ.eq_1,R z?];exact .ret ⟨o?,o?⟩|succ k a=>intro h;obtain⟨b,c⟩:=gl (l:=s) (k:=k) o?;rw[pZ.eq_1,T (by simp only[M];omega),wi (n:=((k+1:V):Y)-1),show(((k+1:V):Y)-1)=(k:Y)from o?];refine .go (gi c) ?_;refine .bind (aX b) λv _=>?_;exact .ite (λ_=>a o?) λ_=> .ret ⟨o?,o?⟩
theorem step_L7: ∀k:V,k<=s.length->K (ta (s,(k:Y))) (λv=>0<=v/\v<=s.length):=by intro k;induction k with|zero=>intro _;rw[ta.eq_1,R z?];exact .ret ⟨o?,o?⟩|succ k a=>intro h;obtain⟨b,c⟩:=gl (l:=s) (k:=k) o?;rw[ta.eq_1,T (by simp only[M];omega),wi (n:=((k+1:V):Y)-1),show(((k+1:V):Y)-1)=(k:Y)from o?];refine .go (gi c) ?_;refine .bind (aX b) λv _=>?_;exact .ite (λ_=>a o?) λ_=> .ret ⟨o?,o?⟩
theorem step_L1: ∀(d k:V),k+d=s.length->K (pX (s,(k:Y))) (λv=>0<=v/\v<=s.length):=by intro d;induction d with|zero=>intro k h;rw[pX.eq_1,R v?];exact .ret ⟨o?,o?⟩|succ d a=>intro k h;obtain⟨b,c⟩:=gl (l:=s) (k:=k) o?;rw[pX.eq_1,T v?,ws o?];refine .go (gi c) ?_;refine .bind (aX b) λv _=>?_;exact .ite (λ_=>a (k+1) o?) λ_=> .ret ⟨o?,o?⟩
theorem step_L3: ∀(d k:V),k+d=s.length->K (pY (s,(k:Y))) (λv=>0<=v/\v<=s.length):=by intro d;induction d with|zero=>intro k h;rw[pY.eq_1,R v?];exact .ret ⟨o?,o?⟩|succ d a=>intro k h;obtain⟨b,c⟩:=gl (l:=s) (k:=k) o?;rw[pY.eq_1,T v?,ws o?];refine .go (gi c) ?_;refine .bind (aX b) λv _=>?_;exact .ite (λ_=>a (k+1) o?) λ_=> .ret ⟨o?,o?⟩
theorem H5(a i:Y)(g:0<=a)(f:a<=s.length):K (fR s a i) (λv=>0<=v.1/\v.1<=s.length):=by have d: ∀{o:Option Y},K o (λv=>0<=v/\v<=s.length)->K (o>>=λv=>N (v,(0:Y))) (λv=>0<=v.1/\v.1<=s.length):=λh=>Y' h λv e=> .ret e;unfold fR;refine .ite (λ_=> .ret ⟨u?,u?⟩) λ_=>?_;rw[R v?];refine .bind (Lk s hs a g f) λv e=>?_;obtain⟨v1,v2⟩:=e;have hbl:=Cu s;have htb:=H9 s a.toNat;refine .ite (λ_=>d (left_tot s hs a g f)) λ_=>?_;refine .ite (λ_=>d (q0a s hs a g f)) λ_=>?_;refine .ite (λ_=>?_) λ_=>?_;obtain⟨x,y,c,g1,g2,g3,g4,g5,_⟩:=XN s hs v.1;exact .go g1 (.ret ⟨u?,u?⟩);refine .ite (λ_=>?_) λ_=>?_;obtain⟨x,y,c,g1,g2,g3,g4,g5,_⟩:=XN s hs v.1;exact .go g2 (.ret ⟨u?,u?⟩);refine .ite (λ_=>C (λ_=>?_) λ_=> .ret ⟨u?,u?⟩) λ_=>?_;exact .bind (UA s hs _ _ v2) λw b=> .ret b;refine .ite (λ_=>?_) λ_=>?_;refine .go (a:=((0::Vr s 0:Z Y).length:Y)) (by unfold XW;rw[BX s hs];rfl) ?_;refine .ite (λ_=>?_) λ_=> .ret ⟨u?,u?⟩;exact .bind (UA s hs _ _ v2) λw b=> .ret b;refine .ite (λ_=> .ret ⟨u?,u?⟩) λ_=>?_;refine .ite (λ_=> .ret ⟨u?,u?⟩) λ_=>?_;obtain⟨k,rfl⟩: ∃k:V,a=k:=⟨a.toNat,o?⟩;refine .ite (λ_=>?_) λ_=>?_;refine .bind (step_L5 s hs k o?) λw b=>?_;obtain⟨j,rfl⟩: ∃j:V,w=j:=⟨w.toNat,o?⟩;exact d (step_L7 s hs j o?);refine .bind (step_L1 s hs (s.length-k) k o?) λw b=>?_;obtain⟨j,rfl⟩: ∃j:V,w=j:=⟨w.toNat,o?⟩;exact d (step_L3 s hs (s.length-j) j o?)
end
theorem head_in{n:Y}{q:Z qm}(h:Jb n q){x:qm}(a:x∈q):0<=x.head/\x.head<=n:=by have:=h x a;have:=QQ x;omega
theorem go_L0(s:L)(hs:s.length<=2^28)(a:Y)(ext:I)(l:F qm)(hl:l.l.length<=64)(hi:Jb s.length l.l): ∀(r:Z qm)(i:V)(out:Z qm),l.l.drop i=r->out.length<=i->i<=l.l.length->K (yy (s,a,ext,l,(i:Y),out)) (λv=>v.length<=64):=by intro r;induction r with|nil=>intro i out h e hi;have:=zd h;rw[yy.eq_1,R v?];exact .ret o?|cons x r d=>(intro i out h e SH;obtain⟨c,f,h3⟩:=zx h;have b:=head_in hi (zj c);rw[yy.eq_1,T v?,ws o?];refine .go (gi c) ?_;refine .go (Vq x) ?_;refine .bind (H5 s hs x.head a b.1 b.2) λv hv=>?_;have k: ∀y:qm,K (if ql (out.length+1) 16=U then yy (s,a,ext,l,((i+1:V):Y),out++[y])else none) (λv=>v.length<=64):=by intro y;rw[T qC];exact d (i+1) _ f v? o?);refine .ite (λ_=>C (λ_=>C (λ_=>C (λ_=>k _) λ_=>k _) λ_=>C (λ_=>k _) λ_=>k _) λ_=>k _) λ_=>k _
theorem go_tot(s:L)(hs:s.length<=2^28)(a:Y)(ext:I)(q:F qm)(e:q.l.length<2^60):K (KQ s a ext q) (λv=>v.2=0->Yn s.length v.1):=by unfold KQ;refine .ite (λ_=> .ret λh=>J h (by decide)) λ_=>?_;refine .bind (Qg (s.length:Y) q e) λv d=>?_;refine .ite (λc=> .ret λh=>J h (by simpa using c)) λc=>?_;have b:=d (by simpa using c);refine .bind (go_L0 s hs a ext v.1 b.Kb b.Zj v.1.l 0 [] rfl z? z?) λw hw=>?_;exact .bind (Qg (s.length:Y) ⟨w.isEmpty,w⟩ u?) λu hu=> .ret hu
theorem typed_L0(l:F qm)(text:L)(hl:l.l.length<=64): ∀(r:Z qm)(i:V)(es:Z qf),l.l.drop i=r->es.length=i->K (gV (l,text,(i:Y),es)) (λv=>v.length=es.length+r.length/\ ∀e∈v,e∈es\/e.text=text):=by intro r;induction r with|nil=>intro i es h d;have:=zd h;rw[gV.eq_1,R v?];exact .ret ⟨z?,λe a=> .inl a⟩|cons x r c=>intro i es h d;obtain⟨g,f,h3⟩:=zx h;rw[gV.eq_1,T v?,ws o?];refine .go (gi g) ?_;refine .go (Vq x) ?_;rw[T qC];refine .mono (c (i+1) _ f v?) λv b=>⟨by have:=b.1;simp at this |-; omega,λe a=>?_⟩;rcases b.2 e a with h|h;rcases D.1 h with h|h;exact .inl h;simp only[d?]at h;subst h;exact .inr rfl;exact .inr h
theorem MQ(l:Z qf)(n:V)(h: ∀e∈l,e.text.length<=n):wa l<=l.length*n:=by induction l with|nil=>simp[wa]|cons e l a=>have h1:=h e z?;have h2:=a λb c=>h b (by simp[c]);simp only[wa,e?,Z.sum_cons,b?]at*;rw[S?];omega
theorem q0F(l:F qm)(text:L)(hl:l.l.length<=64)(b:text.length<=65536):K (aC l text) (λv=>v.l.length<=64/\wa v.l<=4194304):=by
 unfold aC;refine .bind (typed_L0 l text hl l.l 0 [] rfl rfl) λv a=> .ret ?_;have d:=a.1;have h2:=MQ v 65536 λe c=>by rcases a.2 e c with h|h;simp at h;rw[h];exact b
 simp only[r?,x!]at d;refine⟨u?, ?_⟩;have:v.length*65536<=64*65536:=mulR _ o?;simp only;omega
theorem Oc(s:L)(hs:s.length<=2^28)(l:F qm)(f:I)(hl:l.l.length<=64)(hi:Jb s.length l.l): ∀(r:Z qm)(i:V)(c:Z qg),l.l.drop i=r->c.length<=i->i<=l.l.length->K (je (s,l,f,(i:Y),c)) (λv=>v.length<=64):=by intro r;induction r with|nil=>intro i c h n o;have:=zd h;rw[je.eq_1,R v?];exact .ret o?|cons x r e=>(intro i c h n o;obtain⟨m,j,h3⟩:=zx h;have g:=hi x (zj m);have hle:=QQ x;rw[je.eq_1,T v?,ws o?];refine .go (gi m) ?_;refine .go (Vq x) ?_;refine .bind (H5 s hs (vA x).qG 1 g.1 o?) λa ha=>?_;refine .bind (H5 s hs (vA x).qG 2 g.1 o?) λb hb=>?_;have k: ∀y:qg,K (if ql (c.length+1) 16=U then je (s,l,f,((i+1:V):Y),c++[y])else none) (λv=>v.length<=64):=by intro y;rw[T qC];exact e (i+1) _ j v? o?);have d:K (je (s,l,f,((i+1:V):Y),c)) (λv=>v.length<=64):=e (i+1) _ j o? o?;exact .ite (λ_=>C (λ_=>C (λ_=>k _) λ_=>d) λ_=>C (λ_=>k _) λ_=>d) λ_=>C (λ_=>k _) λ_=>d
end Xr
namespace Xr
theorem touch5(a b:qg):fP a b=N (decide (QU a b)):=rfl
theorem union_L0(s:F qg)(hs:s.l.length<=2^20): ∀(r:Z qg)(i:V)(out:Z qg),s.l.drop i=r->out.length<=i->i<=s.l.length->K (wG (s,(i:Y),out)) (λv=>v.length<=s.l.length):=by intro r;induction r with|nil=>intro i out h e hi;have:=zd h;rw[wG.eq_1,R v?];exact .ret o?|cons x r a=>(intro i out h e hi;obtain⟨f,b,h3⟩:=zx h;rw[wG.eq_1,T v?,ws o?];refine .go (gi f) ?_;have k: ∀y:qg,K (if ql (out.length+1) 16=U then wG (s,((i+1:V):Y),out++[y])else none) (λv=>v.length<=s.l.length):=by intro y;rw[T qC];exact a (i+1) _ b v? o?);(refine .ite (λ_=>a (i+1) _ b o? o?) λ_=>?_;refine .ite (λc=>?_) λ_=>k _;have c0:0<out.length:=by simpa using c);rw[wi (n:=(out.length:Y)-1),show(out.length:Y)-1=((out.length-1:V):Y)from o?];obtain⟨y,d⟩:=gl (l:=out) (k:=out.length-1) o?;refine .go (gi d) ?_;refine .go (touch5 _ _) ?_;exact .ite (λ_=>a (i+1) _ b (by rw[Z.length_set];omega) o?) λ_=>k _
theorem WQ(l:F qg)(hl:l.l.length<=64):K (o9 l) (λv=>v.l.length<=64):=by unfold o9;have b:=(cL id l.l []).length_eq;simp only[M?]at b;refine .go (Se l o?) ?_;refine .bind (union_L0 _ u? _ 0 [] rfl z? z?) λv a=> .ret ?_;simp only at a |-;omega
theorem Od(u:F qg)(hu:u.l.length<=64): ∀(r:Z qg)(i:V)(es:Z qf),u.l.drop i=r->es.length<=i->i<=u.l.length->(∀ e∈es,e.text=[])->K (uJ (u,(i:Y),es)) (λv=>v.length<=64/\ ∀e∈v,e.text=[]):=by intro r;induction r with|nil=>intro i es h c hi a;have:=zd h;rw[uJ.eq_1,R v?];exact .ret ⟨o?,a⟩|cons x r b=>intro i es h c hi a;obtain⟨f,d,h3⟩:=zx h;rw[uJ.eq_1,T v?,ws o?];refine .go (gi f) ?_;rw[T qC];refine b (i+1) _ d v? o? λe h=>?_;rcases D.1 h with h|h;exact a e h;simp only[d?]at h;subst h;rfl
theorem CN(s:L)(hs:s.length<=2^28)(l:F qm)(f:I)(hl:l.l.length<=64)(hi:Jb s.length l.l):K (dr s l f) (λv=>v.l.length<=64/\wa v.l<=4194304):=by
 unfold dr;refine .bind (Oc s hs l f hl hi l.l 0 [] rfl z? z?) λv b=>?_;refine .bind (WQ ⟨v.isEmpty,v⟩ b) λu hu=>?_;refine .bind (Od u hu u.l 0 [] rfl z? z? z?) λw a=> .ret ⟨a.1, ?_⟩;have:=MQ w 0 λe c=>by rw[a.2 e c];simp
 simp only;omega
def free(x:qu):Prop:=x.qR=X
structure Nums (is:Z qr) (ns:Z Y):Prop where
 of: ∀n∈ns,yY n is≠[]
 len:ns.length<=2^24+1
theorem I7{n:Y}{is:Z qr}{i:qr}(hi:i∈is){x:qu}(a:x∈i.stops.l)(c:x.n=n)(b:x.qR=X):yY n is≠[]:=by
 intro h;have:x.span∈yY n is:=by unfold yY lx;simp only[Z.mem_flatMap,B?,L_,isN,xn,b_,beq_iff_eq];exact⟨i,hi,x,⟨a,b,c⟩,rfl⟩
 rw[h]at this;simp at this
structure Cb (is:Z qr) (m:V) (ns:Z Y) (z met:I):Prop where
 of: ∀n∈ns,yY n is≠[]
 zero:z=U->yY 0 is≠[]
 len:ns.length<=m
 met:met=U->ns≠[]\/z=U
theorem DD(is:F qr)(hL:many is.l<=2^24)(i:V)(x:qr)(j:is.l[i]? =N x)(hxl:x.stops.l.length<=2^12): ∀(r:Z qu)(k:V)(m:V)(ns:F Y)(z met:I),x.stops.l.drop k=r->m+r.length<=2^24->Cb is.l m ns.l z met->
  K (jd (is,ns,z,(i:Y),(k:Y))) (λv=>Cb is.l (m+r.length) v.1.l v.2 (met || r.any λy=> !y.qR)):=by intro r;induction r with|nil=>intro k m ns z met h p W;have:=zd h;rw[jd.eq_1];refine .go (gi j) ?_;rw[R v?];exact .ret (by simpa using W)|cons y r u=>(intro k m ns z met h p W;simp only[b?]at p;obtain⟨q,B,h3⟩:=zx h;have f:=zj j;have e:=zj q;rw[jd.eq_1];refine .go (gi j) ?_;rw[T v?,ws o?];refine .go (gi q) ?_;have hlen:=W.len;have o: ∀(b :F Y)(a :I),Cb is.l (m+1) b.l a (met || !y.qR)->K (jd (is,b,a,(i:Y),((k+1:V):Y))) (λv=>Cb is.l (m+(y::r).length) v.1.l v.2 (met || (y::r).any λy=> !y.qR)):=by intro b a P;have:=u (k+1) (m+1) b a (met || !y.qR) B o? P;rw[show m+(y::r).length=m+1+r.length from by simp only[b?];omega,q1q,<- q1r];exact this);(have put: ∀a :I,y.qR=X->(a =U->yY 0 is.l≠[])->K (cO ns y.n>>=λv=>jd (is,v,a,(i:Y),((k+1:V):Y))) (λv=>Cb is.l (m+(y::r).length) v.1.l v.2 (met || (y::r).any λy=> !y.qR)):=by intro a d w;refine .bind (Ei ns y.n o?) λv A=>?_;obtain⟨v1,v2,v3,v4⟩:=A;refine o v a ⟨λn hn=>?_,w,o?,λ_=> .inl ?_⟩;rcases v2 n hn with rfl|h;exact I7 f e rfl d;exact W.of n h;intro h;rw[h]at v3;simp at v3);refine .ite (λc=>?_) λc=>?_;(have d:y.qR=X:=by simpa using c);refine .ite (λg=>?_) λg=>?_;have s:yY 0 is.l≠[]:=I7 f e (by simpa using g) d;refine .ite (λ_=>put U d λ_=>s) λ_=>?_;exact o ns U ⟨W.of,λ_=>s,o?,λ_=> .inr rfl⟩;refine .ite (λ_=>put z d W.zero) λt=>?_;simp at g t;exact J t g;(have d:y.qR=U:=by simpa using c);exact o ns z ⟨W.of,W.zero,o?,by rw[d];simpa using W.met⟩
theorem DC(is:F qr)(j:many is.l<=2^24)(g: ∀i∈is.l,i.stops.l.length<=2^12)(hn:is.l.length<=2^12): ∀(r:Z qr)(i m:V)(ns:F Y)(z met:I),is.l.drop i=r->m+many r<=2^24->Cb is.l m ns.l z met->
  K (yv (is,ns,z,(i:Y))) (λv=>Cb is.l (m+many r) v.1.l v.2 (met || r.any λx=>x.stops.l.any λy=> !y.qR)):=by intro r;induction r with|nil=>intro i m ns z met h f W;have:=zd h;rw[yv.eq_1,R v?];exact .ret (by simpa[many]using W)|cons x r c=>(intro i m ns z met h f W;obtain⟨b,k,h3⟩:=zx h;have d:=g x (zj b);have a:many (x::r)=x.stops.l.length+many r:=by simp[many]);rw[yv.eq_1,T v?,ws o?];refine .bind (DD is j i x b d x.stops.l 0 m ns z met rfl o? W) λv e=>?_;have:=c (i+1) (m+x.stops.l.length) v.1 v.2 _ k o? e;rw[a,<- V.add_assoc,q1q,<- q1r];exact this
theorem Xq(is:F qr)(d: ∀i∈is.l,i.stops.l.length<=2^12)(hn:is.l.length<=2^12):K (me is) (λv=>Nums is.l v.l/\((∃ i∈is.l,∃ x∈i.stops.l,x.qR=X)->v.l≠[])):=by
 have h1:=XT d;have h2:is.l.length*2^12<=2^12*2^12:=V.mul_le_mul hn (ke _);have f:many is.l<=2^24:=o?;unfold me;refine .bind (DC is f d hn is.l 0 0 ⟨U,[]⟩ X X rfl o? ⟨z?,z?,z?,z?⟩) λv a=>?_;have hlen:=a.len;have b:(∃ i∈is.l,∃ x∈i.stops.l,x.qR=X)->v.1.l≠[]\/v.2=U:=by rintro⟨i,hi,x,e,h⟩;refine a.met ?_;simp only[I.false_or,Z.any_eq_true];exact⟨i,hi,x,e,by simp[h]⟩
 refine .ite (λc=>?_) λc=>?_;refine .zY qC (K.zY qC (.ret ⟨⟨λn hn=>?_,v?⟩,λ_=>z?⟩));rcases D.1 hn with h|h;exact a.of n h;simp only[d?]at h;subst h;exact a.zero c;refine .ret ⟨⟨a.of,o?⟩,λh=>?_⟩;rcases b h with h|h;exact h;exact J h c
theorem Gn(a b:Y):K (cR a b) (λ_=>True):=by unfold cR;split;split<;>exact .ret trivial;exact .ret trivial
theorem next_tot(cur:Y)(is:F qr)(g: ∀i∈is.l,i.stops.l.length<=2^12)(hn:is.l.length<=2^12):K (iU cur is) (λv=>v.2=U->yY v.1 is.l≠[]):=by
 have loop: ∀(ns:F Y),Nums is.l ns.l-> ∀(d k:V),k+d=ns.l.length->K (md (cur,ns,(k:Y))) (λv=>match v with| .inl y=>y.2=U->yY y.1 is.l≠[]| .inr _=>True):=by intro ns b d;have:=b.len;induction d with|zero=>intro k h;rw[md.eq_1,R v?];exact .ret trivial|succ d c=>intro k h;obtain⟨x,a⟩:=gl (l:=ns.l) (k:=k) o?;rw[md.eq_1,T v?,ws o?];refine .go (gi a) ?_;refine .bind (Gn _ _) λv _=>?_;exact .ite (λ_=> .ret λ_=>b.of x (zj a)) λ_=>c (k+1) o?
 unfold iU;refine .bind (Xq is g hn) λv f=>?_;refine .bind (loop v f.1 v.l.length 0 o?) λw e=>?_;rcases w with w|w;exact .ret e;exact .ret λh=>J h (by decide)
theorem prev_tot(cur:Y)(is:F qr)(f: ∀i∈is.l,i.stops.l.length<=2^12)(hn:is.l.length<=2^12):K (iV cur is) (λv=>v.2=U->yY v.1 is.l≠[]):=by
 have loop: ∀(ns:F Y),Nums is.l ns.l-> ∀k:V,k<=ns.l.length->K (mf (cur,ns,(k:Y)-1)) (λv=>match v with| .inl y=>y.2=U->yY y.1 is.l≠[]| .inr _=>True):=by intro ns c k;have:=c.len;induction k with|zero=>intro h;rw[mf.eq_1,R z?];exact .ret trivial|succ k d=>intro h;obtain⟨x,a⟩:=gl (l:=ns.l) (k:=k) o?;rw[show ((k+1:V):Y)-1=(k:Y)from o?,mf.eq_1,T z?,wi (n:=(k:Y)-1)];refine .go (gi a) ?_;refine .bind (Gn _ _) λv _=>?_;exact .ite (λ_=> .ret λ_=>c.of x (zj a)) λ_=>d o?
 unfold iV;refine .bind (Xq is f hn) λv b=>?_;have:=b.1.len;rw[wi (n:=(v.l.length:Y)-1)];refine .bind (loop v b.1 v.l.length (ke _)) λw e=>?_;rcases w with w|w;exact .ret e;exact .ret λh=>J h (by decide)
end Xr
set_option maxHeartbeats 1000000
namespace Xr
theorem ux.sel{st:qv}(h:ux st){q:F qm}(g:Yn st.text.length q):ux ⟨st.text,q,st.qi⟩:=
 ⟨⟨h.may.text,h.may.dJ,g.ne,g.Kb,g.Zj,g.Gr,h.may.may,h.may.lies⟩,h.small,h.stop,h.YQ,g.qn⟩
theorem Aa.take{a:Z qb}(h:Aa a)(k:V):Aa (a.take k):=by intro j s hs;have b:=(qK hs).1;rw[t_]at b;rw[Z.getElem?_take_of_lt o?]at hs;obtain⟨h1,h2⟩:=h j s hs;exact E
theorem ux.take{st:qv}(h:ux st)(k:V)(b:I):ux ⟨st.text,st.zP,⟨b,st.qi.l.take k⟩⟩:=
 ⟨⟨h.may.text,by simp only[t_];have:=h.may.dJ;omega,h.may.ne,h.may.Kb,h.may.Zj,h.may.Gr,λs hs=>h.may.may s (U? hs),h.may.lies.take k⟩,
  λs hs=>h.small s (U? hs),λs hs=>h.stop s (U? hs),λs hs=>h.YQ s (U? hs),h.qn⟩
theorem ux.cur{st:qv}(h:ux st)(d:Z qb)(s:qb)(e:st.qi.l=d++[s])(n:Y)(hn:yY n s.insts.l≠[])(b:I):ux ⟨st.text,st.zP,⟨b,d++[⟨n,s.insts⟩]⟩⟩:=by
 have m: ∀{P:qb->Prop},(∀ x∈st.qi.l,P x)->P ⟨n,s.insts⟩-> ∀x∈d++[(⟨n,s.insts⟩:qb)],P x:=by intro P k i x hx;rcases D.1 hx with hx|hx;exact k x (by rw[e];exact Z.mem_append_left _ hx);simp only[d?]at hx;subst hx;exact i
 have hs:s∈st.qi.l:=by rw[e];simp
 have hl:=h.may.dJ;rw[e]at hl;refine⟨⟨h.may.text,by simpa using hl,h.may.ne,h.may.Kb,h.may.Zj,h.may.Gr,m h.may.may (h.may.may s hs), ?_⟩,m h.small (h.small s hs),m h.stop (h.stop s hs),m h.YQ hn,h.qn⟩;have o:=h.may.lies;rw[e]at o;intro j x hx;have q:=(qK hx).1;simp only[p?,u!]at q;have a: ∀p,0<j->(d++[(⟨n,s.insts⟩:qb)])[j-1]? =N p->(d++[s])[j-1]? =N p:=by intro p g f;rw[c? o?]at f |-;exact f
 by_cases c:j<d.length;rw[c? c]at hx;obtain⟨k,i⟩:=o j x (by rw[c? c];exact hx);exact⟨k,λg p f=>i g p (a p g f)⟩;have r:j=d.length:=o?;subst r;rw[J? (ke _)]at hx;simp only[V.sub_self,i?,wO]at hx;subst hx;obtain⟨k,i⟩:=o d.length s (by rw[J? (ke _)];simp);exact⟨k,λg p f=>i g p (a p g f)⟩
theorem enter_L0(n k:Y)(a:F qg)(st t4:qv)(s:qb)(hs:a.l.length<=2^24): ∀(r:Z qg)(i:V)(l:Z qm),a.l.drop i=r->l.length<=i->i<=a.l.length->K (bD (n,k,a,(i:Y),st,t4,s,l)) (λv=>v.length<=2^24):=by intro r;induction r with|nil=>intro i l h c hi;have:=zd h;rw[bD.eq_1,R v?];exact .ret o?|cons x r b=>intro i l h c hi;obtain⟨e,d,h3⟩:=zx h;rw[bD.eq_1,T v?,ws o?];refine .go (gi e) ?_;rw[T qC];exact b (i+1) _ d v? o?
theorem O9(n k:Y)(a:F qg)(st t4:qv)(s:qb)(hs:a.l.length<=2^24): ∀(r:Z qg)(i:V)(l:Z qm),a.l.drop i=r->l.length<=i->i<=a.l.length->K (yx (n,k,a,(i:Y),st,t4,s,l)) (λv=>v.length<=2^24):=by intro r;induction r with|nil=>intro i l h c hi;have:=zd h;rw[yx.eq_1,R v?];exact .ret o?|cons x r b=>intro i l h c hi;obtain⟨e,d,h3⟩:=zx h;rw[yx.eq_1,T v?,ws o?];refine .go (gi e) ?_;rw[T qC];exact b (i+1) _ d v? o?
theorem Um{α:Type}{l:Z α}{x:α}(h:l[l.length-1]? =N x):l=l.take (l.length-1)++[x]:=by
 obtain⟨h1,h2⟩:=qK h;have h3:l.take (l.length-1+1)=l.take (l.length-1)++[x]:=by rw[Z.take_add_one,h];rfl
 exact E
section
variable {st:qv} (h:ux st)
include h
theorem spl(x:qb)(a:x∈st.qi.l)(n:Y):vY n x.insts=N ⟨(yY n x.insts.l).isEmpty,yY n x.insts.l⟩/\(yY n x.insts.l).length<=2^24:=
 ⟨KV n x.insts (h.small x a).2 (h.small x a).1,KU (h.small x a) n⟩
theorem Ob(n:Y)(hn: ∀x∈st.qi.l,st.qi.l[st.qi.l.length-1]? =N x->yY n x.insts.l≠[])(g:st.qi.l≠[]):K (rR st.text st.zP n st.qi.l) (λv=>v.2=0->ux v.1):=by have hl:=h.may.dJ;have cz:=I?.2 g;unfold rR;rw[wi (n:=(st.qi.l.length:Y)-1),show(st.qi.l.length:Y)-1=((st.qi.l.length-1:V):Y)from o?];obtain⟨x,b⟩:=gl (l:=st.qi.l) (k:=st.qi.l.length-1) o?;have a:=zj b;refine .go (gi b) ?_;obtain⟨f,e⟩:=spl h x a n;refine .go f ?_;refine .bind (enter_L0 n _ ⟨(yY n x.insts.l).isEmpty,yY n x.insts.l⟩ _ _ x e _ 0 [] rfl z? z?) λw hw=>?_;refine .bind (Qg (st.text.length:Y) ⟨w.isEmpty,w⟩ u?) λu hu=>?_;refine .ite (λc=> .ret λj=>J j (by simpa using c)) λc=>?_;have i:=hu (by simpa using c);refine .go (VC _ _ o?) ?_;refine .zY (qC v? o?) ?_;have d:=ux.sel h i;refine .ite (λ_=>K.zY (qC v? o?) (.ret λ_=>?_)) λ_=> .ret λ_=>?_;exact d.cur _ x (Um b) n (hn x a b) X;exact d.take _ X
theorem JC(n:Y)(hn: ∀x∈st.qi.l,st.qi.l[st.qi.l.length-1]? =N x->yY n x.insts.l≠[])(g:st.qi.l≠[]):K (mi st n) (λv=>v.2=0->ux v.1):=by have hl:=h.may.dJ;have cz:=I?.2 g;unfold mi;rw[wi (n:=(st.qi.l.length:Y)-1),show(st.qi.l.length:Y)-1=((st.qi.l.length-1:V):Y)from o?];obtain⟨x,b⟩:=gl (l:=st.qi.l) (k:=st.qi.l.length-1) o?;have a:=zj b;refine .go (gi b) ?_;obtain⟨f,e⟩:=spl h x a n;refine .go f ?_;refine .bind (O9 n _ ⟨(yY n x.insts.l).isEmpty,yY n x.insts.l⟩ _ _ x e _ 0 [] rfl z? z?) λw hw=>?_;refine .bind (Qg (st.text.length:Y) ⟨w.isEmpty,w⟩ u?) λu hu=>?_;refine .ite (λc=> .ret λj=>J j (by simpa using c)) λc=>?_;have i:=hu (by simpa using c);refine .go (VC _ _ o?) ?_;refine .zY (qC v? o?) ?_;have d:=ux.sel h i;refine .ite (λ_=>K.zY (qC v? o?) (.ret λ_=>?_)) λ_=> .ret λ_=>?_;exact d.cur _ x (Um b) n (hn x a b) X;exact d.take _ X
theorem R9(a:st.qi.l≠[]):K (fN st) ux:=by have hl:=h.may.dJ;have cz:=I?.2 a;unfold fN;rw[wi (n:=(st.qi.l.length:Y)-1),show(st.qi.l.length:Y)-1=((st.qi.l.length-1:V):Y)from o?];refine .go (VC _ _ o?) ?_;exact .zY (qC v? o?) (.ret (h.take _ X))
theorem Ut{α:Type}{k:I->Option α}{Q:α->Prop}(c:K (k U) Q):K (bZ st>>=k) Q:=by obtain⟨t,b,a⟩:=Us st h.small (by have:=h.may.Kb;omega);obtain rfl:=a.2 h.may;exact .go b c
theorem Dy:K (o5 st) (λv=>v.2=0->ux v.1):=by
 have hl:=h.may.dJ;unfold o5;refine Ut h ?_;rw[R z?];refine .ite (λ_=> .ret λg=>J g (by decide)) λc=>?_;have a:st.qi.l≠[]:=by intro e;rw[e]at c;simp at c
 have cz:=I?.2 a;rw[wi (n:=(st.qi.l.length:Y)-1),show(st.qi.l.length:Y)-1=((st.qi.l.length-1:V):Y)from o?];obtain⟨x,b⟩:=gl (l:=st.qi.l) (k:=st.qi.l.length-1) o?;have hs:=h.small x (zj b);refine .go (gi b) ?_;refine .bind (next_tot x.cur x.insts hs.2 hs.1) λv f=>?_;refine .ite (λ_=>Y' (R9 h a) λu hu=> .ret λ_=>hu) λi=>?_;refine .bind (JC h v.1 (λy _ d=>?_) a) λu hu=> .ret hu;rw[b]at d;cases d;exact f (by simpa using i)
theorem DR:K (o6 st) (λv=>v.2=0->ux v.1):=by
 have hl:=h.may.dJ;unfold o6;refine Ut h ?_;rw[R z?];refine .ite (λ_=> .ret λb=>J b (by decide)) λc=>?_;have d:st.qi.l≠[]:=by intro e;rw[e]at c;simp at c
 have cz:=I?.2 d;rw[wi (n:=(st.qi.l.length:Y)-1),show(st.qi.l.length:Y)-1=((st.qi.l.length-1:V):Y)from o?];obtain⟨x,a⟩:=gl (l:=st.qi.l) (k:=st.qi.l.length-1) o?;have hs:=h.small x (zj a);refine .go (gi a) ?_;refine .bind (prev_tot x.cur x.insts hs.2 hs.1) λv g=>?_;refine .ite (λ_=> .ret λb=>J b (by decide)) λi=>?_;refine .bind (JC h v.1 (λy _ f=>?_) d) λu hu=> .ret hu;rw[a]at f;cases f;exact g (by simpa using i)
theorem R8:K (aO st) (λv=>v.2=0->ux v.1):=by unfold aO;refine Ut h ?_;rw[R z?];have:= @R9;exact E
theorem IY(k n:Y)(x:qb)(p:x∈st.qi.l)(a:V)(i:qr)(hi:x.insts.l[a]? =N i)(t4:qv): ∀(r:Z qu)(j:V)(has f:I)(es:Z qf),i.stops.l.drop j=r->es.length<=a+(if f=U then 1 else 0)->wa es<=es.length*17592186044416->
  K (jH (k,n,has,(a:Y),f,(j:Y),st,t4,x,es)) (λv=>v.2.length<=a+1/\wa v.2<=v.2.length*17592186044416):=by have hs:=h.small x p;have ha:=(qK hi).1;have lG:=hs.2 i (zj hi);have ha12:=hs.1;intro r;induction r with|nil=>intro j has f es o d e;have:=zd o;rw[jH.eq_1];refine .go (gi hi) ?_;rw[R v?];exact .ret ⟨by simp only;split at d<;>omega,e⟩|cons y r g=>(intro j has f es o d e;obtain⟨g1,g2,g3⟩:=zx o;have m:=h.stop x p i (zj hi) y (zj g1);rw[jH.eq_1];refine .go (gi hi) ?_;rw[T v?,ws o?];refine .go (gi g1) ?_;refine .ite (λ_=>g (j+1) _ _ _ g2 d e) λ_=>?_;have take: ∀b :I,((!f)&&((decide (k>=(0:Y)))&&(decide (k<(y.opts.l.length:Y)))))=U->K (qk y.opts.l k>>=λz=>if ql (es.length+1) 32=U then jH (k,n,b,(a:Y),U,((j+1:V):Y),st,t4,x,es++[(qf.mk y.span z)])else none) (λv=>v.2.length<=a+1/\wa v.2<=v.2.length*17592186044416):=by (intro b c;simp only[xn,b_,M]at c;obtain⟨t,c2,s⟩:=c;subst t;simp only[vH,if_false,V.add_zero]at d;refine .bind (K.get o? s) λz q=>?_;have hzl:=m.2.1 z q.2;rw[T qC];refine g (j+1) _ _ _ g2 v? ?_;have:wa (es++[(qf.mk y.span z)])=wa es+z.length:=by simp[wa]);rw[this,p?,u!,S?];omega);exact .ite (λ_=>C (λc=>take _ c) λ_=>g (j+1) _ _ _ g2 d e) λ_=>C (λc=>take _ c) λ_=>g (j+1) _ _ _ g2 d e
theorem IX(k n:Y)(x:qb)(d:x∈st.qi.l)(t4:qv): ∀(r:Z qr)(a:V)(has:I)(es:Z qf),x.insts.l.drop a=r->a<=x.insts.l.length->es.length<=a->wa es<=es.length*17592186044416->
  K (uN (k,n,has,(a:Y),st,t4,x,es)) (λv=>v.2.length<=4096/\wa v.2<=v.2.length*17592186044416):=by have hs:=h.small x d;have ha12:=hs.1;intro r;induction r with|nil=>intro a has es b f e c;have:=zd b;rw[uN.eq_1,R v?];exact .ret ⟨u?,c⟩|cons i r ih=>intro a has es b f e c;obtain⟨g1,g2,g3⟩:=zx b;rw[uN.eq_1,T v?,ws o?];have:= @IY;exact E
end
end Xr
theorem Wa(s lead unit:L)(hs:s.length<=8192002)(hl:lead.length<=1048576)(hu:unit.length<=1048576):K (pf s lead unit) (λr=>r.length<=17592186044416):=by
 have key: ∀(r:L)(k:V)(behind:I)(b:L),s.drop k=r->k<=s.length->b.length<=2097153*k->K (jg (s,lead,unit,behind,(k:Y),b)) (λr=>r.length<=17592186044416):=by (have UO: ∀n,n<=17592186044416->ql n 1=U:=by intro n hn;simp only[ql,xn,M];omega);intro r;induction r with|nil=>intro k behind b a i g;rw[jg.eq_1,R (by simpa using uU a)];exact .ret o?|cons c r f=>(intro k behind b a i g;obtain⟨d,a2,a3,a4⟩:=yB a;have next: ∀(h:I)(e:L),e.length<=b.length+2097153->K (jg (s,lead,unit,h,((k+1:V):Y),e)) (λr=>r.length<=17592186044416):=λh e he=>f (k+1) h e a3 o? o?);rw[jg.eq_1,T (by simpa using d),ZX o? d,a2];exact E
 unfold pf;exact E
theorem GN(name:L)(env:F qz)(he:env.l.length<=1099511627776):K (gH name env) (λr=>(∃ p∈env.l,r.1=p.value)\/(r.1=[]/\r.2=X)):=by
 have key: ∀(r:Z qz)(k:V),env.l.drop k=r->K (yH (name,env,(k:Y))) (λ| .inl y=> ∃p∈env.l,y.1=p.value| .inr _=>True):=by intro r;induction r with|nil=>intro k a;rw[yH.eq_1,R (by simpa using uU a)];exact .ret trivial|cons c r ih=>intro k a;obtain⟨b,a2,a3,a4⟩:=yB a;rw[yH.eq_1,T (by simpa using b),ZX o? b];exact E
 unfold gH;exact E
theorem Vg(name:L):K (cP name) (λ_=>True):=by
 have key: ∀(l:F L)(hl:l.l.length<=1000)(r:Z L)(k:V),l.l.drop k=r->K (bg (name,l,(k:Y))) (λ_=>True):=by intro l hl r;induction r with|nil=>intro k a;rw[bg.eq_1,R (by simpa using uU a)];exact .ret trivial|cons c r ih=>intro k a;obtain⟨b,a2,a3,a4⟩:=yB a;rw[bg.eq_1,T (by simpa using b),ZX o? b];exact E
 unfold cP lg;refine .go rfl ?_;refine .bind (key _ z? _ 0 rfl) λv _=>?_;rcases v with v|v<;>exact .ret trivial
theorem cH(n:Y)(l:Z Y)(hl:l.length<=1099511627776):K (gu n l) (λr=>r=U↔n∈l):=by
 have key: ∀(r:Z Y)(k:V),l.drop k=r->K (bk (n,(k:Y),l)) (λv=>(v= .inl U/\n∈r)\/(v= .inr ()/\n∉r)):=by intro r;induction r with|nil=>intro k a;rw[bk.eq_1,R (by simpa using uU a)];exact .ret (.inr ⟨rfl,z?⟩)|cons c r ih=>intro k a;obtain⟨b,a2,a3,a4⟩:=yB a;rw[bk.eq_1,T (by simpa using b),ZX o? b];refine .go a2 ?_;exact E
 unfold gu;exact E
abbrev Pt:=qc
inductive cq:Y->V->Z Pt->Prop
 |nil (up:Y) (b:V):cq up b []
 |cons (up:Y) (b:V) (x:Pt) (qB rest:Z Pt) (hu:x.up=up) (he:x.end_=((b+1+qB.length:V):Y)) (hd:x.jO=X->qB=[]) (ho:x.opts.l≠[]->qB=[])
   (hk:cq b (b+1) qB) (hr:cq up (b+1+qB.length) rest):cq up b (x::(qB++rest))
theorem cq.app{up:Y}{b:V}{l r:Z Pt}(h:cq up b l):cq up (b+l.length) r->cq up b (l++r):=by
 induction h with
 |nil up b=>intro a;simpa using a
 |cons up b x qB rest hu f g d e _ _ c=>
  intro a;have:=cq.cons up b x qB (rest++r) hu f g d e (c (by
   have:b+(x::(qB++rest)).length=b+1+qB.length+rest.length:=v?
   rwa[this]at a))
  simpa using this
theorem cq.one{up:Y}{b:V}(x:Pt)(hu:x.up=up)(a:x.end_=((b+1:V):Y)):cq up b [x]:=by simpa using cq.cons up b x [] [] hu (by simpa using a) (λ_=>rfl) (λ_=>rfl) (.nil _ _) (.nil _ _)
structure POk (k:V) (x:Pt):Prop where
 kind:0<=x.kind/\x.kind<=2
 other:x.kind≠1->x.n=0/\x.jO=X/\x.opts.l=[]
 n: -(k:Y)<=x.n/\x.n<=9999
 qZ:uf x.qZ<=1000000000
 dt:x.jO=U->x.qR=X
 od:x.jO=X->x.opts.l=[]
 tt:x.qR=U->x.text.length<=1048576
 tl:x.text.length<=17592186044416
 ol:(∀ o∈x.opts.l,o.length<=17592186044416)/\Jt x.opts=0/\x.opts.l.length<=8192002
theorem POk.mono{j k:V}(h:j<=k){x:Pt}(p:POk j x):POk k x:=⟨p.kind,p.other,⟨by have:=p.n;omega,p.n.2⟩,p.qZ,p.dt,p.od,p.tt,p.tl,p.ol⟩
def defs(r:Z Pt):Z Y:=(r.filter (·.jO)).map (·.n)
structure ff (r:Z Pt) (ds:Z Y) (ns:Z L):Prop where
 ok: ∀x∈r,POk ns.length x
 dk: ∀n∈defs r,n∈ds
 un:(defs r).Nodup
 dl:ds.length<=r.length
 nl:ns.length<=r.length
structure ZK (env:F qz) (lead unit:L) (up:Y) (r:Z Pt) (ns:Z L) (m:V) (v:F qz×L×L×Z Pt×Z Y×Z L):Prop where
 e1:v.1=env
 e2:v.2.1=lead
 e3:v.2.2.1=unit
 ex: ∃t,v.2.2.2.1=r++t/\cq up r.length t/\t.length<=2*m
 inv:ff v.2.2.2.1 v.2.2.2.2.1 v.2.2.2.2.2
 ns:ns.length<=v.2.2.2.2.2.length
theorem tX(p:Pt)(b:F qz)(b2 d:L)(r:Z Pt)(c:Z Y)(a:Z L)(h:r.length<=100000000):
  K (xN p b b2 d r c a) (λv=>v=r++[{ p with end_:=((r.length+1:V):Y) }]):=by unfold xN;have:= @wr;exact E
theorem an(a b:Z Pt):defs (a++b)=defs a++defs b:=by simp[defs]
theorem aq(x:Pt):defs [x]=if x.jO then[x.n]else[]:=by unfold defs;cases h:x.jO<;>simp[h]
theorem ff.put{r:Z Pt}{b:Z Y}{ns:Z L}(h:ff r b ns)(x:Pt)(hx:POk ns.length x)(a:x.jO=X):ff (r++[x]) b ns where
 ok:=by intro y hy;rcases D.1 hy with hy|hy;exact h.ok y hy;exact E
 dk:=by rw[an,aq,a];simpa using h.dk
 un:=by rw[an,aq,a];simpa using h.un
 dl:=by have:=h.dl;simp;omega
 nl:=by have:=h.nl;simp;omega
theorem ff.define{r:Z Pt}{c:Z Y}{ns:Z L}(h:ff r c ns)(x:Pt)(hx:POk ns.length x)(d:x.jO=U)(hn:x.n∉c):ff (r++[x]) (c++[x.n]) ns where
 ok:=by intro y hy;rcases D.1 hy with hy|hy;exact h.ok y hy;exact E
 dk:=by rw[an,aq,d];intro n hn;rcases D.1 hn with hn|hn;exact D.2 (.inl (h.dk n hn));exact D.2 (.inr hn)
 un:=by rw[an,aq,d];refine O?.2 ⟨h.un,z?,λa g b f=>?_⟩;simp only[if_true,d?]at f;subst f;exact λe=>hn (e ▸ h.dk a g)
 dl:=by have:=h.dl;simp;omega
 nl:=by have:=h.nl;simp;omega
theorem ff.putN{r:Z Pt}{c:Z Y}{ns a:Z L}(h:ff r c ns)(d:ns.length<=a.length/\a.length<=ns.length+1)(x:Pt)(hx:POk a.length x)(b:x.jO=X):ff (r++[x]) c a where
 ok:=by intro y hy;rcases D.1 hy with hy|hy;exact(h.ok y hy).mono d.1;exact E
 dk:=by rw[an,aq,b];simpa using h.dk
 un:=by rw[an,aq,b];simpa using h.un
 dl:=by have:=h.dl;simp;omega
 nl:=by have:=h.nl;simp;omega
theorem ff.defineN{r:Z Pt}{d:Z Y}{ns c:Z L}(h:ff r d ns)(i:ns.length<=c.length/\c.length<=ns.length+1)(x:Pt)(hx:POk c.length x)(f:x.jO=U)(hn:x.n∉d):ff (r++[x]) (d++[x.n]) c where
 ok:=by intro y hy;rcases D.1 hy with hy|hy;exact(h.ok y hy).mono i.1;exact E
 dk:=by rw[an,aq,f];intro n hn;rcases D.1 hn with hn|hn;exact D.2 (.inl (h.dk n hn));exact D.2 (.inr hn)
 un:=by rw[an,aq,f];refine O?.2 ⟨h.un,z?,λa j b g=>?_⟩;simp only[if_true,d?]at g;subst g;exact λe=>hn (e ▸ h.dk a j)
 dl:=by have:=h.dl;simp;omega
 nl:=by have:=h.nl;simp;omega
theorem ff.names{r:Z Pt}{a:Z Y}{ns:Z L}(h:ff r a ns){ms:Z L}(d:ns.length<=ms.length)(c:ms.length<=r.length):ff r a ms:=
 ⟨λx b=>(h.ok x b).mono d,h.dk,h.un,h.dl,c⟩
theorem ff.V0{r t:Z Pt}{p q:Pt}{b:Z Y}{ns:Z L}(h:ff (r++p::t) b ns)(e:Y)(a:q={ p with end_:=e }):ff (r++q::t) b ns where
 ok:=by subst a;intro y hy;rcases D.1 hy with hy|hy;exact h.ok y (by simp[hy]);rcases K?.1 hy with rfl|hy;have:=h.ok p z?;exact⟨this.kind,this.other,this.n,this.qZ,this.dt,this.od,this.tt,this.tl,this.ol⟩;exact h.ok y (by simp[hy])
 dk:=by (have e1:defs (r++q::t)=defs (r++p::t):=by subst a;simp only[defs,q06,D!];cases p.jO<;>simp);rw[e1];exact h.dk
 un:=by (have e1:defs (r++q::t)=defs (r++p::t):=by subst a;simp only[defs,q06,D!];cases p.jO<;>simp);rw[e1];exact h.un
 dl:=by have:=h.dl;simpa using this
 nl:=by have:=h.nl;simpa using this
theorem Nx:uf aZ=1:=by simp[aZ,XG,uf,uR,eN,JX,qS]
structure PA (env:F qz) (lead unit:L):Prop where
 len:env.l.length<=1099511627776
 val: ∀p∈env.l,p.value.length<=1048576
 lead:lead.length<=1048576
 unit:unit.length<=1048576
section
variable {env:F qz} {lead unit:L}
theorem Vj(name:L)(r:Z Pt)(b:Z Y)(ns:Z L)(hn:ns.length<=100000000):
  K (gI name env lead unit r b ns) (λv=>ns.length<=v.2.length/\v.2.length<=ns.length+1/\ -(v.2.length:Y)<=v.1/\v.1<0):=by
 have key: ∀(q:Z L)(k:V),ns.drop k=q->K (wk (name,(k:Y),env,lead,unit,r,b,ns)) (λv=>match v with| .inl y=> -(ns.length:Y)<=y/\y<0| .inr _=>True):=by intro q;induction q with|nil=>intro k a;rw[wk.eq_1,R (by simpa using uU a)];exact .ret trivial|cons c q ih=>intro k a;obtain⟨d,a2,a3,a4⟩:=yB a;rw[wk.eq_1,T (by simpa using d),ZX o? d];have:= @wr;exact E
 unfold gI;refine .bind (key ns 0 rfl) λv hv=>?_;rcases v with v|v;exact E;have:= @wr;exact E
theorem UD(plain:I)(a:Y)(r:Z Pt)(A:Z Y)(z:Z L)(x:qF)(hx:sJ x<=8192002)(hE:PA env lead unit)(p1:Y)(p2:L)(p3:Y)(d:I)(p5 W:I)(Q:Y)(P:L)(B:I)(s:F zf)(p n:Y)(m:I)(j:F qI)(i:F zQ)(g f:I)(e b:Y):
  K (j9 (plain,a,(0:Y),env,lead,unit,r,A,z,x,p1,p2,p3,d,p5,W,Q,P,B,s,p,n,m,j,i,g,f,e,b,([]:Z L)))
   (λo=>(d=X->o=[])/\(x.opts.l=[]->o=[])/\(∀ y∈o,y.length<=17592186044416)/\o.length<=8192002):=by
 have hw:=tu x;have hol:=xP M7 x.opts.l;cases d with
 |false=>
  rw[j9.eq_1,R z?];exact .ret ⟨λ_=>rfl,λ_=>rfl,z?,z?⟩
 |true=>
  have key: ∀(q:Z L)(k:V)(o:Z L),x.opts.l.drop k=q->o.length=k->k<=x.opts.l.length->(∀ y∈o,y.length<=17592186044416)->
    K (j9 (plain,a,(k:Y),env,lead,unit,r,A,z,x,p1,p2,p3,U,p5,W,Q,P,B,s,p,n,m,j,i,g,f,e,b,o)) (λo=>o.length=x.opts.l.length/\ ∀y∈o,y.length<=17592186044416):=by
   intro q;induction q with
   |nil=>
    intro k o u t s9 w;rw[j9.eq_1,R (by simpa using uU u)];have:=u9 u;exact .ret ⟨o?,w⟩
   |cons c q ih=>
    intro k o u t s9 w;obtain⟨a1,a2,a3,a4⟩:=yB u;have hc:opW c<=qS (x.opts.l.map opW):=jF a4;have hcw:opW c=1+c.length:=rfl;rw[j9.eq_1,T (by simpa using a1),ZX o? a1];refine .go a2 ?_;refine .bind (Wa c lead unit o? hE.lead hE.unit) λv hv=>?_;refine .zY (by simp only[ql,xn,M];omega) ?_;refine ih (k+1) _ a3 v? o? ?_;intro y Wr;rcases D.1 Wr with Wr|Wr
    ·exact w y Wr
    simp only[d?]at Wr;subst Wr;exact hv
  refine(key x.opts.l 0 [] rfl rfl o? z?).mono λo t=>⟨z?,λh=>?_,t.2,by have:=t.1;omega⟩;have:=t.1;rw[h]at this;simpa using this
theorem Yi{α:Type}(r t:Z α)(p q:α):(r++p::t).set r.length q=r++q::t:=by rw[Z.set_append_right _ _ (ke _)];simp
theorem Kt{α:Type}(r t:Z α)(p:α):qk (r++p::t) (r.length:Y)=N p:=by rw[xQ z?];simp
theorem H6(x:qF)(hx:sJ x<=8192002)(hS:WS x)(hk:x.kind=1\/x.kind=2)(up:Int)(hE:PA env lead unit)(r:List Pt)(ds:List Int)(ns:List qa)(hr:r.length+2*sJ x<=40000000)(hI:ff r ds ns)
  (ih: ∀(up:Int)(r:List Pt)(ds:List Int)(ns:List qa),r.length+2*qS (x.qB.l.map sJ)<=40000000->ff r ds ns->qL (xC (x.qB,up,env,lead,unit,r,ds,ns)) (ZK env lead unit up r ns (qS (x.qB.l.map sJ)))):
  qL (vO (x,up,false,env,lead,unit,r,ds,ns)) (ZK env lead unit up r ns (sJ x)):=by
 have hw:=tu x;have hdl:=hI.dl;obtain⟨s2,s1,sn⟩:(x.kind=2->x.has=false/\x.qR=false/\x.qB.l=[]/\0<x.opts.l.length)/\(x.kind=1\/x.kind=3->x.opts.l=[]/\(x.has=true->x.qR=false)/\(x.has=false->x.qB.l=[]))/\(x.kind=1\/x.kind=2->0<=x.n/\x.n<=9999):=by cases hS with|mk _ _ _ a b _ c=>exact⟨a,b,c⟩
 have hn:=sn hk;rw[vO.eq_1];refine .tI ?_ ?_<;>intro hT
 ·have hd:=hT;have htu:x.qR=false:=by rcases hk with h|h;rcases hd with hd|hd;exact(s1 (.inl h)).2.1 hd;omega;exact(s2 h).2.1
  refine .bind (cH x.n ds o?) λv hv=>?_;refine .bind (UD _ _ _ _ _ x hx hE _ _ _ (!v) _ _ _ _ _ _ _ _ _ _ _ _ _ _ _) λo ho=>?_;have hp: ∀e,POk ns.length (qc.mk (1:Int) ([]:qa) x.n (!v) false x.qR x.qZ (⟨o.isEmpty,o⟩:(Sl qa)) up e):=λe=>
   ⟨u?,z?,⟨u?,hn.2⟩,u?,λ_=>htu,λh=>ho.1 h,z?,z?,ho.2.2.1,VY _,ho.2.2.2⟩
  refine .bind (tX _ env lead unit r ds ns o?) λy hy=>?_;subst hy;refine .tI ?_ ?_<;>intro hT;have Kz:=hT;refine .ret ⟨rfl,rfl,rfl,⟨_,rfl,cq.one _ rfl rfl,v?⟩,hI.put _ (hp _) (by simp[Kz]),ke _⟩;have Kz:=hT;refine .zY (by simp only[ql,xn,decide_eq_true_eq];omega) ?_;rw[if_neg z?];have hI2:=hI.define _ (hp ((r.length+1:Nat):Int)) (by simp[Kz]) (λh=>by have:=hv.2 h;simp_all);refine .bind (ih (r.length:Int) _ _ _ v? hI2) λw P9=>?_;obtain⟨g1,g2,g3,⟨t,g4,g5,g6⟩,g7,g8⟩:=P9;rw[g4,List.append_assoc]at g7 |-;simp only[List.cons_append,List.nil_append]at g7 |-;refine .go (Kt _ _ _) ?_;rw[Int.toNat_natCast,Yi];have hlen:(r++qc.mk (1:Int) ([]:qa) x.n (!v) false x.qR x.qZ (⟨o.isEmpty,o⟩:(Sl qa)) up ((r.length+1:Nat):Int)::t).length=r.length+1+t.length:=v?;refine .ret ⟨g1,g2,g3,⟨_,rfl, ?_,v?⟩, ?_,g8⟩;(have hkid:(⟨o.isEmpty,o⟩:Sl qa).l≠[]->t=[]:=by (intro h;have hko:x.qB.l=[]:=by rcases hk with h1|h1;exact absurd (ho.2.1 (s1 (.inl h1)).1) h;exact(s2 h1).2.2.1);(have:t.length<=0:=by rw[hko]at g6;simpa[qS]using g6);simpa using this);have:=cq.cons up r.length (qc.mk (1:Int) ([]:qa) x.n (!v) false x.qR x.qZ (⟨o.isEmpty,o⟩:(Sl qa)) up (((r++qc.mk (1:Int) ([]:qa) x.n (!v) false x.qR x.qZ (⟨o.isEmpty,o⟩:(Sl qa)) up ((r.length+1:Nat):Int)::t).length:Nat):Int)) t [] rfl (by simp only[hlen]) (λh=>by simp[Kz]at h) hkid (by simpa using g5) (.nil _ _);simpa using this;exact g7.V0 _ rfl
 have hd:=hT;refine .bind (UD _ _ _ _ _ x hx hE _ _ _ false _ _ _ _ _ _ _ _ _ _ _ _ _ _ _) λo ho=>?_;refine .bind (tX _ env lead unit r ds ns o?) λy hy=>?_;subst hy;refine .ret ⟨rfl,rfl,rfl,⟨_,rfl,cq.one _ rfl rfl,v?⟩,hI.put _ ?_ rfl,ke _⟩;exact⟨u?,z?,⟨u?,hn.2⟩,u?,z?,λ_=>ho.1 rfl,z?,z?,ho.2.2.1,VY _,ho.2.2.2⟩
end
section
variable {env:F qz} {lead unit:L}
theorem ZK.trans{up:Y}{r:Z Pt}{ns:Z L}{c b:V}{v w:F qz×L×L×Z Pt×Z Y×Z L}(d:ZK env lead unit up r ns c v)(a:ZK env lead unit up v.2.2.2.1 v.2.2.2.2.2 b w):ZK env lead unit up r ns (c+b) w:=by obtain⟨t1,e,a2,a3⟩:=d.ex;obtain⟨t2,f,b2,b3⟩:=a.ex;refine⟨a.e1,a.e2,a.e3,⟨t1++t2,by rw[f,e,M!],a2.app ?_,v?⟩,a.inv,V.le_trans d.ns a.ns⟩;rw[e]at b2;simpa using b2
theorem ZK.len{up:Y}{r:Z Pt}{ns:Z L}{m:V}{v:F qz×L×L×Z Pt×Z Y×Z L}(h:ZK env lead unit up r ns m v):v.2.2.2.1.length<=r.length+2*m:=by obtain⟨t,a,_,a3⟩:=h.ex;rw[a];simp;omega
theorem Q6{up:Y}{r:Z Pt}{a:Z Y}{ns:Z L}(e:ff r a ns){x:Pt}(hu:x.up=up)(d:x.jO=X)(c:x.end_=((r.length+1:V):Y))(b:POk ns.length x){m:V}(hm:1<=m):
  ZK env lead unit up r ns m (env,lead,unit,r++[x],a,ns):=
 ⟨rfl,rfl,rfl,⟨_,rfl,cq.one _ hu c,v?⟩,e.put _ b d,ke _⟩
theorem Br(n:Y)(t:L)(ht:t.length<=8192002)(up:Y)(r:Z Pt)(j:Z Y)(ns:Z L)(hr:r.length<=50000000)(i:ff r j ns)(c:Z L)(d:ns.length<=c.length/\c.length<=ns.length+1)(hn: -(c.length:Y)<=n/\n<0):
  K (uL ((1:Y),([]:L),n,U,X,(0:Y),([]:L),X,(⟨U,([]:Z zf)⟩:F zf),(0:Y),(0:Y),X,(⟨U,([]:Z qI)⟩:F qI),(⟨U,([]:Z zQ)⟩:F zQ),X,X,(⟨U,([]:Z L)⟩:F L),up,U,env,lead,unit,[(qF.mk (0:Y) t (0:Y) X X (zG.mk (qI.mk (0:Y) ([]:L) X (⟨U,[]⟩:(F zf)) (0:Y) (0:Y) X (⟨U,[]⟩:(F qI))) (⟨U,[]⟩:(F zQ)) X X) (⟨U,[]⟩:(F L)) (⟨U,[]⟩:(F qF)))],r,j,c))
   (λv=> ∃m q,v= .inl (m,q)/\ZK env lead unit up r ns 1 (env,lead,unit,m,q,c)):=by
 have hdl:=i.dl;have hnl:=i.nl;rw[uL.eq_1];rw[T z?];refine .bind (cH n j o?) λv s=>?_;refine .go (a:=[]) (by rw[yu.eq_1];simp) ?_;have o: ∀e,POk c.length (qc.mk (1:Y) ([]:L) n (!v) X X (zG.mk (qI.mk (0:Y) ([]:L) X (⟨U,([]:Z zf)⟩:F zf) (0:Y) (0:Y) X (⟨U,([]:Z qI)⟩:F qI)) (⟨U,([]:Z zQ)⟩:F zQ) X X) (⟨([]:Z L).isEmpty,[]⟩:(F L)) up e):=λe=>
  ⟨u?,z?,⟨hn.1,u?⟩,by have:=Nx;unfold aZ XG at this;simp only[this];omega,λ_=>rfl,λ_=>rfl,z?,z?,by simp[eN]⟩
 have u: ∀e,POk c.length (qc.mk (0:Y) t (0:Y) X X X (zG.mk (qI.mk (0:Y) ([]:L) X (⟨U,([]:Z zf)⟩:F zf) (0:Y) (0:Y) X (⟨U,([]:Z qI)⟩:F qI)) (⟨U,([]:Z zQ)⟩:F zQ) X X) (⟨U,([]:Z L)⟩:(F L)) (r.length:Y) e):=λe=>
  ⟨u?,z?,⟨u?,u?⟩,by have:=Nx;unfold aZ XG at this;simp only[this];omega,z?,λ_=>rfl,z?,u?,by simp[eN]⟩
 refine .bind (tX _ env lead unit r j c o?) λy g=>?_;subst g;refine .tI ?_ ?_<;>intro p;have k:=p;exact .ret ⟨_,_,rfl,⟨rfl,rfl,rfl,⟨_,rfl,cq.one _ rfl rfl,z?⟩,i.putN d _ (o _) (by simp[k]),d.1⟩⟩
 have k:=p;refine .zY (by simp only[ql,xn,M];omega) ?_;rw[T rfl];refine .go (a:=(qF.mk (0:Y) t (0:Y) X X (zG.mk (qI.mk (0:Y) ([]:L) X (⟨U,[]⟩:(F zf)) (0:Y) (0:Y) X (⟨U,[]⟩:(F qI))) (⟨U,[]⟩:(F zQ)) X X) (⟨U,[]⟩:(F L)) (⟨U,[]⟩:(F qF)))) rfl ?_;have l:=i.defineN d _ (o ((r.length+1:V):Y)) (by simp[k]) (λh=>by have:=s.2 h;simp_all);refine .bind (tX _ env lead unit _ _ c v?) λy g=>?_;simp only[p?,b?,r?,x!]at g;subst g;have f:=l.put _ (u ((r.length+1+1:V):Y)) rfl;rw[M!]at f |-;simp only[Z.cons_append,M?]at f |-;refine .go (Kt _ _ _) ?_;rw[X?,Yi];refine .ret ⟨_,_,rfl,⟨rfl,rfl,rfl,⟨_,rfl, ?_,z?⟩,f.V0 _ rfl,d.1⟩⟩;have:=cq.cons (up:=up) (b:=r.length) (qc.mk (1:Y) ([]:L) n (!v) X X (zG.mk (qI.mk (0:Y) ([]:L) X (⟨U,([]:Z zf)⟩:F zf) (0:Y) (0:Y) X (⟨U,([]:Z qI)⟩:F qI)) (⟨U,([]:Z zQ)⟩:F zQ) X X) (⟨([]:Z L).isEmpty,[]⟩:(F L)) up ((r.length+1+1:V):Y))
  [qc.mk (0:Y) t (0:Y) X X X (zG.mk (qI.mk (0:Y) ([]:L) X (⟨U,([]:Z zf)⟩:F zf) (0:Y) (0:Y) X (⟨U,([]:Z qI)⟩:F qI)) (⟨U,([]:Z zQ)⟩:F zQ) X X) (⟨U,([]:Z L)⟩:(F L)) (r.length:Y) ((r.length+1+1:V):Y)] [] rfl z? (λh=>by simp[k]at h) (λh=>J rfl h) (cq.one _ rfl rfl) (.nil _ _)
 have e2:(r.length:Y)+2=(r.length:Y)+1+1:=o?;simpa[e2]using this
theorem GZ(j:PA env lead unit): ∀(m:V)(l:F qF),qS (l.l.map sJ)<=m->m<=8192002->Ym l-> ∀(up:Y)(r:Z Pt)(a:Z Y)(ns:Z L),r.length+2*qS (l.l.map sJ)<=40000000->ff r a ns->
  K (xC (l,up,env,lead,unit,r,a,ns)) (ZK env lead unit up r ns (qS (l.l.map sJ))):=by
 intro m;induction m using s? with
 |_ m z=>
 intro l hl hm hS up r a ns i d;have hlen:=xP ag l.l;have key: ∀(q:Z qF)(k:V)(r:Z Pt)(a:Z Y)(ns:Z L),l.l.drop k=q->r.length+2*qS (q.map sJ)<=40000000->ff r a ns->
   K (zz (l,up,(k:Y),env,lead,unit,r,a,ns)) (ZK env lead unit up r ns (qS (q.map sJ))):=by
  intro q;induction q with
  |nil=>
   intro k r a ns s i d;rw[zz.eq_1,R (by simpa using uU s)];exact .ret ⟨rfl,rfl,rfl,⟨[],z?,.nil _ _,z?⟩,d,ke _⟩
  |cons x q o=>
   intro k r a ns s i d;obtain⟨A,a2,a3,a4⟩:=yB s;have hx:=jF (f:=sJ) a4;have hxw:=tu x;have u:=ag x;simp only[e?,qS]at i |-;have e:=hS x a4;have next: ∀v:F qz×L×L×Z Pt×Z Y×Z L,ZK env lead unit up r ns (sJ x) v->
     K (zz (l,up,((k+1:V):Y),v.1,v.2.1,v.2.2.1,v.2.2.2.1,v.2.2.2.2.1,v.2.2.2.2.2)) (ZK env lead unit up r ns (sJ x+qS (q.map sJ))):=by
    intro v b;have:=b.len;rw[b.e1,b.e2,b.e3];exact(o (k+1) _ _ _ a3 o? b.inv).mono λw h=>b.trans h
   rw[zz.eq_1,T (by simpa using A),ZX o? A];refine .go a2 ?_;refine .tI ?_ ?_<;>intro g
   ·refine .bind (Wa x.text lead unit o? j.lead j.unit) λt W=>?_;refine .bind (tX _ env lead unit r a ns o?) λy c=>?_;subst c;refine next (env,lead,unit,_,a,ns) ?_
    refine Q6 d ?_ ?_ ?_ ?_ u;rfl;rfl;rfl;exact⟨u?,z?,⟨u?,u?⟩,by have:=Nx;unfold aZ XG at this;simp only[this];omega,z?,λ_=>rfl,z?,W,by simp[eN]⟩
   have k0:=g;refine .tI ?_ ?_<;>intro g
   ·have Q:=g;refine .bind (GN x.text env j.len) λv b=>?_;have TT:v.1.length<=1048576:=by
     rcases b with ⟨p,n,P⟩|⟨n,_⟩
     ·rw[P];exact j.val p n
     rw[n];simp
    refine .tI ?_ ?_<;>intro g
    ·refine .bind (tX _ env lead unit r a ns o?) λy c=>?_;subst c;refine next (env,lead,unit,_,a,ns) ?_
     refine Q6 d ?_ ?_ ?_ ?_ u;rfl;rfl;rfl;exact⟨u?,z?,⟨u?,u?⟩,u?,z?,λ_=>rfl,λ_=>TT,u?,by simp[eN]⟩
    refine .tI ?_ ?_<;>intro g
    ·refine .bind (z (qS (x.qB.l.map sJ)) o? x.qB (ke _) o? (by cases e;assumption) up r a ns o? d) λv b=>?_;refine next v ⟨b.e1,b.e2,b.e3, ?_,b.inv,b.ns⟩
     obtain⟨t,t1,t2,t3⟩:=b.ex;exact⟨t,t1,t2,o?⟩
    refine .bind (Vg x.text) λv _=>?_;refine .tI ?_ ?_<;>intro g
    ·refine .bind (tX _ env lead unit r a ns o?) λy c=>?_;subst c;refine next (env,lead,unit,_,a,ns) ?_
     refine Q6 d ?_ ?_ ?_ ?_ u;rfl;rfl;rfl;exact⟨u?,z?,⟨u?,u?⟩,u?,z?,λ_=>rfl,z?,z?,by simp[eN]⟩
    have hnl:=d.nl;refine .bind (Vj x.text r a ns o?) λw h=>?_;refine .bind (Br w.1 x.text o? up r a ns o? d w.2 ⟨h.1,h.2.1⟩ ⟨h.2.2.1,h.2.2.2⟩) λy c=>?_;obtain⟨B,An,rfl,c⟩:=c;refine next (env,lead,unit,B,An,w.2) ⟨c.e1,c.e2,c.e3, ?_,c.inv,c.ns⟩
    obtain⟨t,t1,t2,t3⟩:=c.ex;exact⟨t,t1,t2,o?⟩
   have Q:=g;have hkd:0<=x.kind/\x.kind<=3:=by cases e;assumption
   refine .bind (H6 x o? e o? up j r a ns o? d ?_) λv b=>?_
   ·intro up r a ns i d;exact z (qS (x.qB.l.map sJ)) o? x.qB (ke _) o? (by cases e;assumption) up r a ns o? d
   exact next v b
 rw[xC.eq_1];exact .bind (key l.l 0 r a ns rfl i d) λv b=> .ret b
theorem Dg(h:PA env lead unit)(l:F qF)(hl:qS (l.l.map sJ)<=8192002)(Q:Ym l)(up:Y):K (tH l up env lead unit) (ZK env lead unit up [] [] (qS (l.l.map sJ))):=by
 have hlen:=xP ag l.l;have key: ∀(q:Z qF)(k:V)(r:Z Pt)(b:Z Y)(ns:Z L),l.l.drop k=q->r.length+2*qS (q.map sJ)<=40000000->ff r b ns->
   K (xc (l,up,(k:Y),env,lead,unit,r,b,ns)) (ZK env lead unit up r ns (qS (q.map sJ))):=by
  intro q;induction q with
  |nil=>
   intro k r b ns o n d;rw[xc.eq_1,R (by simpa using uU o)];exact .ret ⟨rfl,rfl,rfl,⟨[],z?,.nil _ _,z?⟩,d,ke _⟩
  |cons x q m=>
   intro k r b ns o n d;obtain⟨u,a2,a3,a4⟩:=yB o;have hx:=jF (f:=sJ) a4;have hxw:=tu x;have s:=ag x;simp only[e?,qS]at n |-;have e:=Q x a4;have next: ∀v:F qz×L×L×Z Pt×Z Y×Z L,ZK env lead unit up r ns (sJ x) v->
     K (xc (l,up,((k+1:V):Y),v.1,v.2.1,v.2.2.1,v.2.2.2.1,v.2.2.2.2.1,v.2.2.2.2.2)) (ZK env lead unit up r ns (sJ x+qS (q.map sJ))):=by
    intro v a;have:=a.len;rw[a.e1,a.e2,a.e3];exact(m (k+1) _ _ _ a3 o? a.inv).mono λw i=>a.trans i
   rw[xc.eq_1,T (by simpa using u),ZX o? u];refine .go a2 ?_;refine .tI ?_ ?_<;>intro g
   ·refine .bind (Wa x.text lead unit o? h.lead h.unit) λt P=>?_;refine .bind (tX _ env lead unit r b ns o?) λy c=>?_;subst c;refine next (env,lead,unit,_,b,ns) ?_
    refine Q6 d ?_ ?_ ?_ ?_ s;rfl;rfl;rfl;exact⟨u?,z?,⟨u?,u?⟩,by have:=Nx;unfold aZ XG at this;simp only[this];omega,z?,λ_=>rfl,z?,P,by simp[eN]⟩
   have k0:=g;refine .tI ?_ ?_<;>intro g
   ·have B:=g;refine .bind (GN x.text env h.len) λv a=>?_;have W:v.1.length<=1048576:=by
     rcases a with ⟨p,j,A⟩|⟨j,_⟩
     ·rw[A];exact h.val p j
     rw[j];simp
    refine .tI ?_ ?_<;>intro g
    ·refine .bind (tX _ env lead unit r b ns o?) λy c=>?_;subst c;refine next (env,lead,unit,_,b,ns) ?_
     refine Q6 d ?_ ?_ ?_ ?_ s;rfl;rfl;rfl;exact⟨u?,z?,⟨u?,u?⟩,u?,z?,λ_=>rfl,λ_=>W,u?,by simp[eN]⟩
    refine .tI ?_ ?_<;>intro g
    ·refine .bind (GZ h (qS (x.qB.l.map sJ)) x.qB (ke _) o? (by cases e;assumption) up r b ns o? d) λv a=>?_;refine next v ⟨a.e1,a.e2,a.e3, ?_,a.inv,a.ns⟩
     obtain⟨t,t1,t2,t3⟩:=a.ex;exact⟨t,t1,t2,o?⟩
    refine .bind (Vg x.text) λv _=>?_;refine .tI ?_ ?_<;>intro g
    ·refine .bind (tX _ env lead unit r b ns o?) λy c=>?_;subst c;refine next (env,lead,unit,_,b,ns) ?_
     refine Q6 d ?_ ?_ ?_ ?_ s;rfl;rfl;rfl;exact⟨u?,z?,⟨u?,u?⟩,u?,z?,λ_=>rfl,z?,z?,by simp[eN]⟩
    have hnl:=d.nl;refine .bind (Vj x.text r b ns o?) λw i=>?_;refine .bind (Br w.1 x.text o? up r b ns o? d w.2 ⟨i.1,i.2.1⟩ ⟨i.2.2.1,i.2.2.2⟩) λy c=>?_;obtain⟨z,An,rfl,c⟩:=c;refine next (env,lead,unit,z,An,w.2) ⟨c.e1,c.e2,c.e3, ?_,c.inv,c.ns⟩
    obtain⟨t,t1,t2,t3⟩:=c.ex;exact⟨t,t1,t2,o?⟩
   have B:=g;have hkd:0<=x.kind/\x.kind<=3:=by cases e;assumption
   refine .bind (H6 x o? e o? up h r b ns o? d ?_) λv a=>?_
   ·intro up r b ns n d;exact GZ h (qS (x.qB.l.map sJ)) x.qB (ke _) o? (by cases e;assumption) up r b ns o? d
   exact next v a
 unfold tH;exact .bind (key l.l 0 [] [] [] rfl v? ⟨z?,by simp[defs],by simp[defs],z?,z?⟩) λv a=> .ret a
end
def core(x:Pt):Pt:={ x with n:=0,first:=X }
theorem cq.VR{up:Y}{b:V}{l:Z Pt}(h:cq up b l): ∀{l' :Z Pt},l'.map core=l.map core->cq up b l' :=by induction h with|nil up b=>intro l' h;simp at h;subst h;exact .nil _ _|cons up b x qB rest hu e hd ho hk _ k j=>intro l' h;rw[e?,Z.map_append]at h;cases l' with|nil=>simp at h|cons y t=>(simp only[e?,Z.cons.injEq]at h;obtain⟨a,f⟩:=h;obtain⟨c,d,rfl,e1,e2⟩:=Z.map_eq_append_iff.1 f;have e3:c.length=qB.length:=by simpa using congrArg Z.length e1);have i:y.up=x.up:=(H (·.up) a:(core y).up=(core x).up);have g:y.end_=x.end_:=(H (·.end_) a:(core y).end_=(core x).end_);have e6:y.jO=x.jO:=(H (·.jO) a:(core y).jO=(core x).jO);have e7:y.opts=x.opts:=(H (·.opts) a:(core y).opts=(core x).opts);refine .cons up b y c d (i.trans hu) (by rw[g,e,e3]) (λh=>?_) (λh=>?_) (k e1) (by rw[e3];exact j e2);exact E;exact E
theorem cq.end_{up:Y}{b:V}{l:Z Pt}(h:cq up b l): ∀(i:V)(x:Pt),l[i]? =N x->((b+i:V):Y)<x.end_/\x.end_<=((b+l.length:V):Y):=by induction h with|nil up b=>intro i x h;simp at h|cons up b x qB rest hu he hd ho hk _ Pa Y9=>intro i y h;exact E
structure PE (x:Pt):Prop where
 kind:0<=x.kind/\x.kind<=2
 other:x.kind≠1->x.jO=X/\x.opts.l=[]
 qZ:uf x.qZ<=1000000000
 dt:x.jO=U->x.qR=X
 od:x.jO=X->x.opts.l=[]
 tt:x.qR=U->x.text.length<=1048576
 tl:x.text.length<=17592186044416
 ol:(∀ o∈x.opts.l,o.length<=17592186044416)/\Jt x.opts=0/\x.opts.l.length<=8192002
structure Good (P:Z Pt):Prop where
 seg:cq (-1) 0 P
 ok: ∀x∈P,PE x
 n: ∀x∈P,0<=x.n/\x.n<=100000000
 un:(defs P).Nodup
 len:P.length<=40000000
theorem PE.VR{x y:Pt}(h:PE x)(e:core y=core x):PE y:=by have e1:y.kind=x.kind:=(H (·.kind) e:(core y).kind=(core x).kind);have e2:y.jO=x.jO:=(H (·.jO) e:(core y).jO=(core x).jO);have e3:y.opts=x.opts:=(H (·.opts) e:(core y).opts=(core x).opts);have c:y.qZ=x.qZ:=(H (·.qZ) e:(core y).qZ=(core x).qZ);have b:y.qR=x.qR:=(H (·.qR) e:(core y).qR=(core x).qR);have a:y.text=x.text:=(H (·.text) e:(core y).text=(core x).text);exact⟨e1 ▸ h.kind,by rw[e1,e2,e3];exact h.other,c ▸ h.qZ,by rw[e2,b];exact h.dt,by rw[e2,e3];exact h.od,by rw[b,a];exact h.tt,a ▸ h.tl,by rw[e3];exact h.ol⟩
theorem like_mem{l a :Z Pt}(h:a.map core=l.map core){y:Pt}(b:y∈a): ∃x∈l,core y=core x:=by
 have:core y∈l.map core:=by rw[<- h];exact B?.2 ⟨y,b,rfl⟩
 exact E
section
variable {env:F qz} {lead unit:L}
theorem most_tot(r:Z Pt)(l:Z Y)(ns:Z L)(hl:r.length<=40000000)(hn: ∀x∈r,x.n<=9999): ∀(q:Z Pt)(k:V)(m:Y),r.drop k=q->0<=m->m<=9999->(∀ i x,i<k->r[i]? =N x->x.n<=m)->
  K (kD (m,(k:Y),env,lead,unit,r,l,ns)) (λv=>0<=v/\v<=9999/\ ∀x∈r,x.n<=v):=by intro q;induction q with|nil=>intro k m a e d b;rw[kD.eq_1,R (by simpa using uU a)];refine .ret ⟨e,d,λx c=>?_⟩;obtain⟨i,hi⟩:=kS c;have:=u9 a;exact b i x (by have:=(qK hi).1;omega) hi|cons x q g=>intro k m a e d b;obtain⟨f,a2,a3,a4⟩:=yB a;obtain⟨b1,_,_⟩:=drop_cons a;have c:=hn x a4;rw[kD.eq_1,T (by simpa using f),ZX o? f];refine .go a2 ?_;refine g (k+1) _ a3 (by split<;>omega) (by split<;>omega) ?_;intro i y hi j;by_cases h:i=k;exact E;have:=b i y o? j;split<;>omega
def My(m n:Y):Y:=if n<0 then m-n else n
def KR(m:Y)(x:Pt):Pt:={ x with n:=My m x.n }
theorem ren_tot(d:Z Y)(ns:Z L)(m:Y)(h0:0<=m)(h1:m<=9999): ∀(B A:Z Pt),(A++B).length<=40000000->(∀ x∈B,-40000000<=x.n)->
  K (jR (m,(A.length:Y),env,lead,unit,A++B,d,ns)) (λv=>v=A++B.map (KR m)):=by intro B;induction B with|nil=>intro A hl hn;rw[jR.eq_1,R z?];exact .ret rfl|cons x B b=>intro A hl hn;have hx:=hn x z?;rw[jR.eq_1,T v?];refine .go (Kt _ _ _) ?_;simp only[p?,b?]at hl;rw[wr (n:=(A.length:Y)+1) o? o?];have e:A++(x::B).map (KR m)=(A++[KR m x])++B.map (KR m):=z?;have e2:((A.length:Y)+1)=((A++[KR m x]).length:Y):=z?;rw[e];refine .tI ?_ ?_<;>intro c;(rw[X?,Yi,wr (n:=m-x.n) o? o?,e2];have e3:A++(qc.mk x.kind x.text (m-x.n) x.jO x.first x.qR x.qZ x.opts x.up x.end_)::B=(A++[KR m x])++B:=by simp[KR,My,c]);rw[e3];exact b _ v? λy a=>hn y (by simp[a]);(rw[e2];have e3:A++x::B=(A++[KR m x])++B:=by have: ¬x.n<0:=o?;simp[KR,My,this]);rw[e3];exact b _ v? λy a=>hn y (by simp[a])
theorem JB(n:Y)(r:Z Pt)(b:Z Y)(ns:Z L)(hl:r.length<=40000000):
  K (vM n env lead unit r b ns) (λv=>(v= -1/\ ∀x∈r,x.kind=1->x.jO=U->x.n≠n)\/ ∃(d:V)(x:Pt),v=d/\r[d]? =N x/\x.kind=1/\x.jO=U/\x.n=n):=by
 have key: ∀(q:Z Pt)(k:V),r.drop k=q->K (j8 (n,(k:Y),env,lead,unit,r,b,ns)) (λv=>match v with| .inl v=> ∃(d:V)(x:Pt),v=d/\r[d]? =N x/\x.kind=1/\x.jO=U/\x.n=n| .inr _=> ∀x∈q,x.kind=1->x.jO=U->x.n≠n):=by intro q;induction q with|nil=>intro k a;rw[j8.eq_1,R (by simpa using uU a)];exact .ret z?|cons x q ih=>(intro k a;obtain⟨e,a2,a3,a4⟩:=yB a;obtain⟨b1,_,_⟩:=drop_cons a;have next: ¬(x.kind=1/\x.jO=U/\x.n=n)->K (j8 (n,((k+1:V):Y),env,lead,unit,r,b,ns)) (λv=>match v with| .inl v=> ∃(d:V)(x:Pt),v=d/\r[d]? =N x/\x.kind=1/\x.jO=U/\x.n=n| .inr _=> ∀y∈x::q,y.kind=1->y.jO=U->y.n≠n):=by intro h;exact E);rw[j8.eq_1,T (by simpa using e),ZX o? e];exact E
 unfold vM;refine .bind (key r 0 rfl) λv c=>?_;rcases v with v|v;exact .ret (.inr c);exact .ret (.inl ⟨rfl,c⟩)
theorem Ok(c:Z Y)(ns:Z L): ∀(B A:Z Pt)(a:Z Y),(A++B).length<=40000000->a.length<=A.length->
  K (zJ ((A.length:Y),env,lead,unit,A++B,c,ns,a)) (λv=>v.1.map core=(A++B).map core/\v.1.map (·.n)=(A++B).map (·.n)):=by intro B;induction B with|nil=>intro A a hl i;rw[zJ.eq_1,R z?];exact .ret ⟨rfl,rfl⟩|cons x B f=>(intro A a hl i;rw[zJ.eq_1,T v?];refine .go (Kt _ _ _) ?_;have d :=hl;simp only[p?,b?]at hl;rw[wr (n:=(A.length:Y)+1) o? o?];have e1: ∀y:Pt,((A.length:Y)+1)=((A++[y]).length:Y):=λy=>z?;have e2: ∀y:Pt,A++y::B=(A++[y])++B:=λy=>z?;have skip: ∀t:Z Y,t.length<=A.length+1->K (zJ ((A.length:Y)+1,env,lead,unit,A++x::B,c,ns,t)) (λv=>v.1.map core=(A++x::B).map core/\v.1.map (·.n)=(A++x::B).map (·.n)):=by intro t h;rw[e1 x,e2 x];exact f (A++[x]) t v? (by simpa using h));(have mark:K (zJ ((A.length:Y)+1,env,lead,unit,((A++x::B).set (A.length:Y).toNat (qc.mk x.kind x.text x.n x.jO U x.qR x.qZ x.opts x.up x.end_)),c,ns,a++[x.n])) (λv=>v.1.map core=(A++x::B).map core/\v.1.map (·.n)=(A++x::B).map (·.n)):=by rw[X?,Yi,e1 x,show(A++[x]).length=(A++[qc.mk x.kind x.text x.n x.jO U x.qR x.qZ x.opts x.up x.end_]).length by simp,e2];refine(f _ _ v? v?).mono λv g=>⟨g.1.trans ?_,g.2.trans ?_⟩;simp[core];simp);(have e:ql (a.length+1) 8=U:=by simp only[ql,xn,M];omega);refine .tI ?_ ?_<;>intro b;refine .tI ?_ ?_<;>intro b;exact .zY e mark;refine .tI ?_ ?_<;>intro b;refine .bind (JB x.n _ c ns d) λv _=>?_;refine .tI ?_ ?_<;>intro b;refine .bind (cH x.n a o?) λw _=>?_;refine .tI ?_ ?_<;>intro b;exact .zY e mark;exact skip a o?;exact skip a o?;exact skip a o?;exact skip a o?
theorem ren_inj{m a b:Y}(ha:a<=m)(hb:b<=m)(h0:0<=m)(h:My m a=My m b):a=b:=by unfold My at h;split at h<;>split at h<;>omega
theorem Gv: ∀{l a :Z Pt},a.map core=l.map core->a.map (·.n)=l.map (·.n)->defs a =defs l
 |[],[],_,_=>rfl
 |[],_::_,h,_=>by simp at h
 |_::_,[],h,_=>by simp at h
 |x::l,y::a,d,c=>by simp only[e?,Z.cons.injEq]at d c;have e:y.jO=x.jO:=(H (·.jO) d.1:(core y).jO=(core x).jO);have b:=Gv d.2 c.2;unfold defs at b |-;simp only[D!,e];cases x.jO;simpa using b;simp[c.1,b]
theorem defs_ren(m:Y)(l:Z Pt):defs (l.map (KR m))=(defs l).map (My m):=by induction l with|nil=>rfl|cons x l a=>unfold defs at a |-;simp only[e?,D!,KR];exact E
theorem Bj{α β:Type}{f:α->β}: ∀{l:Z α},l.Nodup->(∀ a∈l,∀ b∈l,f a=f b->a=b)->(l.map f).Nodup
 |[],_,_=>z?
 |x::l,h,d=>by rw[o!]at h;rw[e?,o!];refine⟨λg=>?_,Bj h.2 λa j b i=>d a (by simp[j]) b (by simp[i])⟩;obtain⟨y,c,e⟩:=B?.1 g;have:=d x z? y (by simp[c]) e.symm;exact h.1 (this ▸ c)
theorem M5(r:List Pt)(ds:List Int)(ns:List qa)(hs:cq (-1) 0 r)(hI:ff r ds ns)(hl:r.length<=40000000):qL (nJ env lead unit r ds ns) Good:=by
 have hnl:=hI.nl;unfold nJ;refine .bind (most_tot r ds ns hl (λx hx=>(hI.ok x hx).n.2) r 0 0 rfl o? o? o?) λm hm=>?_;have h2:=ren_tot (env:=env) (lead:=lead) (unit:=unit) ds ns m hm.1 hm.2.1 r [] (by simpa using hl) (λx hx=>by have:=(hI.ok x hx).n;omega);simp only[List.nil_append,List.length_nil]at h2;refine .bind h2 λp hp=>?_;subst hp;have h4:=Ok (env:=env) (lead:=lead) (unit:=unit) ds ns (r.map (KR m)) [] [] (by simpa using hl) z?;simp only[List.nil_append,List.length_nil]at h4;refine .bind h4 λv hv=> .ret ?_;have hc:v.1.map core=r.map core:=by rw[hv.1,List.map_map];exact List.map_congr_left λx _=>rfl
 have hd:defs v.1=(defs r).map (My m):=by rw[Gv hv.1 hv.2,defs_ren]
 refine⟨hs.VR hc,λy hy=>?_,λy hy=>?_, ?_, ?_⟩;obtain⟨x,hx,e⟩:=like_mem hc hy;have h:=hI.ok x hx;exact PE.VR ⟨h.kind,λk=>(h.other k).2,h.qZ,h.dt,h.od,h.tt,h.tl,h.ol⟩ e;(have:y.n∈(r.map (KR m)).map (·.n):=by rw[<- hv.2];exact List.mem_map.2 ⟨y,hy,rfl⟩);simp only[List.map_map,List.mem_map,Function.comp]at this;obtain⟨x,hx,e⟩:=this;have h:=(hI.ok x hx).n;rw[<- e];simp only[KR,My];split<;>omega;(rw[hd];have hle: ∀a∈defs r,a<=m:=by intro a ha;obtain⟨x,hx,rfl⟩:=List.mem_map.1 ha;exact hm.2.2 x (List.mem_filter.1 hx).1);exact Bj hI.un λa ha b hb=>ren_inj (hle a ha) (hle b hb) hm.1;have:=congrArg List.length hc;simp only[List.length_map]at this;omega
end
def Holds(P:Z Pt)(n m:Y):Prop:= ∃(d e:V)(x y:Pt),P[d]? =N x/\x.kind=1/\x.jO=U/\x.n=n/\d<e/\(e:Y)<x.end_/\P[e]? =N y/\y.kind=1/\y.n=m
def N2(P:Z Pt):Prop:= ∀n,¬ E? (Holds P) n n
theorem WB: ∀{a b:Z Y},a.Nodup->(∀ x∈a,x∈b)->a.length<=b.length
 |[],b,_,_=>A! _
 |x::a,b,h,f=>by (rw[o!]at h;have d:=f x z?;have i: ∀y∈a,y∈b.erase x:=λy c=>by have g:y≠x:=λe=>h.1 (e ▸ c);exact(Z.mem_erase_of_ne g).2 (f y (by simp[c])));have h2:=WB h.2 i;have h3:=Z.length_erase_of_mem d;have h4:=Z.length_pos_of_mem d;simp only[b?];omega
section
variable {env:F qz} {lead unit:L}
theorem in_L0(P:Z Pt)(e:Z Y)(ns:Z L)(hl:P.length<=40000000)(d:V)(x:Pt)(c:P[d]? =N x)(he:x.end_<=P.length): ∀(m i:V)(l:Z Y),m=(x.end_-i).toNat->l.length<=100000000-m->
  K (wY ((d:Y),(i:Y),env,lead,unit,P,e,ns,l)) (λv=>(∀ n,n∈v↔n∈l\/ ∃(j:V)(y:Pt),i<=j/\(j:Y)<x.end_/\P[j]? =N y/\y.kind=1/\y.n=n)/\(l.Nodup->v.Nodup)):=by intro m;induction m using s? with|_ m ih=>(intro i l hm OD;have a:=(qK c).1;have b:qk P (d:Y)=N x:=by rw[xQ a];simpa[yc a]using c);rw[wY.eq_1];refine .go b ?_;have:= @wr;have:= @cH;exact E
theorem in2_L0(P:Z Pt)(ds:Z Y)(ns:Z L)(hl:P.length<=40000000)(d:V)(x:Pt)(hd:P[d]? =N x)(he:x.end_<=P.length): ∀(m i:V)(l:Z Y),m=(x.end_-i).toNat->l.length<=100000000-m->
  K (jW ((d:Y),(i:Y),env,lead,unit,l,P,ds,ns)) (λv=>(∀ n,n∈v↔n∈l\/ ∃(j:V)(y:Pt),i<=j/\(j:Y)<x.end_/\P[j]? =N y/\y.kind=1/\y.n=n)/\(l.Nodup->v.Nodup)/\ ∃t,v=l++t):=by
 intro m;induction m using s? with
  |_ m ih=>
   (intro i l hm OD;have p:=(qK hd).1;have B:qk P (d:Y)=N x:=by rw[xQ p];simpa[yc p]using hd);rw[jW.eq_1];refine .go B ?_;refine .tI ?_ ?_<;>intro c
   ·have hi:=c;refine .bind .get λy hy=>?_;have k:P[i]? =N y:=by simpa using hy.1
    rw[wr (n:=(i:Y)+1) o? o?,show((i:Y)+1)=((i+1:V):Y) by omega];have next: ∀f,f.length<=l.length+1->(∀ n,n∈f ↔n∈l\/(y.kind=1/\y.n=n))->(l.Nodup->f.Nodup)->(∃ t,f =l++t)->
      K (jW ((d:Y),((i+1:V):Y),env,lead,unit,f,P,ds,ns)) (λv=>(∀ n,n∈v↔n∈l\/ ∃(j:V)(y:Pt),i<=j/\(j:Y)<x.end_/\P[j]? =N y/\y.kind=1/\y.n=n)/\(l.Nodup->v.Nodup)/\ ∃t,v=l++t):=by
     intro f h1 h2 h3 h4;refine(ih _ o? (i+1) f rfl o?).mono λv u=>⟨λn=>?_,λh=>u.2.1 (h3 h), ?_⟩
     ·rw[u.1 n,h2 n];constructor
      ·rintro((h|h)|⟨j,z,j1,s,g,r,q⟩)
       ·exact .inl h
       ·exact .inr ⟨i,y,ke _,hi,k,h.1,h.2⟩
       exact .inr ⟨j,z,o?,s,g,r,q⟩
      rintro(h|⟨j,z,j1,s,g,r,q⟩)
      ·exact .inl (.inl h)
      rcases q14 j1 with rfl|j1
      ·rw[k]at g;cases g;exact .inl (.inr ⟨r,q⟩)
      exact .inr ⟨j,z,j1,s,g,r,q⟩
     obtain⟨t1,rfl⟩:=h4;obtain⟨t2,h⟩:=u.2.2;exact⟨t1++t2,by rw[h,M!]⟩
    refine .tI ?_ ?_<;>intro c;{have A:=c;refine .bind (cH y.n l o?) λw W=>?_;refine .tI ?_ ?_<;>intro c;{(have Q:=c;have o:y.n∉l:=λh=>by have:=W.2 h;rw[Q]at this;cases this);refine .zY (by simp only[ql,xn,M];omega) (next _ z? (λn=>?_) (λh=>?_) ⟨_,rfl⟩);simp only[D,d?,A,true_and];exact or_congr_right eq_comm;refine O?.2 ⟨h,z?,λa ha b hb=>?_⟩;simp only[d?]at hb;subst hb;exact λe=>o (e ▸ ha)};(have Q:=W.1 c;refine next l o? (λn=>?_) id ⟨[],z?⟩);constructor;exact .inl;rintro(h|⟨_,rfl⟩);exact h;exact Q};have A:=c;exact next l o? (λn=>⟨.inl,λh=>h.elim id λh=>J h.1 A⟩) id ⟨[],z?⟩
   have hi:=c;refine .ret ⟨λn=>⟨.inl,λh=>h.elim id ?_⟩,id,[],z?⟩;rintro⟨j,z,j1,s,_⟩;omega
theorem Y4: ∀{P:Z Pt}{i j:V}{x y:Pt},(defs P).Nodup->P[i]? =N x->P[j]? =N y->x.jO=U->y.jO=U->x.n=y.n->i=j
 |[],i,j,x,y,_,a,_,_,_,_=>by simp at a
 |z::P,i,j,x,y,hn,a,b,d1,d2,e=>by
  have tail:(defs P).Nodup:=by unfold defs at hn |-;exact E
  have mem: ∀{k:V}{w:Pt},P[k]? =N w->w.jO=U->w.n∈defs P:=λh c=>
   B?.2 ⟨_,L_.2 ⟨zj h,c⟩,rfl⟩
  (have head:z.jO=U->z.n∉defs P:=by intro hz;unfold defs at hn |-;exact E);cases i with|zero=>exact E|succ i=>cases j with|zero=>exact E|succ j=>simp only[Q?]at a b;rw[Y4 tail a b d1 d2 e]
theorem Good.end_{P:Z Pt}(a:Good P){i:V}{x:Pt}(h:P[i]? =N x):(i:Y)<x.end_/\x.end_<=P.length:=by have:=a.seg.end_ i x h;simpa using this
theorem Tj(P:Z Pt)(B:Z Y)(ns:Z L)(hP:Good P)(i:Y): ∀(m k:V)(l:Z Y),m=P.length+1-k->l.Nodup->(∀ n∈l,n∈P.map (·.n))->(∀(j:V)(n:Y),j<k->l[j]? =N n-> ∀b,Holds P n b ->b ∈l)->k<=l.length->
  K (wS (i,(k:Y),env,lead,unit,P,B,ns,l)) (λv=>(∀ n∈l,n∈v)/\(∀ n∈v,∀ b,Holds P n b ->b ∈v)/\v.length<=P.length):=by have hl:=hP.len;intro m;induction m using s? with|_ m ih=>(intro k l hm g JJ W0 s9;have OD:l.length<=P.length:=by simpa using WB g JJ);rw[wS.eq_1];refine .tI ?_ ?_<;>intro A;(have hk:=A;refine .bind .get λn hn=>?_;have s:l[k]? =N n:=by simpa using hn.1);rw[wr (n:=(k:Y)+1) o? o?,show((k:Y)+1)=((k+1:V):Y) by omega];refine .bind (JB n P B ns hl) λv c=>?_;refine .tI ?_ ?_<;>intro A;have NF:=A;rcases c with ⟨rfl,_⟩|⟨d,x,rfl,z,x1,x2,x3⟩;omega;(have he:=hP.end_ z;have h2:=in2_L0 (env:=env) (lead:=lead) (unit:=unit) P B ns hl d x z he.2 _ (d+1) l rfl o?;have h2' :K (tG (d:Y) env lead unit l P B ns) (λv=>(∀ n,n∈v↔n∈l\/ ∃(j:V)(y:Pt),d+1<=j/\(j:Y)<x.end_/\P[j]? =N y/\y.kind=1/\y.n=n)/\(l.Nodup->v.Nodup)/\ ∃t,v=l++t):=by unfold tG;rw[wr (n:=(d:Y)+1) (by have:=he.1;omega) o?,show((d:Y)+1)=((d+1:V):Y) by omega];exact .bind h2 λv c=> .ret c);(refine .bind h2' λw r=>?_;obtain⟨t,ht⟩:=r.2.2;have hwn:=r.2.1 g;have f: ∀n∈w,n∈P.map (·.n):=by intro q a;rcases(r.1 q).1 a with h|⟨j,y,_,_,j3,_,j5⟩;exact JJ q h;exact B?.2 ⟨y,zj j3,j5⟩);have AJ: ∀q∈l,q∈w:=λq a=>(r.1 q).2 (.inl a);refine(ih _ o? (k+1) w rfl hwn f ?_ (by rw[ht];simp;omega)).mono λv c=>⟨λq a=>c.1 q (AJ q a),c.2⟩;intro j q u a b o;by_cases Hk:j=k;(subst Hk;have hqn:q=n:=by rw[ht,c? o?,s]at a;exact(Option.some.inj a).symm);subst hqn;obtain⟨d',e,x',y,p,p2,W,Q,p5,p6,p7,p8,p9⟩:=o;have hdd:d' =d:=Y4 hP.un p z W x2 (Q.trans x3.symm);subst hdd;rw[z]at p;cases p;exact(r.1 b).2 (.inr ⟨e,y,o?,p6,p7,p8,p9⟩);(have hq' :l[j]? =N q:=by rw[ht,c? o?]at a;exact a);exact AJ b (W0 j q o? hq' b o);have NF:=A;refine ih _ o? (k+1) l rfl g JJ ?_ o?;intro j q u a b o;by_cases Hk:j=k;subst Hk;rw[s]at a;cases a;obtain⟨d',e,x',y,p,p2,W,Q,_⟩:=o;rcases c with ⟨_,c⟩|⟨d,x,rfl,_⟩;exact J Q (c x' (zj p) p2 W);omega;exact W0 j q o? a b o;refine .ret ⟨λ_ h=>h,λn hn b o=>?_,OD⟩;obtain⟨j,u⟩:=kS hn;exact W0 j n (by have:=(qK u).1;omega) u b o
theorem Dn(P:Z Pt)(i:Z Y)(ns:Z L)(u:Good P):K (tJ env lead unit P i ns) (λv=>v=X->N2 P):=by
 have hl:=u.len;have key: ∀(q:Z Pt)(k:V),P.drop k=q->K (jw ((k:Y),env,lead,unit,P,i,ns)) (λv=>match v with| .inl v=>v=U| .inr _=> ∀(d:V)(x:Pt),k<=d->P[d]? =N x->x.kind=1->x.jO=U-> ¬E? (Holds P) x.n x.n):=by intro q;induction q with|nil=>intro k r;rw[jw.eq_1,R (by simpa using uU r)];refine .ret λd x hd h=>?_;have:=u9 r;have:=(qK h).1;omega|cons x q o=>(intro k r;obtain⟨a1,a2,a3,a4⟩:=yB r;obtain⟨t,_,_⟩:=drop_cons r;have next:(x.kind=1->x.jO=U-> ¬E? (Holds P) x.n x.n)->K (jw (((k+1:V):Y),env,lead,unit,P,i,ns)) (λv=>match v with| .inl v=>v=U| .inr _=> ∀(d:V)(x:Pt),k<=d->P[d]? =N x->x.kind=1->x.jO=U-> ¬E? (Holds P) x.n x.n):=by intro h;refine(o (k+1) a3).mono λv a=>?_;rcases v with v|v;exact a;intro d y hd p s g;rcases q14 hd with rfl|hd;rw[t]at p;cases p;exact h s g;exact a d y hd p s g);rw[jw.eq_1,T (by simpa using a1),ZX o? a1];refine .go a2 ?_;refine .tI ?_ ?_<;>intro f;{have h0:=f;exact next λh=>J h h0};have s:=f;refine .tI ?_ ?_<;>intro f;{have h0:=f;exact next λ_ h=>by rw[h0]at h;cases h};(have g:=f;have he:=u.end_ t;have e8:K (sY (k:Y) env lead unit P i ns) (λv=>(∀ n,n∈v↔n∈([]:Z Y)\/ ∃(j:V)(y:Pt),k+1<=j/\(j:Y)<x.end_/\P[j]? =N y/\y.kind=1/\y.n=n)/\(([]:Z Y).Nodup->v.Nodup)):=by unfold sY;rw[wr (n:=(k:Y)+1) o? o?,show((k:Y)+1)=((k+1:V):Y) by omega];exact .bind (in_L0 P i ns hl k x t he.2 _ (k+1) [] rfl z?) λv a=> .ret a);(refine .bind e8 λv a=>?_;have hvn:=a.2 z?;have hvs: ∀n∈v,n∈P.map (·.n):=by intro q hq;rcases(a.1 q).1 hq with h|⟨j,y,_,_,j3,_,j5⟩;cases h;exact B?.2 ⟨y,zj j3,j5⟩);(have hc:=Tj (env:=env) (lead:=lead) (unit:=unit) P i ns u (k:Y) _ 0 v rfl hvn hvs (λj n hj=>o?) (A! _);refine .bind hc λw W=>?_;have b:w.length<=1099511627776:=by have:=W.2.2;omega);refine .bind (cH x.n w b) λy p=>?_;refine .tI ?_ ?_<;>intro f;exact .ret rfl;(have Q:=f;refine next λ_ _ c=>?_);(have all: ∀m,E? (Holds P) x.n m->m∈w:=by intro m hm;induction hm with|single h=>obtain⟨d',e,x',z,l,p2,B,A,p5,p6,p7,p8,p9⟩:=h;have hdd:d' =k:=Y4 u.un l t B g A;subst hdd;rw[t]at l;cases l;exact W.1 _ ((a.1 _).2 (.inr ⟨e,z,o?,p6,p7,p8,p9⟩))|tail _ h o=>exact W.2.1 _ o _ h);have:=p.2 (all _ c);rw[Q]at this;cases this
 unfold tJ;refine .bind (key P 0 rfl) λv a=>?_;rcases v with v|v;(exact .ret λh=>by rw[a]at h;cases h);refine .ret λ_ n hn=>?_;have: ∀m,E? (Holds P) n m-> ∃(d:V)(x:Pt),P[d]? =N x/\x.kind=1/\x.jO=U/\x.n=n:=by intro m hm;induction hm with|single h=>obtain⟨d',e,x',z,l,p2,B,A,_⟩:=h;exact⟨d',x',l,p2,B,A⟩|tail _ _ o=>exact o
 obtain⟨d,x,s,g,h3,rfl⟩:=this n hn;exact a d x (A! _) s g h3 hn
end
inductive tw (P:Z Pt):Y->V->V->Prop
 |nil (up:Y) (i:V):tw P up i i
 |cons (up:Y) (i e hi:V) (x:Pt) (hx:P[i]? =N x) (hu:x.up=up) (he:x.end_=(e:Y)) (jv:i<e) (hle:e<=hi) (hk:tw P i (i+1) e) (hd:x.jO=X->e=i+1) (ho:x.opts.l≠[]->e=i+1) (hr:tw P up e hi):tw P up i hi
theorem tw.le{P:Z Pt}{up:Y}{i j:V}(h:tw P up i j):i<=j:=by cases h<;>omega
theorem cq.chain{up:Y}{b:V}{l:Z Pt}(h:cq up b l): ∀(pre post:Z Pt),pre.length=b->tw (pre++l++post) up b (b+l.length):=by induction h with|nil up b=>intro pre post _;exact .nil _ _|cons up b x qB rest hu f g e hk _ j i=>intro pre post d;have e1:b+(x::(qB++rest)).length=b+1+qB.length+rest.length:=v?;have c:=j (pre++[x]) (rest++post) (by simp[d]);have a:=i (pre++[x]++qB) post (by simp[d];omega);have e2:pre++[x]++qB++(rest++post)=pre++x::(qB++rest)++post:=z?;have e3:pre++[x]++qB++rest++post=pre++x::(qB++rest)++post:=z?;rw[e2]at c;rw[e3]at a;rw[e1];refine .cons up b (b+1+qB.length) _ x ?_ hu f o? o? c (λh=>?_) (λh=>?_) a;exact E;rw[g h];rfl;rw[e h];rfl
theorem cq.inner{up:Y}{b:V}{l:Z Pt}(h:cq up b l): ∀(pre post:Z Pt),pre.length=b-> ∀(i:V)(x:Pt),l[i]? =N x-> ∃e:V,x.end_=(e:Y)/\tw (pre++l++post) ((b+i:V):Y) (b+i+1) e/\(x.jO=X->e=b+i+1)/\(x.opts.l≠[]->e=b+i+1):=by induction h with|nil up b=>intro pre post _ i x h;simp at h|cons up b x qB rest hu j k f g _ o n=>intro pre post c i y a;have e2:pre++[x]++qB++(rest++post)=pre++x::(qB++rest)++post:=z?;have e3:pre++[x]++qB++rest++post=pre++x::(qB++rest)++post:=z?;cases i with|zero=>simp only[i?,wO]at a;subst a;refine⟨b+1+qB.length,j, ?_,λh=>?_,λh=>?_⟩;have d:=g.chain (pre++[x]) (rest++post) (by simp[c]);rw[e2]at d;exact d;rw[k h];rfl;rw[f h];rfl|succ i=>simp only[Q?]at a;by_cases hi:i<qB.length;rw[c? hi]at a;obtain⟨e,f1,f2,f3,f4⟩:=o (pre++[x]) (rest++post) (by simp[c]) i y a;rw[e2]at f2;have m:b+1+i=b+(i+1):=o?;rw[m]at f2 f3 f4;exact⟨e,f1,f2,f3,f4⟩;rw[J? o?]at a;obtain⟨e,f1,f2,f3,f4⟩:=n (pre++[x]++qB) post (by simp[c];omega) (i-qB.length) y a;exact E
theorem Good.chain{P:Z Pt}(a:Good P):tw P (-1) 0 P.length:=by have:=a.seg.chain [] [] rfl;simpa using this
theorem Good.inner{P:Z Pt}(a:Good P){i:V}{x:Pt}(h:P[i]? =N x): ∃e:V,x.end_=(e:Y)/\tw P (i:Y) (i+1) e/\(x.jO=X->e=i+1)/\(x.opts.l≠[]->e=i+1):=by have:=a.seg.inner [] [] rfl i x h;simpa using this
def J4(ns:Z Y)(ts:Z L)(n:Y)(t:L):Prop:= ∃k:V,ns[k]? =N n/\ts[k]? =N t/\ ∀j,j<k->ns[j]? ≠N n
theorem J4.one{ns:Z Y}{ts:Z L}{n:Y}{t u:L}(b:J4 ns ts n t)(a:J4 ns ts n u):t=u:=by obtain⟨k,a1,a2,a3⟩:=b;obtain⟨j,b1,b2,b3⟩:=a;exact E
theorem J4.app{ns:Z Y}{ts:Z L}{n:Y}{t:L}(h:J4 ns ts n t)(a:Z Y)(b:Z L):J4 (ns++a) (ts++b) n t:=by obtain⟨k,c,a2,a3⟩:=h;have e:=(qK c).1;have d:=(qK a2).1;refine⟨k,by rw[c? e];exact c,by rw[c? d];exact a2,λj hj=>?_⟩;exact E
theorem J4.new{ns:Z Y}{ts:Z L}(hl:ns.length=ts.length){n:Y}(hn:n∉ns)(t:L):J4 (ns++[n]) (ts++[t]) n t:=by refine⟨ns.length,z?,by simp[hl],λj hj=>?_⟩;exact E
theorem J4.cases{ns:Z Y}{ts:Z L}(hl:ns.length=ts.length){n m:Y}{t u:L}(hn:n∉ns)(h:J4 (ns++[n]) (ts++[t]) m u):(m=n/\u=t)\/J4 ns ts m u:=by obtain⟨k,a,a2,a3⟩:=h;by_cases b:k<ns.length;refine .inr ⟨k,by rw[c? b]at a;exact a,by rw[c? o?]at a2;exact a2,λj hj=>?_⟩;exact E;exact E
def Val(P:Z Pt)(ns:Z Y)(ts:Z L)(i:V)(t:L):Prop:=
 ∃(x:Pt)(b:L),P[i]? =N x/\(x.kind=1->J4 ns ts x.n b)/\(x.kind≠1->b=x.text)/\(x.qR=X->t=b)/\(x.qR=U-> ∃l,nE x.qZ b 20000=N (t,l,0))
theorem Val.app{P:Z Pt}{ns:Z Y}{ts:Z L}{i:V}{t:L}(h:Val P ns ts i t)(a:Z Y)(b:Z L):Val P (ns++a) (ts++b) i t:=by obtain⟨x,c,j,g,f,e,d⟩:=h;exact⟨x,c,j,λk=>(g k).app a b,f,e,d⟩
theorem Val.one{P:Z Pt}{ns:Z Y}{ts:Z L}{i:V}{t u:L}(g:Val P ns ts i t)(f:Val P ns ts i u):t=u:=by
 obtain⟨x,b,l,a2,a3,a4,a5⟩:=g;obtain⟨y,c,e,b2,j,h,b5⟩:=f;rw[l]at e;cases e;have a:b=c:=by by_cases k:x.kind=1;exact(a2 k).one (b2 k);rw[a3 k,j k]
 subst a;cases d:x.qR;rw[a4 d,h d];exact E
inductive re (P:Z Pt) (ns:Z Y) (ts:Z L):V->V->L->Prop
 |nil (i:V):re P ns ts i i []
 |cons (i e hi:V) (x:Pt) (t u:L) (hx:P[i]? =N x) (he:x.end_=(e:Y)) (hv:Val P ns ts i t) (hr:re P ns ts e hi u):re P ns ts i hi (t++u)
theorem re.app{P:Z Pt}{ns:Z Y}{ts:Z L}{i j:V}{t:L}(h:re P ns ts i j t)(a:Z Y)(b:Z L):re P (ns++a) (ts++b) i j t:=by induction h with|nil i=>exact .nil i|cons i e hi x t u d g f _ c=>exact .cons i e hi x t u d g (f.app a b) c
def Txt(P:Z Pt)(ns:Z Y)(ts:Z L)(n:Y)(t:L):Prop:=
 (t=[]/\ ∀x∈P,x.kind=1->x.jO=U->x.n≠n)\/ ∃(d e:V)(x:Pt),P[d]? =N x/\x.kind=1/\x.jO=U/\x.n=n/\x.end_=(e:Y)/\(x.opts.l≠[]\/re P ns ts (d+1) e t)
theorem Txt.app{P:Z Pt}{ns:Z Y}{ts:Z L}{n:Y}{t:L}(h:Txt P ns ts n t)(a:Z Y)(b:Z L):Txt P (ns++a) (ts++b) n t:=by rcases h with h|⟨d,e,x,k,j,i,g,f,c⟩;exact .inl h;exact .inr ⟨d,e,x,k,j,i,g,f,c.imp id λh=>h.app a b⟩
structure mF (P:Z Pt) (ns:Z Y) (ts:Z L):Prop where
 len:ns.length=ts.length
 nd:ns.Nodup
 sub: ∀n∈ns,n∈P.map (·.n)
 txt: ∀n t,J4 ns ts n t->Txt P ns ts n t/\t.length<=65536
theorem mF.UO{P:Z Pt}{ns:Z Y}{ts:Z L}(h:mF P ns ts):ns.length<=P.length:=by simpa using WB h.nd h.sub
theorem mF.more{P:Z Pt}{ns:Z Y}{ts:Z L}(h:mF P ns ts){n:Y}(hn:n∉ns)(hs:n∈P.map (·.n)){t:L}(c:Txt P ns ts n t)(hl:t.length<=65536):mF P (ns++[n]) (ts++[t]) where
 len:=by simp[h.len]
 nd:=by refine O?.2 ⟨h.nd,z?,λa ha b hb=>?_⟩;exact E
 sub:=by intro m hm;rcases D.1 hm with hm|hm;exact h.sub m hm;exact E
 txt:=by intro m u hu;rcases hu.cases h.len hn with ⟨rfl,rfl⟩|hu;exact⟨c.app _ _,hl⟩;exact⟨(h.txt m u hu).1.app _ _,(h.txt m u hu).2⟩
theorem Rd(n:Y)(ns:Z Y)(ts:Z L)(hl:ns.length<=1099511627776)(he:ns.length=ts.length):K (sW n ns ts) (λv=>(v= -1/\n∉ns)\/ ∃(k:V)(t:L),v=k/\ts[k]? =N t/\k<ts.length/\J4 ns ts n t):=by
 have key: ∀(q:Z Y)(k:V),ns.drop k=q->(∀ j,j<k->ns[j]? ≠N n)->K (yr (n,(k:Y),ns,ts)) (λv=>match v with| .inl v=> ∃(k:V)(t:L),v=k/\ts[k]? =N t/\k<ts.length/\J4 ns ts n t| .inr _=>n∉q):=by intro q;induction q with|nil=>intro k b e;rw[yr.eq_1,R (by simpa using uU b)];exact .ret z?|cons c q p=>intro k b e;obtain⟨m,a2,a3,a4⟩:=yB b;obtain⟨l,_,b3⟩:=drop_cons b;rw[yr.eq_1,T (by simpa using m),ZX o? m];refine .go a2 ?_;refine .tI ?_ ?_<;>intro i;have o:k<ts.length:=o?;have g:ts[k]? =N ts[k]:=yc o;exact .ret ⟨k,ts[k],rfl,g,o,k,by rw[l,i],g,e⟩;have f:=i;refine(p (k+1) a3 λj d=>?_).mono λv a=>?_;rcases V.lt_succ_iff_lt_or_eq.1 d with h|rfl;exact e j h;rw[l];simpa using f;rcases v with v|v;exact a;intro h;rcases K?.1 h with h|h;exact f h.symm;exact a h
 unfold sW;refine .bind (key ns 0 rfl o?) λv a=>?_;rcases v with v|v;exact .ret (.inr a);exact .ret (.inl ⟨rfl,a⟩)
noncomputable def mu (P:Z Pt) (n:Y):V:=by
 classical exact((P.map (·.n)).filter (λm=>decide (E? (Holds P) n m))).length
theorem filter_le{p q:Y->I}(h: ∀x,p x=U->q x=U): ∀l:Z Y,(l.filter p).length<=(l.filter q).length
 |[]=>z?
 |b::l=>by have d:=filter_le h l;cases c:p b;cases a:q b;simpa[c,a]using d;simp[c,a];omega;have a:=h b c;simpa[c,a]using d
theorem filter_lt{p q:Y->I}: ∀(l:Z Y),(∀ x,p x=U->q x=U)->(∃ x∈l,q x=U/\p x=X)->(l.filter p).length<(l.filter q).length
 |[],_,h=>by obtain⟨x,hx,_⟩:=h;cases hx
 |a::l,h,⟨x,hx,f,e⟩=>by have hl:=filter_le h l;rcases K?.1 hx with rfl|hx;simp[f,e];omega;have d:=filter_lt l h ⟨x,hx,f,e⟩;cases c:p a;cases b:q a;simpa[c,b]using d;simp[c,b];omega;have b:=h a c;simpa[c,b]using d
theorem mu_lt{P:Z Pt}(b:N2 P){n m:Y}(h:Holds P n m):mu P m<mu P n:=by classical unfold mu;refine filter_lt _ (λx a=>?_) ⟨m, ?_, ?_, ?_⟩;simp only[M]at a |-;exact E?.trans (.single h) a;obtain⟨d,e,x,y,_,_,_,_,_,_,h7,_,h9⟩:=h;exact E;simpa using E?.single h;simpa using b m
end Go.Proofs.YtadahlbndbmdeaaGreat
