/-
  Edits are laid, from the last to the first: the document's Lead.
-/
import Derived.Test.YtadahlbndbmdeaaGreatQav
import Derived.Test.YtadahlbndbmdeaaGreatQau
open Bool renaming false->T,true->Q
open Go.Gm renaming qM->P,zl->L,qa->D,Sl->C,qy->A
open Go.Proofs.YtadahlbndbmdeaaGreat renaming qf->K,qL->B
open Go.Proofs.YtadahlbndbmdeaaGreat.Xr renaming gi->J
open Option renaming some->W
open _root_ renaming Int->Z,if_neg->Y,if_pos->X,List->V,Nat->U,absurd->N,Option->F
open Go.IntKind renaming i64->M,u64->h?,signed->O'
open Go.Proofs.YtadahlbndbmdeaaGreat.qL renaming wz->q1y
open Int renaming toNat_natCast->X?
open List renaming length_cons->b?,length_append->p?,length_nil->r?,mem_singleton->d?,map_cons->e?,mem_cons->K?,mem_of_mem_take->U?,getElem?_take_of_lt->G?,nil_append->M?,pairwise_cons->C?,sum_cons->g!,pairwise_append->n!,pairwise_iff_getElem->t!,drop_eq_getElem_cons->X!,take_append_drop->H!,append_assoc->M!,length_map->j_,length_take->t_,isEmpty_iff->f_,drop_of_length_le->l_,set_append_right->Z_,pairwise_map->N_,take_take->q1k,Perm->q2d
open Nat renaming strongRecOn->s?,add_sub_cancel->E!,min_eq_left->q1g
set_option linter.unusedSimpArgs false
set_option linter.unusedVariables false
set_option maxHeartbeats 1000000
namespace Go.Proofs.YtadahlbndbmdeaaGreat
open Go Go.Gm
theorem Hf(c:UInt8):B (iJ c) (λ_=>True):=by unfold iJ;refine .tI ?_ ?_<;>intro hT;exact .ret trivial;exact .ret trivial
theorem YS(c:UInt8):B (fJ c) (λ_=>True):=by unfold fJ;refine .tI ?_ ?_<;>intro hT;exact .ret trivial;exact .ret trivial
theorem AU(c:UInt8): ∃v,iI c=W v:=by
 unfold iI eI;repeat' split
 all_goals first|exact⟨_,rfl⟩|(simp only[L,P];split<;>exact⟨_,rfl⟩)
theorem q0C: ∀(m:U)(i:Z)(b:V UInt8),m=(b.length-i).toNat->0<=i->b.length<=1099511627776->B (tY (i,b)) (λr=>r.length=b.length):=by intro m;induction m using s? with|_ m a=>intro i b hm h0 e;rw[tY.eq_1];refine .tI ?_ ?_<;>intro hT;{refine .bind .get λc hc=>?_;refine .bind (Hf c) λv _=>?_;(repeat (first|(rw [A];rotate_left;omega;omega)|(rw [jy];rotate_left;omega;omega)));exact(a _ v? (i+1) _ rfl o? (by simpa using e)).mono λr d=>by simpa using d};exact .ret rfl
theorem q0D: ∀(m:U)(i:Z)(b:V UInt8),m=(b.length-i).toNat->0<=i->b.length<=1099511627776->B (tZ (i,b)) (λr=>r.length=b.length):=by intro m;induction m using s? with|_ m a=>intro i b hm h0 e;rw[tZ.eq_1];refine .tI ?_ ?_<;>intro hT;{refine .bind .get λc hc=>?_;refine .bind (YS c) λv _=>?_;(repeat (first|(rw [A];rotate_left;omega;omega)|(rw [jy];rotate_left;omega;omega)));exact(a _ v? (i+1) _ rfl o? (by simpa using e)).mono λr d=>by simpa using d};exact .ret rfl
def oI(s:D):U:=s.length
theorem NP: ∀(l:V D),(∀ w∈l,1<=w.length)->l.length<=qS (l.map oI)
 |[],_=>z?
 |a::l,h=>by have h1:=h a z?;have h2:=NP l λw b=>h w (by simp[b]);simp only[e?,qS,b?,oI]at*;omega
theorem words_L0(s:D)(hs:s.length<=1048576): ∀(r:D)(k:U)(l:V D),s.drop k=r->k<=s.length->(∀ w∈l,1<=w.length)->qS (l.map oI)<=k->(0<k-> ∀b,s[k-1]? =W b->iI b=W Q->0<l.length)->
  B (kC (s,(k:Z),l)) (λr=>(∀ w∈r,1<=w.length)/\qS (r.map oI)<=s.length):=by
 intro r;induction r with
  |nil=>intro k l j GU d E z;rw[kC.eq_1,Y (by simpa using uU j)];exact .ret ⟨d,o?⟩
  |cons b r q=>
   intro k l j GU d E z;obtain⟨H,a2,a3,a4⟩:=yB j;obtain⟨b1,b2,b3⟩:=drop_cons j;have hl:=NP l d;have e1:M.wrap ((k:Z)+1)=((k+1:U):Z):=ZX o? H;have put: ∀(l:V D),0<l.length->l.length<=k+1->(∀ i w,l[i]? =W w->i+1<l.length->1<=w.length)->qS (l.map oI)<=k-> ∀{f:D->D->F (V D)},(∀ x y,f x y=if x.length+y.length<=2^62 then kC (s,M.wrap ((k:Z)+1),l.set ((M.wrap ((l.length:Z)-1)).toNat) (x++y))else none)->
     B (qk l (M.wrap ((l.length:Z)-1))>>=λx=>wz s (k:Z) (M.wrap ((k:Z)+1))>>=λy=>f x y) (λr=>(∀ w∈r,1<=w.length)/\qS (r.map oI)<=s.length):=by
    intro l n hlk h4 h5 f hf;have e2:M.wrap ((l.length:Z)-1)=((l.length-1:U):Z):=by rw[wr o? o?];omega
    rw[e2,e1];refine .bind .get λx t=>?_;have hxl:x.length<=qS (l.map oI):=jF (f:=oI) t.2;refine .bind .wz λy hy=>?_;rw[hf];refine .zY o? ?_;have e:y.length=1:=o?;have OO:l[l.length-1]? =W x:=by simpa using t.1
    have hsum:=XB oI l (l.length-1) (x++y) x OO;rw[e2,X?,e1];have hlen:oI (x++y)=oI x+1:=by simp[oI,e]
    refine q (k+1) _ a3 o? ?_ o? (λ_ _ _ _=>by simpa using n);intro w h;obtain⟨i,hi⟩:=kS h;rw[V.getElem?_set]at hi;split at hi
    ·split at hi
     ·cases hi;simp[e]
     cases hi
    rename_i kN;have:=(qK hi).1;exact h4 i w hi o?
   (obtain⟨v,u⟩:=AU b;rw[kC.eq_1,X (by simpa using H)];refine .go a2 ?_;refine .go u ?_;have a: ∀i w,(l++[([]:D)])[i]? =W w->i+1<(l++[([]:D)]).length->1<=w.length:=by intro i w hi jv;simp only[p?,b?,r?]at jv;rw[V.getElem?_append_left o?]at hi;exact d w (zj hi));(have I:qS ((l++[([]:D)]).map oI)<=k:=by rw[wB];simp only[oI,r?];omega);(have p:ql (l.length+1) 16=Q:=by simp only[ql,xn,decide_eq_true_eq];omega);refine .tI ?_ ?_<;>intro m;rw[e1];refine q (k+1) l a3 o? d o? (λ_ c g R=>?_);simp only[E!]at g;rw[b1]at g;cases g;rw[u]at R;cases R;exact N m z?;refine .tI ?_ ?_<;>intro m;exact .zY p (put _ z? v? a I λ_ _=>rfl);(have o:0<k:=o?;have e3:M.wrap ((k:Z)-1)=((k-1:U):Z):=by rw[wr o? o?];omega);rw[e3];refine .bind .get λc g=>?_;obtain⟨w,h⟩:=AU c;refine .go h ?_;refine .tI ?_ ?_<;>intro m;exact .zY p (put _ z? v? a I λ_ _=>rfl);refine put l (z o c (by simpa using g.1) ?_) o? (λi w hi _=>d w (zj hi)) E λ_ _=>rfl;rw[h,m]
theorem words_tot(s:D)(hs:s.length<=1048576):B (aF s) (λr=>(∀ w∈r.l,1<=w.length)/\qS (r.l.map oI)<=s.length):=by unfold aF;exact .bind (words_L0 s hs s 0 [] rfl o? z? (by simp[qS]) (λh=>o?)) λv a=> .ret a
theorem q0E(g:Z)(ws:C D)(h:V UInt8)(e: ∀w∈ws.l,1<=w.length)(hs:qS (ws.l.map oI)<=1048576): ∀(r:V D)(k:U)(out:D),ws.l.drop k=r->out.length+qS (r.map oI)<=qS (ws.l.map oI)->
  B (gp (g,ws,out,(k:Z),h)) (λt=>t.length<=qS (ws.l.map oI)):=by have hl:=NP ws.l e;intro r;induction r with|nil=>intro k out b a;rw[gp.eq_1,Y (by simpa using uU b)];simp only[V.map_nil,qS]at a;exact .ret o?|cons x r d=>intro k out b a;obtain⟨f,a2,a3,a4⟩:=yB b;simp only[e?,qS,oI]at a;have hx:=e x a4;rw[gp.eq_1,X (by simpa using f),ZX o? f];refine .go a2 ?_;refine .tI ?_ ?_<;>intro hT;refine .bind .get λc _=>?_;refine .bind (YS c) λv _=>?_;refine .zY v? ?_;exact d (k+1) _ a3 (by simp[oI];omega);refine .bind .get λc _=>?_;refine .bind (Hf c) λv _=>?_;refine .zY v? ?_;exact d (k+1) _ a3 (by simp[oI];omega)
theorem He(s:D)(hs:s.length<=1048576)(b:Z):B (fI s b) (λr=>r.1.length<=s.length):=by unfold fI;refine .tI ?_ ?_<;>intro a;exact .bind (q0C _ 0 s rfl o? o?) λv d=> .ret u?;refine .tI ?_ ?_<;>intro a;exact .bind (q0D _ 0 s rfl o? o?) λv d=> .ret u?;refine .tI ?_ ?_<;>intro a;refine .tI ?_ ?_<;>intro a;refine .bind .get λc _=>?_;refine .bind (Hf c) λv _=>?_;exact .ret z?;exact .ret z?;refine .tI ?_ ?_<;>intro a;refine .bind (words_tot s hs) λw e=>?_;refine .bind (q0E b w s e.1 o? w.l 0 [] rfl z?) λv d=>?_;exact .ret u?;exact .ret z?
theorem T4(a:C zQ)(hf:qS (a.l.map Zf)<=1000000000)(parts:C D)(n: ∀p∈parts.l,p.length<=1048576):B (aG a parts) (λr=>r.length<=1048576*qS (a.l.map Zf)):=by
 have hl:=xP Kr a.l;unfold aG;refine .bind (Ba a o?) λv b=>?_;refine .tI ?_ ?_<;>intro o;exact .ret z?;have hn:=b o;have key: ∀(r:V zQ)(k:U)(s:D),a.l.drop k=r->s.length+1048576*qS (r.map Zf)<=1048576*qS (a.l.map Zf)->B (zL (a,parts,s,(k:Z))) (λr=>r.length<=1048576*qS (a.l.map Zf)):=by intro r;induction r with|nil=>intro k s d hs;rw[zL.eq_1,Y (by simpa using uU d)];exact .ret o?|cons f r m=>(intro k s d hs;obtain⟨j,a2,a3,a4⟩:=yB d;simp only[e?,qS]at hs;have hfw:Zf f=1+f.ZV.length+f.J8.length:=rfl;have e:=hn f a4;have next: ∀t:D,t.length<=1048576*Zf f->B (if s.length+t.length<=2^62 then zL (a,parts,(s++t),((k+1:U):Z))else none) (λr=>r.length<=1048576*qS (a.l.map Zf)):=by intro t ht;refine .zY o? (m (k+1) _ a3 ?_);simp only[p?];omega);(have i:=next f.ZV o?);(have h:=next f.J8 o?);(have u:=next [] z?);rw[zL.eq_1,X (by simpa using j),ZX o? j];refine .go a2 ?_;refine .ite (λg=>?_) λg=>?_;{(simp only[decide_eq_true_eq]at g;refine .bind (B.get e g) λp c=>?_;have w:=n p c.2;have q:=next p o?);repeat' (first|exact i|exact h|exact q|(refine .bind (He p w _) λv b=>?_;exact next v.1 (by omega))|refine .ite (λ_=>?_) (λ_=>?_))};repeat' (first|exact i|exact h|exact u|(refine .bind (He [] (by simp) _) λv b=>?_;exact next v.1 (by simp only[r?]at b;omega))|refine .ite (λ_=>?_) (λ_=>?_))
 exact .bind (key a.l 0 [] rfl z?) λv b=> .ret b
theorem Bt(f:zG)(hf:uf f<=1000000000)(s:D)(hs:s.length<=1048576)(g:U)(hg:g<=1000000000)(m:qo)(u:0<=m.span.qG)(t:m.span.qG<=m.span.to)(o:m.span.to<=s.length)(b:rW s g m.parts):
  B (eU f s m) (λr=>r.length<=1048576*1000000000):=by
 have ee:=b.len;have hfw:uf f=cW f.rx+qS (f.yg.l.map Zf)+Jt f.yg:=rfl;have key: ∀(r:V qg)(k:U)(a:V D),m.parts.l.drop k=r->a.length=k+1->(∀ p∈a,p.length<=1048576)->B (nF (s,(k:Z),f,m,a)) (λr=> ∀p∈r,p.length<=1048576):=by intro r;induction r with|nil=>intro k a c hl d;rw[nF.eq_1,Y (by simpa using uU c)];exact .ret d|cons x r h=>(intro k a c hl d;obtain⟨i,a2,a3,a4⟩:=yB c;have hx:=b.ok x a4;have more: ∀p:D,p.length<=1048576-> ∀q∈a++[p],q.length<=1048576:=by intro p b q hq;rcases V.mem_append.1 hq with hq|hq;exact d q hq;simp only[d?]at hq;subst hq;exact b);(have e:ql (a.length+1) 16=Q:=by simp only[ql,xn,decide_eq_true_eq];omega);rw[nF.eq_1,X (by simpa using i),ZX o? i];refine .go a2 ?_;refine .tI ?_ ?_<;>intro hT;rcases hx with hx|hx;omega;refine .bind (q1y hx.1 hx.2.1 hx.2.2) λy j=>?_;exact .zY e (h (k+1) _ a3 v? (more y o?));exact .zY e (h (k+1) _ a3 v? (more [] z?))
 unfold eU;refine .bind (q1y u t o) λy j=>?_;refine .bind (key m.parts.l 0 [y] rfl rfl v?) λv n=>?_;refine .bind (T4 f.yg o? ⟨T,v⟩ n) λw hw=>?_;refine .ret ?_;have:qS (f.yg.l.map Zf)<=1000000000:=o?;have:=U.mul_le_mul_left 1048576 this;omega
theorem Cq(f:zG)(hf:uf f<=1000000000)(s:D)(hs:s.length<=1048576)(g:U)(hg:g<=1000000000)(b:C qo)(Ub:b.l.length<=1099511627776)(left:Z): ∀(r:V qo)(k:U)(a:Z)(out:D),b.l.drop k=r->Ms s g a r->out.length<=65536->
  B (bc (s,b,left,out,a,(k:Z),f)) (λ| .inl y=>y.2.2.1≠0/\y.1=[]| .inr y=>y.1.length<=65536/\0<=y.2/\y.2<=s.length):=by intro r;induction r with|nil=>intro k a out d c e;rw[bc.eq_1,Y (by simpa using uU d)];exact .ret ⟨e,c⟩|cons x r ih=>intro k a out d c e;obtain⟨h,a2,a3,a4⟩:=yB d;obtain⟨m1,m2,m3,m4,i⟩:=c;have m6:=i.lo;rw[bc.eq_1,X (by simpa using h),ZX o? h];refine .go a2 ?_;have:= @Bt;exact tW
theorem T5(f:zG)(hf:uf f<=1000000000)(s:D)(hs:s.length<=1048576)(g:U)(hg:g<=1000000000)(b:V qo)(Ub:b.length<=1099511627776)(left:Z)(l:qo)(i:V qo): ∀(r:V qo)(k:U)(a:Z)(out:D),b.drop k=r->Ms s g a r->out.length<=65536->
  B (yn (s,left,out,a,(k:Z),f,l,i,b)) (λ| .inl y=>y.2.2.1≠0/\y.1=[]| .inr y=>y.1.length<=65536/\0<=y.2/\y.2<=s.length):=by intro r;induction r with|nil=>intro k a out d c e;rw[yn.eq_1,Y (by simpa using uU d)];exact .ret ⟨e,c⟩|cons x r ih=>intro k a out d c e;obtain⟨h,a2,a3,a4⟩:=yB d;obtain⟨m1,m2,m3,m4,j⟩:=c;have m6:=j.lo;rw[yn.eq_1,X (by simpa using h),ZX o? h];refine .go a2 ?_;have:= @Bt;exact tW
theorem oO(f:zG)(e:uf f<=1000000000)(s:D)(hs:s.length<=1048576)(fuel:Z):B (nE f s fuel) (λr=>r.1.length<=65536\/r.1=s):=by have hfw:uf f=cW f.rx+qS (f.yg.l.map Zf)+Jt f.yg:=rfl;have hgl:=Fx f.rx;unfold nE;refine .bind (Bb f o?) λv hv=>?_;refine .tI ?_ ?_<;>intro a;exact .ret (.inl z?);refine .tI ?_ ?_<;>intro a;{refine .bind (Ip f.rx o? f.fold s hs fuel) λw d=>?_;refine .tI ?_ ?_<;>intro a;exact .ret (.inl z?);have c:=d a;refine .tI ?_ ?_<;>intro a;exact .ret (.inr rfl);refine .bind (Cq f e s hs (aT f.rx) o? w.1 (by have:=c.2;omega) w.2.1 w.1.l 0 0 [] rfl c.1 z?) λy b=>?_;rcases y with y|y;exact .ret (.inl (by simp only[b.2,r?];omega));simp only;(try simp(disch:=omega) only[A,jy]);refine .tI ?_ ?_<;>intro a;exact .ret (.inl z?);refine .bind (B.nR b.2.1 b.2.2) λz g=>?_;refine .zY o? ?_;exact .ret (.inl (by simp only[p?];omega))};refine .bind (C7 f.rx o? f.fold s hs 0 fuel) λw d=>?_;refine .tI ?_ ?_<;>intro a;{have c:=d a;refine .zY (by simp[ql]) ?_;refine .tI ?_ ?_<;>intro a;exact .ret (.inl z?);(first|refine .ite (λh=>N h (by simp)) λ_=>?_|skip);refine .bind (T5 f e s hs (aT f.rx) o? [w.1] z? w.2.1 w.1 [w.1] [w.1] 0 0 [] rfl c z?) λy b=>?_;rcases y with y|y;exact .ret (.inl (by simp only[b.2,r?];omega));simp only;(try simp(disch:=omega) only[A,jy]);refine .tI ?_ ?_<;>intro a;exact .ret (.inl z?);refine .bind (B.nR b.2.1 b.2.2) λz g=>?_;refine .zY o? ?_;exact .ret (.inl (by simp only[p?];omega))};refine .tI ?_ ?_<;>intro a;exact .ret (.inl z?);first|exact .ite (λ_=> .ret (.inr rfl)) λh=>N (by decide) h|exact .ret (.inr rfl)
namespace Xr
def rA(x:qu):Prop:=uf x.qZ<=1000000000/\(∀ o∈x.opts.l,o.length<=17592186044416)/\Jt x.opts=0/\x.opts.l.length<=8192002
theorem XA:Cored rA:=by intro x y h a;simp only[core,Prod.mk.injEq]at h;unfold rA at*;rw[h.2.2.2.1,h.2.2.2.2];exact a
abbrev World:=D×C qm×V qb×C (C (C Z))
structure WK (w:World):Prop where
 ok:Af rA w.1 w.2.1 w.2.2.1 w.2.2.2
 text:w.1.length<=65536
structure W6 (i:U) (w v:World):Prop where
 len:v.2.2.1.length=w.2.2.1.length
 cur: ∀(j:U) s,w.2.2.1[j]? =W s-> ∃s',v.2.2.1[j]? =W s' /\s'.cur=s.cur
 insts: ∀s,w.2.2.1[i]? =W s-> ∃s',v.2.2.1[i]? =W s' /\s'.insts.l.length=s.insts.l.length
theorem W6.refl(i:U)(w:World):W6 i w w:=⟨rfl,λj s h=>⟨s,h,rfl⟩,λs h=>⟨s,h,rfl⟩⟩
theorem W6.trans{i:U}{w v u:World}(k:W6 i w v)(g:W6 i v u):W6 i w u:=by refine⟨g.len.trans k.len,λj s h=>?_,λs h=>?_⟩;obtain⟨f,a,b⟩:=k.cur j s h;obtain⟨e,c,d⟩:=g.cur j f a;exact⟨e,c,d.trans b⟩;obtain⟨f,a,b⟩:=k.insts s h;obtain⟨e,c,d⟩:=g.insts f a;exact⟨e,c,d.trans b⟩
theorem Kq{w:World}(h:Af rA w.1 w.2.1 w.2.2.1 w.2.2.2){i a k:U}{s:qb}{x:qr}(hs:w.2.2.1[i]? =W s)(e:s.insts.l[a]? =W x)(m:k<x.stops.l.length):
  w.2.2.2.nil=T/\ ∃f,w.2.2.2.l[i]? =W f/\f.nil=T/\ ∃g,f.l[a]? =W g/\g.nil=T/\g.l.length=x.stops.l.length/\ ∃v,g.l[k]? =W v/\0<=v/\v<=3:=by have hi:=(qK hs).1;have b:=(qK e).1;refine⟨h.fnn λc=>?_, ?_⟩;rw[c]at hi;simp at hi;obtain⟨f,o⟩:=gl (l:=w.2.2.2.l) (k:=i) (by rw[h.U0];exact hi);have d:=h.each i s f hs o;obtain⟨g,n⟩:=gl (l:=f.l) (k:=a) (by rw[d.len];exact b);obtain⟨r,q,p⟩:=d.each a x g e n;obtain⟨v,j⟩:=gl (l:=g.l) (k:=k) o?;refine⟨f,o,d.nn λc=>?_,g,n,q λc=>?_,r,v,j,p v (zj j)⟩;rw[c]at b;simp at b;rw[c]at m;simp at m
theorem GA{w:World}(h:Af rA w.1 w.2.1 w.2.2.1 w.2.2.2){i a k:U}{f:C (C Z)}{g:C Z}(q:w.2.2.2.l[i]? =W f)(p:f.l[a]? =W g)(v:Z)(z:0<=v/\v<=3):
  Af rA w.1 w.2.1 w.2.2.1 ⟨T,w.2.2.2.l.set i ⟨T,f.l.set a ⟨T,g.l.set k v⟩⟩⟩:=by have y:=(qK q).1;have I:=(qK p).1;refine⟨h.blen,h.ne,h.qn,h.Kb,h.Gr,h.Zj,h.dJ,h.small,h.may,by simp[h.U0],λ_=>rfl, ?_,h.stop⟩;intro j s H hs m;simp only[jo]at m;by_cases c:i=j;subst c;rw[X ⟨rfl,y⟩]at m;cases m;have n:=h.each i s f hs q;refine⟨by simp[n.len],λ_=>rfl, ?_⟩;intro b x E o e;simp only[jo]at e;by_cases d:a=b;subst d;rw[X ⟨rfl,I⟩]at e;cases e;obtain⟨t,q2,r⟩:=n.each a x g o p;refine⟨by simp[t],λ_=>rfl,λu hu=>?_⟩;rcases V.mem_or_eq_of_mem_set hu with hu|rfl;exact r u hu;exact z;rw[Y o?]at e;exact n.each b x E o e;rw[Y o?]at m;exact h.each j s H hs m
theorem nilF{α:Type}{s:C α}(h:s.nil=T):(⟨T,s.l⟩:C α)=s:=by rw[<- h]
theorem num_L0(i a:U)(n:Z)(w:World)(h:Af rA w.1 w.2.1 w.2.2.1 w.2.2.2)(s:qb)(x:qr)(hs:w.2.2.1[i]? =W s)(m:s.insts.l[a]? =W x)(hL:x.stops.l.length<=2^12):
  ∀(d k:U)(held:V Bool),k+d=x.stops.l.length->held.length=x.stops.l.length-> ∃b,km ((i:Z),(a:Z),n,(k:Z),w.1,w.2.1,w.2.2.1,w.2.2.2,x,held)=W (w.2.2.2,b)/\b.length=x.stops.l.length:=by intro d;induction d with|zero=>intro k held p e;rw[km.eq_1,Y v?];exact⟨held,rfl,e⟩|succ d j=>intro k held p e;obtain⟨z,f,r,u,g,q,t,gl',v,o,_⟩:=Kq h hs m (show k<x.stops.l.length by omega);obtain⟨hb,c⟩:=gl (l:=held) (k:=k) o?;rw[km.eq_1,X v?,z,Y z?,J r,ws o?];simp only[L,P];rw[u,Y z?,J q];simp only[P];rw[t,Y z?,J o];simp only[P];rw[J c];simp only[P,X?];rw[nilF z];exact j (k+1) _ o? (by simp[e])
theorem tm2(v:Z)(h:0<=v/\v<=3):0<=v.tmod 2/\v.tmod 2<=1:=by rcases(show v=0\/v=1\/v=2\/v=3 by omega)with rfl|rfl|rfl|rfl<;>decide
theorem num_L2(i a:U)(n src:Z)(w:World)(s:qb)(x:qr)(hs:w.2.2.1[i]? =W s)(R:s.insts.l[a]? =W x)(hL:x.stops.l.length<=2^12):
  ∀(d k:U)(fl:C (C (C Z))),k+d=x.stops.l.length->Af rA w.1 w.2.1 w.2.2.1 fl->(∀ f g,fl.l[i]? =W f->f.l[a]? =W g-> ∀j,j<k-> ∀v,g.l[j]? =W v->v<=1)->
  ∃q,ko ((i:Z),(a:Z),n,src,(k:Z),w.1,w.2.1,w.2.2.1,fl,x)=W q/\Af rA w.1 w.2.1 w.2.2.1 q/\(∀ f g,q.l[i]? =W f->f.l[a]? =W g-> ∀j,j<x.stops.l.length-> ∀v,g.l[j]? =W v->v<=1):=by intro d;induction d with|zero=>intro k fl hk h H;rw[ko.eq_1,Y v?];exact⟨fl,rfl,h,λf g e m j hj v o=>H f g e m j o? v o⟩|succ d I=>intro k fl hk h H;obtain⟨z,f,e,fz,g,m,gz,gl',v,o,p⟩:=Kq (w:=(w.1,w.2.1,w.2.2.1,fl)) h hs R (show k<x.stops.l.length by omega);simp only at z e;rw[ko.eq_1,X v?,z,Y z?,J e,ws o?];simp only[L,P];rw[fz,Y z?,J m];simp only[P];rw[gz,Y z?,J o];simp only[P,X?];have h2:=tm2 v p;have t:=GA (w:=(w.1,w.2.1,w.2.2.1,fl)) (k:=k) h e m (v.tmod 2) o?;refine I (k+1) _ o? t λf' g' r b j hj u hu=>?_;have E:=(qK e).1;have GQ:=(qK m).1;rw[jo,X ⟨rfl,E⟩]at r;cases r;simp only at b;rw[jo,X ⟨rfl,GQ⟩]at b;cases b;simp only at hu;rw[jo]at hu;by_cases c:k=j;subst c;have y:=(qK o).1;rw[X ⟨rfl,y⟩]at hu;cases hu;exact h2.2;rw[Y o?]at hu;exact H f g e m j o? u hu
def Vv(i:U)(w:World)(v:(Z×World)⊕World):Prop:=match v with
 | .inl u=>u.1≠0
 | .inr u=>WK u/\W6 i w u
theorem OV{i a j:U}{w:World}(d:WK w){s:qb}{y:qr}{x:qu}(hs:w.2.2.1[i]? =W s)(b:s.insts.l[a]? =W y)(c:y.stops.l[j]? =W x)(t:D)(ht:t.length<=65536):
  ∃v:World,kQ (i:Z) (a:Z) (j:Z) (K.mk x.span t) T w.1 w.2.1 w.2.2.1 w.2.2.2=W v/\Af rA v.1 v.2.1 v.2.2.1 v.2.2.2/\W6 i w v:=by have e:=d.ok.may s (zj hs);have h1:=(e.may a y b).inside j x c;have h2:=(e.may a y b).le j x c;have h3:=(e.may a y b).W2;have Y8:=d.text;have g:uX (K.mk x.span t) w.1.length:=⟨u?,u?,u?,u?,o?⟩;obtain⟨v,g1,g2⟩:=Dh XA d.ok g u? (i:Z) (a:Z) (j:Z) T (.inr ⟨i,s,rfl,hs,o?,.inr ⟨a,j,y,x,rfl,rfl,b,c,Vt _⟩⟩);exact⟨v,g1,g2.ok,⟨g2.len,g2.cur,λf h=>g2.top i f rfl o? h⟩⟩
theorem Bm(i a j:U)(n:Z)(t:D)(I:t.length<=65536)(H:qr)(w:World)(d:WK w)(hi:i<w.2.2.1.length)
  (next: ∀h :World,WK h ->W6 i w h ->j<2^12->B (zF ((i:Z),(a:Z),n,t,((j+1:U):Z),h.1,h.2.1,h.2.2.1,h.2.2.2,H)) (Vv i w)):
  B (zF ((i:Z),(a:Z),n,t,(j:Z),w.1,w.2.1,w.2.2.1,w.2.2.2,H)) (Vv i w):=by
 obtain⟨s,hs⟩:=gl hi;have JI:=d.ok.small s (zj hs);rw[zF.eq_1];refine .go (J hs) ?_;by_cases E:a<s.insts.l.length
 ·obtain⟨y,b⟩:=gl E;have hyl:=JI.2 y (zj b);rw[X (by simpa using E)];refine .go (J b) ?_;by_cases o:j<y.stops.l.length
  ·obtain⟨x,m⟩:=gl o;obtain⟨z,f,hf,fz,g,hg,gz,gl',v,hv,hv3⟩:=Kq d.ok hs b o;rw[X (by simpa using o)];refine .go (J m) ?_;rw[z,Y z?];refine .go (J hf) ?_;rw[fz,Y z?];refine .go (J hg) ?_;rw[gz,Y z?,nilF z,ws (k:=j) o?];have wV:=next w d (.refl i w) o?
   have p:=d.ok.may s (zj hs);have h1:=(p.may a y b).inside j x m;have h2:=(p.may a y b).le j x m;have h3:=(p.may a y b).W2;have Ky:=d.ok.stop s (zj hs) y (zj b) x (zj m);have e:B (wz w.1 x.span.qG x.span.to) (λ_=>True):=(q1y).mono λ_ _=>trivial;have SM: ∀(u:D),u.length<=65536->B (kQ (i:Z) (a:Z) (j:Z) (K.mk x.span u) T w.1 w.2.1 w.2.2.1 w.2.2.2>>=λv=>
     if(decide ((v.1.length:Z)>(65536:Z)))=Q then W (.inl ((4:Z),v.1,v.2.1,v.2.2.1,v.2.2.2))
     else zF ((i:Z),(a:Z),n,t,((j+1:U):Z),v.1,v.2.1,v.2.2.1,v.2.2.2,H)) (Vv i w):=by
    intro u hu;obtain⟨v,k1,k2,R⟩:=OV d hs b m u hu;refine .go k1 ?_;by_cases c:(v.1.length:Z)>65536
    ·rw[X (by simpa using c)];exact .ret (show (4:Z)≠0 by decide)
    rw[Y (by simpa using c)];exact next v ⟨k2,o?⟩ R o?
   refine .ite (λ_=>wV) λ_=>?_;refine .go (J hv) ?_;refine .ite (λ_=>wV) λ_=>?_;refine .ite (λ_=>?_) λ_=>?_;refine .bind (oO x.qZ Ky.1 t o? 20000) λr hr=>?_;refine .ite (λc=>?_) λ_=>?_;exact .ret (show r.2.2≠0 by simpa using c);refine .bind e λq _=>?_;refine .ite (λ_=>wV) λ_=>?_;refine SM r.1 ?_;rcases hr with hr|hr;exact hr;rw[hr];exact I;refine .bind e λq _=>?_;exact .ite (λ_=>wV) λ_=>SM t I
  rw[Y (by simpa using o)];exact .ret ⟨d,.refl i w⟩
 rw[Y (by simpa using E)];exact .ret ⟨d,.refl i w⟩
theorem Vv.trans{i:U}{w b :World}(h:W6 i w b)(v:(Z×World)⊕World)(a:Vv i b v):Vv i w v:=by rcases v with v|v;exact a;exact⟨a.1,h.trans a.2⟩
theorem num_L4(i a:U)(n:Z)(t:D)(f:t.length<=65536)(d:qr): ∀(m j:U)(w:World),j+m=2^12->WK w->i<w.2.2.1.length->
  B (zF ((i:Z),(a:Z),n,t,(j:Z),w.1,w.2.1,w.2.2.1,w.2.2.2,d)) (Vv i w):=by intro m;induction m with|zero=>intro j w l c hi;exact Bm i a j n t f d w c hi λe _ _ h=>o?|succ m g=>intro j w l c hi;refine Bm i a j n t f d w c hi λe b hs _=>?_;exact(g (j+1) e o? b (by rw[hs.len];exact hi)).mono λv k=>Vv.trans hs v k
def NumR(i:U)(w:World)(v:Z×World):Prop:=v.1≠0\/v.1=0/\WK v.2/\W6 i w v.2
theorem ix(i a:U)(n:Z)(w:World)(c:WK w)(s:qb)(hs:w.2.2.1[i]? =W s)(ha:a<s.insts.l.length):
  B (bB (i:Z) (a:Z) n w.1 w.2.1 w.2.2.1 w.2.2.2) (NumR i w):=by obtain⟨y,b⟩:=gl ha;have JI:=c.ok.small s (zj hs);have d:=JI.2 y (zj b);have hi:=(qK hs).1;have Y8:=c.text;unfold bB;refine .go (J hs) ?_;refine .go (J b) ?_;refine .zY o? ?_;refine .zY (qC v? o?) ?_;obtain⟨held,g1,g2⟩:=num_L0 i a n w c.ok s y hs b d y.stops.l.length 0 (V.replicate y.stops.l.length T) o? z?;rw[X?];refine .go g1 ?_;refine .bind (FE y n ⟨T,held⟩ o?) λsrc q=>?_;rcases q with q|⟨k,x,rfl,h⟩;rw[X (by simpa using q)];exact .ret (.inr ⟨rfl,c,.refl i w⟩);rw[Y z?];have I:=(qK h).1;obtain⟨u,q1,E,q3⟩:=num_L2 i a n (k:Z) w s y hs b d y.stops.l.length 0 w.2.2.2 o? c.ok (λf g _ _ j hj=>o?);refine .go q1 ?_;obtain⟨z,f,m,fz,g,p,gz,gl',v,H,hv3⟩:=Kq (w:=(w.1,w.2.1,w.2.2.1,u)) E hs b I;simp only at z m;have Kz:=q3 f g m p k I v H;rw[z,Y z?];refine .go (J m) ?_;rw[fz,Y z?];refine .go (J p) ?_;rw[gz,Y z?];refine .go (J H) ?_;refine .go (J h) ?_;have o:=c.ok.may s (zj hs);have h1:=(o.may a y b).inside k x h;have h2:=(o.may a y b).le k x h;have h3:=(o.may a y b).W2;refine .bind (q1y (l:=w.1) (lo:=x.span.qG) (hi:=x.span.to) o? o? o?) λt ht=>?_;have R:=GA (w:=(w.1,w.2.1,w.2.2.1,u)) (k:=k) E m p (v+2) o?;rw[A (n:=v+2) o? o?,X?,X?,X?];have P9:WK (w.1,w.2.1,w.2.2.1,(⟨T,u.l.set i ⟨T,f.l.set a ⟨T,g.l.set k (v+2)⟩⟩⟩:C (C (C Z)))):=⟨R,c.text⟩;refine .bind (num_L4 i a n t o? y (2^12) 0 _ o? P9 hi) λr e=>?_;rcases r with r|r;exact .ret (.inl e);exact .ret (.inr ⟨rfl,e.1,⟨e.2.len,e.2.cur,e.2.insts⟩⟩)
end Xr
namespace Xr
structure Vu (w v:World):Prop where
 len:v.2.2.1.length=w.2.2.1.length
 cur: ∀(j:U) s,w.2.2.1[j]? =W s-> ∃s',v.2.2.1[j]? =W s' /\s'.cur=s.cur
theorem Vu.refl(w:World):Vu w w:=⟨rfl,λj s h=>⟨s,h,rfl⟩⟩
theorem Vu.trans{w v u:World}(g:Vu w v)(f:Vu v u):Vu w u:=by refine⟨f.len.trans g.len,λj s h=>?_⟩;obtain⟨i,a,b⟩:=g.cur j s h;obtain⟨e,c,d⟩:=f.cur j i a;exact⟨e,c,d.trans b⟩
theorem W6.VR{i:U}{w v:World}(h:W6 i w v):Vu w v:=⟨h.len,h.cur⟩
def MirQ(w:World)(v:(Z×World)⊕World):Prop:=match v with
 | .inl u=>u.1≠0
 | .inr u=>WK u/\Vu w u
theorem mir_L4(i a:U)(ns:C Z)(hn:ns.l.length<=2^12): ∀(d k:U)(w:World),k+d=ns.l.length->WK w->(∃ s,w.2.2.1[i]? =W s/\a<s.insts.l.length)->
  B (kl ((i:Z),(a:Z),ns,(k:Z),w.1,w.2.1,w.2.2.1,w.2.2.2)) (Vv i w):=by intro d;induction d with|zero=>intro k w h c _;rw[kl.eq_1,Y v?];exact .ret ⟨c,.refl i w⟩|succ d j=>intro k w h c hs;obtain⟨s,hs,n⟩:=hs;obtain⟨x,m⟩:=gl (l:=ns.l) (k:=k) o?;rw[kl.eq_1,X v?,ws (k:=k) o?];refine .go (J m) ?_;refine .bind (ix i a x w c s hs n) λv b=>?_;rcases b with b|⟨p,o,e⟩;rw[X (by simpa using b)];exact .ret b;rw[Y (by simpa using p)];obtain⟨f,g,k2⟩:=e.insts s hs;exact(j (k+1) v.2 o? o ⟨f,g,o?⟩).mono λu hu=>Vv.trans e u hu
theorem mir_L2(i:U): ∀(d a:U)(w:World),WK w->(∃ s,w.2.2.1[i]? =W s/\a+d=s.insts.l.length)->
  B (kj ((i:Z),(a:Z),w.1,w.2.1,w.2.2.1,w.2.2.2)) (Vv i w):=by intro d;induction d with|zero=>intro a w b hs;obtain⟨s,hs,n⟩:=hs;rw[kj.eq_1];refine .go (J hs) ?_;rw[Y v?];exact .ret ⟨b,.refl i w⟩|succ d m=>intro a w b hs;obtain⟨s,hs,n⟩:=hs;have g:=b.ok.small s (zj hs);have tv:=g.1;obtain⟨y,c⟩:=gl (l:=s.insts.l) (k:=a) o?;rw[kj.eq_1];refine .go (J hs) ?_;rw[X v?];refine .go (J c) ?_;refine .bind (Le y (g.2 y (zj c))) λns p=>?_;refine .bind (mir_L4 i a ns p ns.l.length 0 w o? b ⟨s,hs,o?⟩) λv e=>?_;rcases v with v|v;exact .ret e;obtain⟨o,f⟩:=e;obtain⟨h,j,k2⟩:=f.insts s hs;simp only;rw[ws (k:=a) o?];exact(m (a+1) v o ⟨h,j,o?⟩).mono λu hu=>Vv.trans f u hu
theorem mir_L0: ∀(i:U)(w:World),i<=w.2.2.1.length->WK w->B (ki ((i:Z)-1,w.1,w.2.1,w.2.2.1,w.2.2.2)) (MirQ w):=by intro i;induction i with|zero=>intro w _ a;rw[ki.eq_1,Y z?];exact .ret ⟨a,.refl w⟩|succ i d=>intro w hi a;have Ay:=a.ok.dJ;obtain⟨s,hs⟩:=gl (l:=w.2.2.1) (k:=i) o?;rw[show ((i+1:U):Z)-1=(i:Z) by omega,ki.eq_1,X z?,A (n:=(i:Z)-1) o? o?];refine .bind (mir_L2 i s.insts.l.length 0 w a ⟨s,hs,o?⟩) λv b=>?_;rcases v with v|v;exact .ret b;obtain⟨e,c⟩:=b;refine(d v (by rw[c.len];omega) e).mono λu hu=>?_;rcases u with u|u;exact hu;exact⟨hu.1,c.VR.trans hu.2⟩
theorem Uw(w:World)(b:WK w):B (yw w.1 w.2.1 w.2.2.1 w.2.2.2) (λv=>v.1≠0\/v.1=0/\WK v.2/\Vu w v.2):=by have Ay:=b.ok.dJ;unfold yw;rw[A (n:=(w.2.2.1.length:Z)-1) o? o?];refine .bind (mir_L0 w.2.2.1.length w (ke _) b) λv a=>?_;rcases v with v|v;exact .ret (.inl a);exact .ret (.inr ⟨rfl,a.1,a.2⟩)
end Xr
namespace Xr
section
variable {α:Type} (key:α->qg)
theorem pos_map(x:α)(s:V α): ∀k,pos key x s k=pos id (key x) (s.map key) k:=by intro k;induction k with|zero=>rfl|succ k a=>rw[pos,pos,V.getElem?_map];cases s[k]? with|none=>rfl|some y=>simp only[F.map_some,id,a]
theorem ins1_map(x:α)(s:V α):(fu key s x).map key=fu id (s.map key) (key x):=by unfold fu;rw[pos_map key x s s.length,j_];simp[V.map_take,V.map_drop]
theorem Dd: ∀(r s:V α),(k8 key s r).map key=k8 id (s.map key) (r.map key):=by intro r;induction r with|nil=>intro s;rfl|cons x r a=>intro s;show(k8 key (fu key s x) r).map key=k8 id (fu id (s.map key) (key x)) (r.map key);rw[a,ins1_map]
end
def gE(e:K):Z:=(e.text.length:Z)-(e.span.to-e.span.qG)
def dO(l:V K):Z:=(l.map gE).sum
def wa(l:V K):U:=(l.map λe=>e.text.length).sum
theorem sumG_le{n:Z}: ∀(l:V K),(∀ e∈l,e.span.qG<=e.span.to)->dO l<=wa l:=by intro l;induction l with|nil=>intro _;simp[dO,wa]|cons e l a=>intro h;have h1:=h e z?;have h2:=a λb c=>h b (by simp[c]);simp only[dO,wa,e?,g!,gE]at*;omega
theorem q0v{l r:V K}(h:l.Perm r):dO l=dO r:=by induction h with|nil=>rfl|cons x _ ih=>simp only[dO,e?,g!]at *; omega|swap x y l=>simp only[dO,e?,g!];omega|trans _ _ b a=>exact b.trans a
theorem q0w{l r:V K}(h:l.Perm r):wa l=wa r:=by induction h with|nil=>rfl|cons x _ ih=>simp only[wa,e?,g!]at *; omega|swap x y l=>simp only[wa,e?,g!];omega|trans _ _ b a=>exact b.trans a
def Db(n:Z)(p:qg):Prop:=0<=p.qG/\p.qG<=p.to/\p.to<=n
theorem E5(p:qg)(n:Z): ∃b:Bool,cd p n=W b/\(b=Q↔Db n p):=by unfold cd Db;by_cases c:0<=p.qG<;>by_cases a:p.qG<=p.to<;>simp[c,a]
theorem sumT_sp{n:Z}(hn:0<=n): ∀(l:V K),(∀ e∈l,Db n e.span)->(wa l:Z)<=dO l+l.length*n:=by intro l;induction l with|nil=>intro _;simp[dO,wa]|cons e l a=>intro h;have b:=h e z?;have h2:=a λc d=>h c (by simp[d]);unfold Db at b;simp only[dO,wa,e?,g!,gE,b?]at*;push_cast at*;rw[Z.add_mul];omega
structure Y0 (n:Z) (es:V K):Prop where
 Zj: ∀e∈es,Db n e.span
 apart:(k8 (·.span) [] es).Pairwise λa b=>a.span.to<=b.span.qG
theorem Lx(n:Z)(es:C K)(hl:es.l.length<2^60): ∀(r:V K)(k:U),es.l.drop k=r-> ∃v,bG (n,es,(k:Z))=W v/\(v= .inl 3\/v= .inr ()/\ ∀e∈r,Db n e.span):=by intro r;induction r with|nil=>intro k h;have:=zd h;rw[bG.eq_1,Y v?];exact⟨_,rfl,.inr ⟨rfl,z?⟩⟩|cons e r f=>intro k h;obtain⟨i,g,h3⟩:=zx h;obtain⟨b,g1,g2⟩:=E5 e.span n;rw[bG.eq_1,X v?,J i,ws (k:=k) o?];simp only[L,P,g1];cases b with|false=>exact⟨_,rfl,.inl rfl⟩|true=>obtain⟨v,d,a⟩:=f (k+1) g;rw[Y z?,d];refine⟨v,rfl, ?_⟩;rcases a with a|⟨a,c⟩;exact .inl a;refine .inr ⟨a,λj HU=>?_⟩;rcases K?.1 HU with rfl|HU;exact g2.1 rfl;exact c j HU
theorem q0p(es:C K)(hl:es.l.length<=2^20): ∀(r:V K)(k:U)(out:V qg),es.l.drop k=r->out.length=k->ml (es,(k:Z),out)=W (out++r.map (·.span)):=by intro r;induction r with|nil=>intro k out h _;have:=zd h;rw[ml.eq_1,Y v?];simp|cons e r a=>intro k out h ho;obtain⟨c,b,h3⟩:=zx h;rw[ml.eq_1,X v?,J c,ws (k:=k) o?];simp only[L,P];rw[X qC,a (k+1) (out++[e.span]) b v?];simp
theorem apart_L0(s:C qg)(hl:s.l.length<2^60): ∀(d k:U),k+d=s.l.length-> ∃v,gA (s,(k:Z))=W v/\(v= .inl T\/v= .inr ()/\ ∀(j:U) x,k<=j->s.l[j]? =W x->x.qG<=x.to/\(∀ y,0<j->s.l[j-1]? =W y->y.to<=x.qG)):=by intro d;induction d with|zero=>intro k h;rw[gA.eq_1,Y v?];exact⟨_,rfl,.inr ⟨rfl,λj x m e=>by have:=(qK e).1;omega⟩⟩|succ d r=>intro k h;obtain⟨x,e⟩:=gl (l:=s.l) (k:=k) o?;obtain⟨v,i,a⟩:=r (k+1) o?;rw[gA.eq_1,X v?,J e,ws (k:=k) o?];simp only[L,P];by_cases p:x.qG>x.to;rw[X (by simpa using p)];exact⟨_,rfl,.inl rfl⟩;rw[Y (by simpa using p)];cases k with|zero=>rw[Y z?,i];refine⟨v,rfl, ?_⟩;rcases a with a|⟨a,f⟩;exact .inl a;refine .inr ⟨a,λj z m b=>?_⟩;by_cases c:j=0;subst c;rw[e]at b;cases b;exact⟨o?,λy g=>o?⟩;exact f j z o? b|succ k=>obtain⟨y,g⟩:=gl (l:=s.l) (k:=k) o?;rw[X (by simp<;>omega),show M.wrap (((k+1:U):Z)-1)=(k:Z)from by rw[A o? o?];omega,J g];simp only[P];by_cases o:x.qG<=y.qG;rw[X (by simpa using o)];exact⟨_,rfl,.inl rfl⟩;rw[Y (by simpa using o)];by_cases n:x.qG<y.to;rw[X (by simpa using n)];exact⟨_,rfl,.inl rfl⟩;rw[Y (by simpa using n),i];refine⟨v,rfl, ?_⟩;rcases a with a|⟨a,f⟩;exact .inl a;refine .inr ⟨a,λj z m b=>?_⟩;by_cases c:j=k+1;subst c;rw[e]at b;cases b;refine⟨o?,λy' _ q=>?_⟩;rw[E!,g]at q;cases q;omega;exact f j z o? b
theorem YN(s:V qg)(h: ∀(j:U) x,s[j]? =W x->x.qG<=x.to/\(∀ y,0<j->s[j-1]? =W y->y.to<=x.qG)):s.Pairwise λa b=>a.to<=b.qG:=by
 rw[t!];intro i j hi f hij;have key: ∀(d:U)(x:qg),s[i+1+d]? =W x->(s[i]'hi).to<=x.qG:=by intro d;induction d with|zero=>intro x c;exact(h (i+1) x c).2 _ o? (by rw[E!];exact yc hi)|succ d g=>intro x c;have hl:=(qK c).1;obtain⟨y,e⟩:=gl (l:=s) (k:=i+1+d) o?;have h1:=g y e;have h2:=(h (i+1+d) y e).1;have h3:=(h (i+1+(d+1)) x c).2 y o? (by rw[show i+1+(d+1)-1=i+1+d by omega];exact e);omega
 have:=key (j-(i+1)) (s[j]'f) (by rw[show i+1+(j-(i+1))=j by omega];exact yc f);exact this
theorem grown_L0(es:C K)(hl:es.l.length<=2^20)(d: ∀e∈es.l,-(2^36)<=e.span.to-e.span.qG/\e.span.to-e.span.qG<=2^36): ∀(r:V K)(k:U)(n:Z),es.l.drop k=r-> -(k:Z)*2^38-2^40<=n->n+wa r+r.length*2^36<=2^61->mj (n,es,(k:Z))=W (n+dO r):=by intro r;induction r with|nil=>intro k n h _ _;have:=zd h;rw[mj.eq_1,Y v?];simp[dO]|cons e r c=>(intro k n h hn1 b;obtain⟨a,g,h3⟩:=zx h;obtain⟨b2,b3⟩:=d e (zj a);have VL:(k:Z)<=2^20:=o?;have f:(wa (e::r):Z)=e.text.length+wa r:=by simp[wa]);simp only[b?]at b;rw[f]at b;rw[mj.eq_1,X v?,J a,ws (k:=k) o?];simp only[L,P];rw[A (n:=n+(e.text.length:Z)) o? o?,A (n:=e.span.to-e.span.qG) o? o?,A (n:=n+(e.text.length:Z)-(e.span.to-e.span.qG)) o? o?];rw[c (k+1) _ g (by push_cast;omega) (by push_cast;omega)];simp only[dO,e?,g!,gE];congr 1;omega
theorem E6(n:Z)(hn:0<=n/\n<=2^36)(es:C K)(hl:es.l.length<=2^19)(ht:wa es.l<=2^60):B (QG n es) (λv=>v=0->Y0 n es.l/\n+dO es.l<=65536):=by
 have q:B (aR n es) (λv=>v=0->Y0 n es.l):=by unfold aR;obtain⟨v,g1,g2⟩:=Lx n es o? es.l 0 rfl;refine .go g1 ?_;rcases g2 with rfl|⟨rfl,g2⟩;exact .ret λh=>N h (by decide);(have hs:og es=W ⟨(es.l.map (·.span)).isEmpty,es.l.map (·.span)⟩:=by unfold og;rw[show (0:Z)=((0:U):Z)from rfl,q0p es o? es.l 0 [] rfl rfl];rfl);(refine .go hs ?_;have t:=(cL id (es.l.map (·.span)) []).length_eq;simp only[M?,j_]at t;have s:B (o8 ⟨(es.l.map (·.span)).isEmpty,es.l.map (·.span)⟩) (λb=>b=Q->(k8 id [] (es.l.map (·.span))).Pairwise λa b=>a.to<=b.qG):=by unfold o8;refine .go (Se _ v?) ?_;obtain⟨w,k,d⟩:=apart_L0 ⟨(k8 id [] (es.l.map (·.span))).isEmpty,k8 id [] (es.l.map (·.span))⟩ u? (k8 id [] (es.l.map (·.span))).length 0 z?;refine .go k ?_;rcases d with rfl|⟨rfl,d⟩;exact .ret z?;exact .ret λ_=>YN _ λj x m=>d j x o? m);refine .bind s λb p=>?_;refine .ite (λ_=> .ret λh=>N h (by decide)) λc=> .ret λ_=>⟨g2, ?_⟩;have g:=p (by simpa using c);rw[show k8 id [] (es.l.map (·.span))=(k8 (·.span) [] es.l).map (·.span)from(Dd (λx:K=>x.span) es.l []).symm]at g;exact N_.1 g
 unfold QG;refine .bind q λv o=>?_;refine .ite (λc=> .ret λh=>N h (by simpa using c)) λc=>?_;have f:=o (by simpa using c);have r:oa n es=W (n+dO es.l):=by unfold oa;rw[show (0:Z)=((0:U):Z)from rfl,grown_L0 es o? (λe i=>⟨by have:=f.Zj e i;unfold Db at this;omega,by have:=f.Zj e i;unfold Db at this;omega⟩) es.l 0 n rfl o? o?];rfl
 refine .go r ?_;refine .ite (λ_=> .ret λh=>N h (by decide)) λc=> .ret λ_=>⟨f,by simpa using c⟩
end Xr
namespace Xr
def fwd(s:D):U->V K->D
 |k,[]=>s.drop k
 |k,e::r=>(s.take e.span.qG.toNat).drop k++e.text++fwd s e.span.to.toNat r
def VA(s:D):V K->D
 |[]=>s
 |e::r=>newText (VA s r) e
theorem Ak(s:D): ∀(E:V K)(k:U),(∀ e∈E,0<=e.span.qG/\e.span.qG<=e.span.to/\e.span.to<=s.length)->E.Pairwise (λa b=>a.span.to<=b.span.qG)->(∀ e∈E,(k:Z)<=e.span.qG)->k<=s.length->
  VA s E=s.take k++fwd s k E:=by intro E;induction E with|nil=>intro k _ _ _ _;simp[VA,fwd]|cons e r g=>(intro k hi d f GU;rw[C?]at d;obtain⟨h1,h2,h3⟩:=hi e z?;have f:=f e z?;have:=g e.span.to.toNat (λx c=>hi x (by simp[c])) d.2 (λx c=>by have:=d.1 x c;omega) o?;simp only[VA,fwd,newText];rw[this];have l1:(s.take e.span.to.toNat).length=e.span.to.toNat:=by rw[t_];omega);(rw[V.take_append_of_le_length o?,q1k,q1g o?];rw[V.drop_append_of_le_length o?,show V.drop e.span.to.toNat (s.take e.span.to.toNat)=[] from V.drop_eq_nil_of_le o?,M?];have e2:s.take k++(s.take e.span.qG.toNat).drop k=s.take e.span.qG.toNat:=by (have h:s.take k=(s.take e.span.qG.toNat).take k:=by rw[q1k,q1g o?]);rw[h,H!]);rw[<- M!,<- M!,e2]
theorem bck_len(s:D)(E:V K)(k:U)(hi: ∀e∈E,0<=e.span.qG/\e.span.qG<=e.span.to/\e.span.to<=s.length)(c:E.Pairwise (λa b=>a.span.to<=b.span.qG))(d: ∀e∈E,(k:Z)<=e.span.qG)(f:k<=s.length):k<=(VA s E).length:=by rw[Ak s E k hi c d f];simp;omega
theorem bck_up(s:D): ∀(E:V K),(∀ e∈E,0<=e.span.qG/\e.span.qG<=e.span.to/\e.span.to<=s.length)->E.Pairwise (λa b=>a.span.to<=b.span.qG)->(VA s E).length<=s.length+wa E:=by intro E;induction E with|nil=>intro _ _;simp[VA,wa]|cons e r d=>(intro hi c;rw[C?]at c;obtain⟨h1,h2,h3⟩:=hi e z?;have h4:=d (λx f=>hi x (by simp[f])) c.2;have hT:wa (e::r)=e.text.length+wa r:=by simp[wa]);simp only[VA,newText,p?,t_,V.length_drop];omega
end Xr
namespace Xr
theorem Q2{α:Type}(l:V α)(x:α)(r:V α){i:Z}(h:i=(l.length:Z)):qk (l++x::r) i=W x:=by subst h;unfold qk;simp
section
variable {α:Type} {cmp:α->α->F Z} {le:α->α->Prop}
theorem ins_L2(hc: ∀x y,∃ c,cmp x y=W c/\(c<0↔ ¬le y x))(ht: ∀x y,¬ le y x->le x y)(q: ∀x y z,le x y->le y z->le x z)
  {t:Z×Z×Z×Z×V α->F (V α)}
  (E: ∀a b i j data,t (a,b,i,j,data)=if decide (j>a)then qk data j>>=λu=>qk data (M.wrap (j-(1:Z)))>>=λk=>cmp u k>>=λI=>
   if decide (I<(0:Z))then qk (data.set j.toNat k) (M.wrap (j-(1:Z)))>>=λJv=>t (a,b,i,M.wrap (j-(1:Z)),(data.set j.toNat k).set (M.wrap (j-(1:Z))).toNat u)
   else W data else W data) (b i:Z) (rest:V α):
  ∀(n:U)(l:V α)(x:α)(r:V α),l.length=n->(l++x::(r++rest)).length<2^30->l.Pairwise le->(x::r).Pairwise le->(∀ y∈l,∀ z∈r,le y z)->
  ∃out,t (0,b,i,(l.length:Z),l++x::(r++rest))=W (out++rest)/\out.Perm (l++x::r)/\out.Pairwise le:=by
 intro n;induction n with
  |zero=>(intro l x r hl _ s d f;have:l=[]:=by simpa using hl);subst this;rw[E];exact⟨x::r,z?,.refl _,d⟩
  |succ n ih=>
   (intro l x r hl hn s d f;obtain⟨l,y,rfl⟩: ∃o y,l=o ++[y]:=by rcases List.eq_nil_or_concat l with h|⟨o,y,h⟩;subst h;simp at hl;exact⟨o,y,by simpa using h⟩);(simp only[p?,b?,r?]at hl hn;have hlen:(((l++[y]).length:U):Z)=(l.length:Z)+1:=z?;have hw:M.wrap ((l.length:Z)+1-1)=(l.length:Z):=by rw[A o? o?]<;>omega);(rw[E,hlen,hw,X (by simp<;>omega),Q2 (l++[y]) x _ z?];have e1:l++[y]++x::(r++rest)=l++y::(x::(r++rest)):=z?;simp only[L,P];rw[e1,Q2 l y _ rfl];obtain⟨c,Vc,H⟩:=hc x y;simp only[P,Vc];have e2:(l++y::(x::(r++rest))).set ((l.length:Z)+1).toNat y=l++y::(y::(r++rest)):=by rw[show ((l.length:Z)+1).toNat=l.length+1 from o?,Z_ _ _ o?];simp);(have e3:(l++y::(y::(r++rest))).set ((l.length:Z)).toNat x=l++x::((y::r)++rest):=by rw[show ((l.length:Z)).toNat=l.length from o?,Z_ _ _ o?];simp);rw[e2,Q2 l y _ rfl];simp only[P,e3];simp only[n!,C?,d?]at s;obtain⟨v,p2,m⟩:=s;simp only[C?]at d;by_cases g:c<0
   ·rw[X (by simpa using g)];have p:le x y:=ht x y (H.1 g);obtain⟨out,q1,q2,R⟩:=ih l x (y::r) o? (by simp at hn |-; omega) v (by
     simp only[C?,K?]
     refine⟨?_,⟨λz hz=>f y z? z hz,d.2⟩⟩
     rintro z (rfl|hz)
     ·exact p
     ·exact d.1 z hz) (by
     intro z hz w hw
     simp only[K?]at hw
     rcases hw with rfl|hw
     ·exact m z hz _ rfl
     exact f z (by simp[hz]) w hw)
    refine⟨out,q1,q2.trans ?_,R⟩;simp only[M!,V.singleton_append];exact q2d.append_left _ (q2d.swap _ _ _)
   rw[Y (by simpa using g)];have e:le y x:=Classical.byContradiction λh=>g (H.2 h);refine⟨l++y::x::r,z?,z?, ?_⟩;simp only[n!,C?,K?];refine⟨v,⟨?_,d⟩, ?_⟩;rintro z (rfl|hz);exact e;exact f y z? z hz;rintro z hz w (rfl|rfl|hw);exact m z hz _ rfl;exact q _ _ _ (m z hz y rfl) e;exact f z (by simp[hz]) w hw
theorem ins_L0(E: ∀x y,∃ c,cmp x y=W c/\(c<0↔ ¬le y x))(w: ∀x y,¬ le y x->le x y)(f: ∀x y z,le x y->le y z->le x z)
  {g:Z×Z×Z×Z×V α->F (V α)}
  (H: ∀a b i j data,g (a,b,i,j,data)=if decide (j>a)then qk data j>>=λk=>qk data (M.wrap (j-(1:Z)))>>=λd=>cmp k d>>=λo=>
   if decide (o<(0:Z))then qk (data.set j.toNat d) (M.wrap (j-(1:Z)))>>=λJv=>g (a,b,i,M.wrap (j-(1:Z)),(data.set j.toNat d).set (M.wrap (j-(1:Z))).toNat k)
   else W data else W data)
  {h:Z×Z×Z×V α->F (V α)}
  (n: ∀a b i data,h (a,b,i,data)=if decide (i<b)then g (a,b,i,i,data)>>=λv3=>h (a,b,M.wrap (i+(1:Z)),v3)else W data):
  ∀(rest s:V α),(s++rest).length<2^30->s.Pairwise le-> ∃out,h (0,((s++rest).length:Z),(s.length:Z),s++rest)=W out/\out.Perm (s++rest)/\out.Pairwise le:=by intro rest;induction rest with|nil=>intro s _ hs;rw[n,Y z?];exact⟨s,z?,z?,hs⟩|cons x rest v=>intro s hn hs;obtain⟨out,m,l,t⟩:=ins_L2 E w f H ((s++x::rest).length:Z) (s.length:Z) rest s.length s x [] rfl (by simpa using hn) hs z? z?;simp only[M?]at m;rw[n,X (by simp<;>omega),m];simp only[L,P];have hl:=l.length_eq;simp only[p?,b?,r?]at hl hn;have e:(s++x::rest).length=(out++rest).length:=v?;rw[A o? o?,e,show(s.length:Z)+1=(out.length:Z)from o?];obtain⟨u,r,q,p⟩:=v out (by simp<;>omega) t;refine⟨u,r,q.trans ?_,p⟩;have:=l.append_right rest;simpa using this
theorem NH(q: ∀x y,∃ c,cmp x y=W c/\(c<0↔ ¬le y x))(p: ∀x y,¬ le y x->le x y)(g: ∀x y z,le x y->le y z->le x z)
  {L2:Z×Z×Z×Z×V α->F (V α)}
  (t: ∀a b i j data,L2 (a,b,i,j,data)=if decide (j>a)then qk data j>>=λh=>qk data (M.wrap (j-(1:Z)))>>=λf=>cmp h f>>=λl=>
   if decide (l<(0:Z))then qk (data.set j.toNat f) (M.wrap (j-(1:Z)))>>=λJv=>L2 (a,b,i,M.wrap (j-(1:Z)),(data.set j.toNat f).set (M.wrap (j-(1:Z))).toNat h)
   else W data else W data)
  {L0:Z×Z×Z×V α->F (V α)}
  (k: ∀a b i data,L0 (a,b,i,data)=if decide (i<b)then L2 (a,b,i,i,data)>>=λv3=>L0 (a,b,M.wrap (i+(1:Z)),v3)else W data)
  {I:Z->Z->V α->F (V α)} (s: ∀a b d,I a b d=L0 (a,b,M.wrap (a+(1:Z)),d)>>=λv2=>W v2)
  (d:V α) (hn:d.length<2^30):B (I 0 (d.length:Z) d) (λout=>out.Perm d/\out.Pairwise le):=by rw[s,A o? o?];cases d with|nil=>rw[k,Y z?];exact⟨[],rfl,.refl _,.nil⟩|cons x r=>(obtain⟨out,o,n,m⟩:=ins_L0 q p g t k r [x] (by simpa using hn) z?;have e:L0 (0,((x::r).length:Z),0+1,x::r)=W out:=by simpa using o);rw[e];exact⟨out,rfl,by simpa using n,m⟩
end
end Xr
namespace Xr
theorem Y3(x y:Z):jG x y=W (if x<y then-1 else if x>y then 1 else 0):=by unfold jG sN;by_cases a:x<y;simp[a];by_cases b:y<x;simp[a,b];simp[a,b]
theorem Ec(a b:Z):rD [a,b]=W (if a≠0 then a else b):=by unfold rD;rw[nV.eq_1];by_cases d:a=0;(subst d;have e:M.wrap (0+1)=1:=by decide);(simp only[b?,r?,e];rw[nV.eq_1];have e2:M.wrap (1+1)=2:=by decide);by_cases c:b=0;subst c;simp only[e2,qk];rw[nV.eq_1];simp;simp[qk,c];simp[qk,d]
def Un(a b:qg):Prop:=a.qG<b.qG\/a.qG=b.qG/\a.to<=b.to
def NN(a b:qm):Prop:=Un (vA a) (vA b)
theorem UR(x y:qm): ∃c,gf x y=W c/\(c<0↔ ¬NN y x):=by unfold gf;simp only[show ∀s,sg s=W (vA s)from λs=>rfl,L,P];rw[Y3,Y3];simp only[P,Ec];refine⟨_,rfl, ?_⟩;unfold NN Un;generalize vA x=a;generalize vA y=b;by_cases f:a.qG<b.qG;simp[f]<;>omega;by_cases g:a.qG>b.qG;simp[f,g];have:a.qG=b.qG:=o?;rw[this];by_cases d:a.to<b.to;simp[d];by_cases e:a.to>b.to;simp[d,e]<;>omega;simp[d,e]<;>omega
theorem NO{x y:qg}(h: ¬Un y x):Un x y:=by unfold Un at *; omega
theorem Wv{x y z:qg}(h1:Un x y)(h2:Un y z):Un x z:=by unfold Un at *; omega
theorem insSel(d:V qm)(hn:d.length<2^30):B (zb 0 (d.length:Z) d) (λout=>out.Perm d/\out.Pairwise NN):=
 NH (L2:=qQ) (L0:=qH) (le:=NN) UR (λ_ _ h=>NO h) (λ_ _ _=>Wv) (λa b i j data=>by rw[qQ.eq_1]) (λa b i data=>by rw[qH.eq_1])
  (λ_ _ _=>rfl) d hn
section
variable (d:V qm) (hd:d.Pairwise NN) (hn:d.length<=2^20)
include hd in
theorem Ye{j k:U}{x y:qm}(h:j<=k)(b:d[j]? =W x)(a:d[k]? =W y): ∃c,gf y x=W c/\decide (c<0)=T:=by
 obtain⟨c,m,l⟩:=UR y x;refine⟨c,m, ?_⟩;have:NN x y:=by by_cases e:j=k;subst e;rw[b]at a;cases a;unfold NN Un;omega;obtain⟨f,rfl⟩:=qK a;obtain⟨g,rfl⟩:=qK b;exact(t!.1 hd) j k g f o?
 simp only[decide_eq_false_iff_not];intro i;exact l.1 i this
include hd hn in
theorem insS_L2(a b i:Z)(j:U)(h:j<d.length)(ha:0<=a):qQ (a,b,i,(j:Z),d)=W d:=by rw[qQ.eq_1];by_cases c:(j:Z)>a;obtain⟨x,f⟩:=gl h;obtain⟨y,e⟩:=gl (l:=d) (k:=j-1) o?;obtain⟨v,g,v2⟩:=Ye d hd o? e f;rw[X (by simpa using c),J f,show M.wrap ((j:Z)-1)=((j-1:U):Z)from by rw[A o? o?];omega,J e];simp only[L,P,g];rw[v2];rfl;rw[Y (by simpa using c)]
include hd hn in
theorem insS_L0(a b:Z)(f:0<=a)(hb:b<=d.length): ∀(n i:U),i+n=d.length->qH (a,b,(i:Z),d)=W d:=by intro n;induction n with|zero=>intro i h;rw[qH.eq_1,Y v?]|succ n e=>intro i h;rw[qH.eq_1];by_cases c:(i:Z)<b;rw[X (by simpa using c),insS_L2 d hd hn a b _ i o? f];simp only[L,P];rw[ws o?];exact e (i+1) o?;rw[Y (by simpa using c)]
include hd hn in
theorem insS(a:U)(b:Z)(e:b<=d.length)(ha:a<=d.length):zb (a:Z) b d=W d:=by unfold zb;rw[ws o?];by_cases c:a+1<=d.length;rw[insS_L0 d hd hn a b o? e (d.length-(a+1)) (a+1) o?];rfl;rw[qH.eq_1,Y v?];rfl
theorem half{x y:U}(h:x+y<=2^22):M.wrap ((h?.wrap (M.wrap ((x:Z)+(y:Z)))).fdiv (2^(min ((1:Z)).toNat 64)))=(((x+y) / 2:U):Z):=by
 rw[A (n:=(x:Z)+y) o? o?];have e:h?.wrap ((x:Z)+y)=(x:Z)+y:=by simp only[IntKind.wrap,IntKind.bits,O'];simp;omega
 have e2:(2:Z)^(min ((1:Z)).toNat 64)=2:=by decide
 rw[e,e2,Z.fdiv_eq_ediv_of_nonneg _ o?,A o? o?];omega
include hd hn in
theorem sym_L0(a:U): ∀(n i j:U),n=j-i->a<i->i<=d.length->j<=d.length->zs ((a:Z),(i:Z),(j:Z),d)=W (i:Z):=by intro n;induction n using s? with|_ n g=>intro i j hm m h h2;rw[zs.eq_1];by_cases c:i<j;obtain⟨x,e⟩:=gl (l:=d) (k:=(i+j) / 2) o?;obtain⟨y,b⟩:=gl (l:=d) (k:=a) o?;obtain⟨v,f,v2⟩:=Ye d hd (j:=a) (k:=(i+j) / 2) o? b e;rw[X (by simpa using c),half o?,J e,J b];simp only[L,P,f];rw[v2];exact g _ o? i ((i+j) / 2) rfl m h o?;rw[Y (by simpa using c)]
include hd hn in
theorem sym_L4(m:U)(hm:m<d.length): ∀(n i:U),n=m-i->i<=m->zu ((m:Z),(i:Z),(m:Z),d)=W (m:Z):=by intro n;induction n using s? with|_ n f=>intro i hi h0;rw[zu.eq_1];by_cases c:i<m;obtain⟨x,b⟩:=gl (l:=d) (k:=(i+m) / 2) o?;obtain⟨y,a⟩:=gl (l:=d) (k:=m) o?;obtain⟨v,e,v2⟩:=Ye d hd (j:=(i+m) / 2) (k:=m) o? b a;rw[X (by simpa using c),J a,half o?,J b];simp only[L,P,e];rw[v2,ws o?];exact f _ o? ((i+m) / 2+1) rfl o?;rw[Y (by simpa using c)];have:i=m:=o?;rw[this]
include hd hn in
theorem sym_L8(a m b e n:Z)(r p:U)(hp:p<2^22)(hr:r<=d.length)(hpr:2*r<=p+2): ∀(k s:U),k=r-s->s<=r->p<d.length+s->zh (a,m,b,e,n,(s:Z),(r:Z),(p:Z),d)=W (r:Z):=by intro k;induction k using s? with|_ k i=>intro s hk h0 h1;rw[zh.eq_1];by_cases c:s<r;obtain⟨x,g⟩:=gl (l:=d) (k:=(s+r) / 2) o?;obtain⟨y,f⟩:=gl (l:=d) (k:=p-(s+r) / 2) o?;obtain⟨v,h,v2⟩:=Ye d hd (j:=(s+r) / 2) (k:=p-(s+r) / 2) o? g f;rw[X (by simpa using c),half o?,show M.wrap ((p:Z)-(((s+r) / 2:U):Z))=((p-(s+r) / 2:U):Z)from by rw[A o? o?];omega,J f,J g];simp only[L,P,h];rw[v2,ws o?];exact i _ o? ((s+r) / 2+1) rfl o? o?;rw[Y (by simpa using c)];have:s=r:=o?;rw[this]
include hd hn in
theorem sym_id: ∀(k a m b:U),k=b-a->a<m->m<b->b<=d.length->qw ((a:Z),(m:Z),(b:Z),d)=W d:=by intro k;induction k using s? with|_ k f=>intro a m b hk j h2 g;rw[qw.eq_1];simp only[half (x:=a) (y:=b) o?];rw[A (n:=(m:Z)-a) o? o?,A (n:=(b:Z)-m) o? o?];by_cases c1:m=a+1;rw[X v?,sym_L0 d hd hn a _ m b rfl j o? g];simp only[L,P];rw[zt.eq_1,A o? o?,Y v?];rfl;rw[Y v?];by_cases c2:b=m+1;rw[X v?,sym_L4 d hd hn m o? _ a rfl o?];simp only[L,P];rw[zv.eq_1,Y z?];rfl;(rw[Y v?];have i:M.wrap ((((a+b) / 2:U):Z)+m)=(((a+b) / 2+m:U):Z):=by rw[A o? o?];omega);simp only[i];generalize hmid:(a+b) / 2=c at*;(have h:M.wrap (((c+m:U):Z)-1)=((c+m-1:U):Z):=by rw[A o? o?];omega);simp only[h];by_cases c3:m>c;(rw[X v?,show M.wrap (((c+m:U):Z)-b)=((c+m-b:U):Z)from by rw[A o? o?];omega,sym_L8 d hd hn _ _ _ _ _ c (c+m-1) o? o? o? _ (c+m-b) rfl o? o?];simp only[L,P];have e:M.wrap (((c+m:U):Z)-c)=(m:Z):=by rw[A o? o?];omega);simp only[e];rw[Y z?,Y z?,X v?,f _ o? c m b rfl o? o? g];rfl;(rw[Y v?,sym_L8 d hd hn _ _ _ _ _ m (c+m-1) o? o? o? _ a rfl o? o?];simp only[L,P];have e:M.wrap (((c+m:U):Z)-m)=(c:Z):=by rw[A o? o?];omega);simp only[e];by_cases c4:m<c;rw[Y z?,X v?,f _ o? a m c rfl o? o? o?];simp only[P];rw[Y z?];rw[Y z?,Y v?,Y z?]
include hd hn in
theorem stab_L0: ∀(k a:U),k=d.length-a->a<=d.length->B (za ((d.length:Z),20,(a:Z),((a+20:U):Z),d)) (λr=>r.2=d/\ ∃q:U,r.1=q/\q<=d.length):=by intro k;induction k using s? with|_ k e=>intro a hk b;rw[za.eq_1];by_cases c:a+20<=d.length;rw[X v?,insS d hd hn a _ o? b];simp only[L,P];rw[show M.wrap (((a+20:U):Z)+20)=((a+20+20:U):Z)from by rw[A o? o?];omega];exact e _ o? (a+20) rfl c;rw[Y v?];exact .ret ⟨rfl,a,rfl,b⟩
include hd hn in
theorem stab_L4(s:U)(hs:0<s)(D9:s<=2^20): ∀(k a:U),k=d.length-a->a<=d.length->B (zn ((d.length:Z),(s:Z),(a:Z),((a+2*s:U):Z),d)) (λr=>r.2=d/\ ∃q:U,r.1=q/\q<=d.length):=by intro k;induction k using s? with|_ k b=>intro a hk e;rw[zn.eq_1];by_cases c:a+2*s<=d.length;rw[X v?,show M.wrap ((a:Z)+s)=((a+s:U):Z)from by rw[A o? o?];omega,sym_id d hd hn _ a (a+s) (a+2*s) rfl o? o? c];simp only[L,P];rw[A (n:=2*(s:Z)) o? o?,show M.wrap (((a+2*s:U):Z)+2*(s:Z))=((a+2*s+2*s:U):Z)from by rw[A o? o?];omega];exact b _ o? (a+2*s) rfl c;rw[Y v?];exact .ret ⟨rfl,a,rfl,e⟩
include hd hn in
theorem stab_L2: ∀(k s:U),k=d.length-s->0<s->s<=2^20\/s<=2*d.length->z6 ((d.length:Z),(s:Z),d)=W d:=by intro k;induction k using s? with|_ k b=>intro s hk e h1;rw[z6.eq_1];by_cases c:s<d.length;rw[X v?,show M.wrap (2*(s:Z))=((0+2*s:U):Z)from by rw[A o? o?];omega];obtain⟨v,a,v2,q,v3,v4⟩:=stab_L4 d hd hn s e o? _ 0 rfl o?;rw[show ((0:U):Z)=0 from rfl]at a;rw[a];simp only[L,P,v2,v3];rw[show M.wrap ((q:Z)+s)=((q+s:U):Z)from by rw[A o? o?];omega,show M.wrap ((s:Z)*2)=((s*2:U):Z)from by rw[A o? o?];omega];have hi:=b _ o? (s*2) rfl o? o?;by_cases f:q+s<d.length;rw[X v?,sym_id d hd hn _ q (q+s) d.length rfl o? f o?];simp only[P];exact hi;rw[Y v?];exact hi;rw[Y v?]
include hd hn in
theorem sort_id:ze d=W d:=by unfold ze zZ;obtain⟨v,a,v2,q,v3,v4⟩:=stab_L0 d hd hn _ 0 rfl o?;rw[show ((0:U):Z)=0 from rfl,show((0+20:U):Z)=20 from rfl]at a;rw[a];simp only[L,P,v2,v3];rw[insS d hd hn q _ o? v4];simp only[P];have:=stab_L2 d hd hn _ 20 rfl o? o?;rw[show ((20:U):Z)=20 from rfl]at this;rw[this];rfl
end
theorem sort_few(d:V qm)(hn:d.length<20):B (ze d) (λout=>out.Perm d/\out.Pairwise NN):=by unfold ze zZ;rw[za.eq_1,Y v?];obtain⟨out,b,a⟩:=insSel d o?;simp only[L,P,b];rw[z6.eq_1,Y v?];exact⟨out,rfl,a⟩
end Xr
namespace Xr
theorem Am(a b:qg): ∃c,(jG a.qG b.qG>>=λv2=>jG a.to b.to>>=λv4=>rD [v2,v4]>>=λg=>W g)=W c/\(c<0↔ ¬Un b a):=by rw[Y3,Y3];simp only[L,P,Ec];refine⟨_,rfl, ?_⟩;unfold Un;by_cases f:a.qG<b.qG;simp[f]<;>omega;by_cases h:a.qG>b.qG;simp[f,h];have:a.qG=b.qG:=o?;rw[this];by_cases d:a.to<b.to;simp[d];by_cases e:a.to>b.to;simp[d,e]<;>omega;simp[d,e]<;>omega
def leE(a b:K):Prop:=Un a.span b.span
theorem spanCmp(x y:qg): ∃c,ly x y=W c/\(c<0↔ ¬Un y x):=Am x y
theorem editCmp(x y:K): ∃c,fW x y=W c/\(c<0↔ ¬leE y x):=Am x.span y.span
theorem insEdit(d:V K)(hn:d.length<2^30):B (zH 0 (d.length:Z) d) (λout=>out.Perm d/\out.Pairwise leE):=
 NH (L2:=qW) (L0:=qV) (le:=leE) editCmp (λ_ _ h=>NO h) (λ_ _ _=>Wv) (λa b i j data=>by rw[qW.eq_1]) (λa b i data=>by rw[qV.eq_1])
  (λ_ _ _=>rfl) d hn
theorem insSpan(d:V qg)(hn:d.length<2^30):B (zM 0 (d.length:Z) d) (λout=>out.Perm d/\out.Pairwise Un):=
 NH (L2:=qY) (L0:=qX) (le:=Un) spanCmp (λ_ _ h=>NO h) (λ_ _ _=>Wv) (λa b i j data=>by rw[qY.eq_1]) (λa b i data=>by rw[qX.eq_1])
  (λ_ _ _=>rfl) d hn
theorem few_edit(d:V K)(hn:d.length<20):B (zD d) (λout=>out.Perm d/\out.Pairwise leE):=by unfold zD xm;rw[xF.eq_1,Y v?];obtain⟨out,b,a⟩:=insEdit d o?;simp only[L,P,b];rw[xG.eq_1,Y v?];exact⟨out,rfl,a⟩
theorem few_span(d:V qg)(hn:d.length<20):B (zI d) (λout=>out.Perm d/\out.Pairwise Un):=by unfold zI xu;rw[xW.eq_1,Y v?];obtain⟨out,b,a⟩:=insSpan d o?;simp only[L,P,b];rw[xX.eq_1,Y v?];exact⟨out,rfl,a⟩
theorem La:xl ⟨Q,[]⟩=W ():=by unfold xl jn;rw[xU.eq_1,Y (by decide)];simp only[L,P];unfold xy;rw[xg.eq_1,Y (by decide)];simp only[L,P];rw[xV.eq_1,Y (by decide)];rfl
theorem Lb:xt ⟨Q,[]⟩=W ():=by unfold xt jx;rw[jh.eq_1,Y (by decide)];simp only[L,P];unfold xD;rw[xr.eq_1,Y (by decide)];simp only[L,P];rw[ji.eq_1,Y (by decide)];rfl
theorem RH(es:C K)(hl:es.l.length<20)(hn:es.nil=Q->es.l=[]): ∃v E,vW es=W v/\(v= .inl ⟨Q,[]⟩/\E=[]\/v= .inr E)/\E.Perm es.l/\E.Pairwise leE:=by unfold vW tj;by_cases c:es.nil=Q;rw[X c];simp only[L,P,La];exact⟨_,[],rfl,.inl ⟨rfl,rfl⟩,by rw[hn c],.nil⟩;rw[Y c,X qC];obtain⟨E,d,b,a⟩:=few_edit es.l hl;simp only[L,P,d];exact⟨_,E,rfl,.inr rfl,b,a⟩
def ahead(a b:qg):Prop:=a.qG<b.qG/\a.to<=b.qG
theorem Lf(s:V qg)(hl:s.length<20): ∀(d k:U),k+d=s.length-> ∃v,vZ ((s.length:Z),(k:Z),s)=W v/\(v= .inl T\/v= .inr ()/\ ∀(j:U) x,k<=j->s[j]? =W x->x.qG<=x.to/\(∀ y,0<j->s[j-1]? =W y->x.qG≠y.qG/\y.to<=x.qG)):=by intro d;induction d with|zero=>intro k h;rw[vZ.eq_1,Y v?];exact⟨_,rfl,.inr ⟨rfl,λj x m e=>by have:=(qK e).1;omega⟩⟩|succ d r=>intro k h;obtain⟨x,e⟩:=gl (l:=s) (k:=k) o?;obtain⟨v,i,a⟩:=r (k+1) o?;rw[vZ.eq_1,X v?,J e,ws (k:=k) o?];simp only[L,P];by_cases p:x.qG>x.to;rw[X (by simpa using p)];exact⟨_,rfl,.inl rfl⟩;rw[Y (by simpa using p)];cases k with|zero=>rw[Y z?,i];refine⟨v,rfl, ?_⟩;rcases a with a|⟨a,f⟩;exact .inl a;refine .inr ⟨a,λj z m b=>?_⟩;by_cases c:j=0;subst c;rw[e]at b;cases b;exact⟨o?,λy g=>o?⟩;exact f j z o? b|succ k=>obtain⟨y,g⟩:=gl (l:=s) (k:=k) o?;rw[X (by simp<;>omega),show M.wrap (((k+1:U):Z)-1)=(k:Z)from by rw[A o? o?];omega,J g];simp only[P];by_cases o:x.qG=y.qG;rw[X (by simpa using o)];exact⟨_,rfl,.inl rfl⟩;rw[Y (by simpa using o)];by_cases n:x.qG<y.to;rw[X (by simpa using n)];exact⟨_,rfl,.inl rfl⟩;rw[Y (by simpa using n),i];refine⟨v,rfl, ?_⟩;rcases a with a|⟨a,f⟩;exact .inl a;refine .inr ⟨a,λj z m b=>?_⟩;by_cases c:j=k+1;subst c;rw[e]at b;cases b;refine⟨o?,λy' _ q=>?_⟩;rw[E!,g]at q;cases q;omega;exact f j z o? b
theorem Tg(s:V qg)(hs:s.Pairwise Un)(h: ∀(j:U) x,s[j]? =W x->x.qG<=x.to/\(∀ y,0<j->s[j-1]? =W y->x.qG≠y.qG/\y.to<=x.qG)):s.Pairwise ahead:=by induction s with|nil=>exact .nil|cons a r g=>(rw[C?]at hs |-;have e:r.Pairwise ahead:=by refine g hs.2 λj x hx=>?_;have f:=h (j+1) x (by simpa using hx);refine⟨f.1,λy hj i=>f.2 y o? ?_⟩;cases j with|zero=>omega|succ j=>simpa using i);refine⟨?_,e⟩;cases r with|nil=>intro b c;cases c|cons b r=>(have c:=h 1 b z?;have fZ:=c.2 a o? z?;have d:=hs.1 b z?;have k:ahead a b:=by unfold ahead;unfold Un at d;omega);intro x hx;rcases K?.1 hx with rfl|hx;exact k;have h2:=(C?.1 e).1 x hx;have GR:=c.1;unfold ahead at*;omega
theorem Lg(l:C qg)(hl:l.l.length<20)(hn:l.nil=Q->l.l=[]): ∃b:Bool,oA l=W b/\(b=Q->l.l.Pairwise λa b=>ahead a b\/ahead b a):=by unfold oA tn;by_cases c:l.nil=Q;rw[X c];simp only[L,P,Lb];rw[ah.eq_1,Y (by decide)];exact⟨Q,rfl,λ_=>by rw[hn c];exact .nil⟩;rw[Y c,X qC];obtain⟨d,n,g,m⟩:=few_span l.l hl;simp only[L,P,n];have hd:=g.length_eq;obtain⟨v,f,e⟩:=Lf d o? d.length 0 o?;rw[show ((0:U):Z)=0 from rfl]at f;rw[f];rcases e with rfl|⟨rfl,e⟩;exact⟨T,rfl,z?⟩;refine⟨Q,rfl,λ_=>?_⟩;have k:=Tg d m λj x i=>e j x o? i;exact(g.pairwise_iff (λ{x y} (h:ahead x y\/ahead y x)=>h.symm)).1 (k.imp λ{a b} h=> .inl h)
end Xr
namespace Xr
theorem DN(es:C K)(hl:es.l.length<2^60): ∀(d k:U)(n:Z),k+d=es.l.length-> ∃v,uy (n,es,(es.l.length:Z),(k:Z))=W v:=by intro d;induction d with|zero=>intro k n h;rw[uy.eq_1,Y v?];exact⟨_,rfl⟩|succ d a=>intro k n h;obtain⟨x,b⟩:=gl (l:=es.l) (k:=k) o?;rw[uy.eq_1,X v?,J b,ws o?];simp only[L,P,tQ];exact a (k+1) _ o?
theorem DT(es:C K)(hl:es.l.length<=2^20): ∀(r:V K)(k:U)(out:V qg),es.l.drop k=r->out.length=k->uz (es,(es.l.length:Z),(k:Z),out)=W (out++r.map (·.span)):=by intro r;induction r with|nil=>intro k out h _;have:=zd h;rw[uz.eq_1,Y v?];simp|cons x r a=>intro k out h ho;obtain⟨c,b,h3⟩:=zx h;rw[uz.eq_1,X v?,J c,ws o?];simp only[L,P];rw[X qC,a (k+1) _ b v?];simp
theorem pmay_sp(p:qg)(n:Z): ∃b:Bool,tN p n=W b/\(b=Q↔Db n p):=by unfold tN Db;by_cases c:0<=p.qG<;>by_cases a:p.qG<=p.to<;>simp[c,a]
theorem pmay_eL0(n:Z)(es:C K)(hl:es.l.length<2^60): ∀(r:V K)(k:U),es.l.drop k=r-> ∃v,nU (n,es,es,(es.l.length:Z),(k:Z))=W v/\(v= .inl 3\/v= .inr ()/\ ∀e∈r,Db n e.span):=by intro r;induction r with|nil=>intro k h;have:=zd h;rw[nU.eq_1,Y v?];exact⟨_,rfl,.inr ⟨rfl,z?⟩⟩|cons x r d=>intro k h;obtain⟨j,i,h3⟩:=zx h;obtain⟨b,m,b2⟩:=pmay_sp x.span n;obtain⟨v,c,a⟩:=d (k+1) i;rw[nU.eq_1,X v?,J j,ws o?];simp only[L,P,m];cases b with|false=>exact⟨.inl 3,z?,.inl rfl⟩|true=>rw[Y z?,c];refine⟨v,rfl,a.imp id λ⟨g,f⟩=>⟨g,λe he=>?_⟩⟩;rcases K?.1 he with rfl|he;exact b2.1 rfl;exact f e he
structure Fits (n:Z) (l:V K):Prop where
 Zj: ∀e∈l,Db n e.span
 apart:l.Pairwise λa b=>ahead a.span b.span\/ahead b.span a.span
theorem pmay_e(n:Z)(es:C K)(hl:es.l.length<20): ∃c,cx n es=W c/\(c=0->Fits n es.l):=by
 unfold cx;obtain⟨v,d,a⟩:=pmay_eL0 n es o? es.l 0 rfl;rw[show ((0:U):Z)=0 from rfl]at d;rw[d];simp only[L,P];rcases a with rfl|⟨rfl,a⟩;exact⟨3,rfl,λh=>N h (by decide)⟩;have hs:de es=W ⟨(es.l.map (·.span)).isEmpty,es.l.map (·.span)⟩:=by unfold de;have:=DT es o? es.l 0 [] rfl rfl;rw[show ((0:U):Z)=0 from rfl]at this;rw[this];rfl
 obtain⟨b,f,b2⟩:=Lg ⟨(es.l.map (·.span)).isEmpty,es.l.map (·.span)⟩ (by simpa using hl) z?;simp only[hs,P,f];cases b with|false=>exact⟨5,z?,λh=>N h (by decide)⟩|true=>rw[Y z?];obtain⟨g,g1⟩:=DN es o? es.l.length 0 n o?;rw[show ((0:U):Z)=0 from rfl]at g1;unfold eF;rw[g1];simp only[L,P];have e:Fits n es.l:=⟨a,N_.1 (b2 rfl)⟩;by_cases c:g>65536;rw[X (by simpa using c)];exact⟨4,rfl,λh=>N h (by decide)⟩;rw[Y (by simpa using c)];exact⟨0,rfl,λ_=>e⟩
structure Gj (n:Z) (E:V K):Prop where
 Zj: ∀e∈E,0<=e.span.qG/\e.span.qG<=e.span.to/\e.span.to<=n
 apart:E.Pairwise λa b=>a.span.to<=b.span.qG
theorem CO{n:Z}{l E:V K}(h:Fits n l)(c:E.Perm l)(hs:E.Pairwise leE):Gj n E:=by refine⟨λe d=>h.Zj e (c.mem_iff.1 d), ?_⟩;have i:=(c.pairwise_iff (R:=λa b:K=>ahead a.span b.span\/ahead b.span a.span) (λ{x y} h=>h.symm)).2 h.apart;refine(i.and hs).imp λ{a b} j=>?_;obtain⟨g,f⟩:=j;unfold leE Un at f;unfold ahead at g;omega
theorem Lh(s:D)(hs:s.length<=65536)(E:V K)(t:Gj s.length E)(hl:E.length<20)(ht: ∀e∈E,e.text.length<=60): ∀(r:V K)(k qp:U)(out:D),E.drop k=r->k<=E.length->(∀ e∈r,(qp:Z)<=e.span.qG)->qp<=s.length->out.length<=k*70000->
  ∃(a:U)(o:D),jK (s,(qp:Z),(E.length:Z),(k:Z),E,out)=W ((a:Z),o)/\a<=s.length/\o.length<=1400000/\o++s.drop a=out++fwd s qp r:=by intro r;induction r with|nil=>intro k qp out h hk _ u h2;have:=zd h;by_cases c:k<E.length;omega;rw[jK.eq_1,Y v?];exact⟨qp,out,rfl,u,o?,by simp only[fwd]⟩|cons e r I=>(intro k qp out h hk hr u h2;obtain⟨g1,g2,g3⟩:=zx h;have q:=zj g1;obtain⟨i1,i2,i3⟩:=t.Zj e q;have eg:=ht e q;have hfr:=hr e z?;have j: ∀x∈r,(e.span.to.toNat:Z)<=x.span.qG:=by have:=t.apart;rw[<- H! k E,h,n!]at this;intro x R;have:=(C?.1 this.2.1).1 x R;omega);(rw[jK.eq_1,X v?,J g1,ws o?];obtain⟨p,H,z,p3⟩:=q1y (l:=s) (lo:=(qp:Z)) (hi:=e.span.qG) o? o? o?;simp only[L,P,H];have g :p=(s.take e.span.qG.toNat).drop qp:=by rw[z];simp);(have e1:fwd s qp (e::r)=p++e.text++fwd s e.span.to.toNat r:=by rw[g];rfl);(have i:e.span.to=((e.span.to.toNat:U):Z):=o?;have go: ∀d:D,d=out++p++e.text-> ∃(a:U)(o:D),jK (s,e.span.to,(E.length:Z),((k+1:U):Z),E,d)=W ((a:Z),o)/\a<=s.length/\o.length<=1400000/\o++s.drop a=out++fwd s qp (e::r):=by (intro d n;have hlen:d.length<=(k+1)*70000:=by rw[n];simp only[p?];omega);obtain⟨a,o,m,y,w,v⟩:=I (k+1) e.span.to.toNat d g2 o? j o? hlen;rw[<- i]at m;refine⟨a,o,m,y,w, ?_⟩;rw[v,n,e1];simp);by_cases b:(out.isEmpty&&p.isEmpty)=Q;rw[X b];simp only[xn,f_]at b;by_cases f:(out.isEmpty&&e.text.isEmpty)=Q;rw[X f];simp only[xn,f_]at f;exact go out (by rw[b.1,b.2,f.2];rfl);rw[Y f,X qC];exact go _ (by rw[b.2];simp);rw[Y b,X qC,X (qC (by simp only[p?];omega) o?)];exact go _ rfl
theorem Li(s:D)(hs:s.length<=65536)(es:C K)(hl:es.l.length<20)(hn:es.nil=Q->es.l=[])(t: ∀e∈es.l,e.text.length<=60):
  ∃c v E,cx s.length es=W c/\vW es=W v/\(v= .inl ⟨Q,[]⟩/\E=[]\/v= .inr E)/\E.Perm es.l/\(c=0->Gj s.length E)/\(c≠0->nh s es=W ([],c))/\(c=0->nh s es=W (fwd s 0 E,0)):=by
 obtain⟨c,k,u⟩:=pmay_e s.length es hl;obtain⟨v,E,m,v2,v3,v4⟩:=RH es hl hn;have j:c=0->Gj s.length E:=λh=>CO (u h) v3 v4;refine⟨c,v,E,k,m,v2,v3,j,λh=>?_,λh=>?_⟩;unfold nh;rw[k];simp only[L,P];rw[X (by simpa using h)];unfold nh;rw[k,m];simp only[L,P];rw[Y (by simpa using h)];have hEl:=v3.length_eq;have key: ∀(a:U)(o:D),a<=s.length->o.length<=1400000->o++s.drop a=fwd s 0 E->(nR s (a:Z)>>=λb=>if(o.isEmpty&&b.isEmpty)=Q then W (o,(0:Z))else if ql (o.length+b.length) 1=Q then W ((o++b),(0:Z))else none)=W (fwd s 0 E,0):=by (intro a o p n g;obtain⟨w,r,w2,w3⟩:=B.nR (l:=s) (lo:=(a:Z)) o? o?;have d :w=s.drop a:=by rw[w2];simp);rw[r];simp only[L,P];by_cases f:(o.isEmpty&&w.isEmpty)=Q;rw[X f];simp only[xn,f_]at f;rw[<- g,<- d,f.1,f.2];rfl;rw[Y f,X qC,d,g]
 rcases v2 with ⟨rfl,rfl⟩|rfl;simp only;rw[cl.eq_1,Y (by decide)];simp only[P];exact key 0 [] o? z? (by simp[fwd]);simp only;obtain⟨a,o,q,p,n,g⟩:=Lh s hs E (j h) o? (λe i=>t e (v3.mem_iff.1 i)) E 0 0 [] rfl o? (λe i=>by have:=((j h).Zj e i).1;omega) o? z?;rw[show ((0:U):Z)=0 from rfl]at q;rw[q];simp only[P];exact key a o p n (by simpa using g)
end Xr
namespace Xr
theorem spanP(s:qm):sg s=W (vA s):=rfl
theorem order_L0(d:V qm)(hd:d.length<=2^20): ∀(r:V qm)(i:U)(out:V qm),d.drop i=r->out.length<=i->vF ((d.length:Z),(i:Z),d,out)=W (NX out r):=by intro r;induction r with|nil=>intro i out h _;have:=zd h;rw[vF.eq_1,Y v?];rfl|cons x r f=>intro i out h ho;obtain⟨m,j,h3⟩:=zx h;rw[vF.eq_1,X v?,J m];have step:=f (i+1) (lL out x) j (by have:=Ux out x;omega);show _=W (NX (lL out x) r);simp only[L,P];rw[ws o?,<- step];by_cases c:0<out.length;(obtain⟨y,b⟩:=gl (l:=out) (k:=out.length-1) o?;have hl:out.getLast? =W y:=by rw[V.getLast?_eq_getElem?];exact b);(have g:M.wrap ((out.length:Z)-1)=((out.length-1:U):Z):=by rw[A o? o?];omega);rw[g,Y z?,J b];simp only[P,spanP,Zv,X?];unfold lL;rw[hl];simp only;by_cases t:QU (vA y) (vA x);have a :=t;unfold QU at a;rw[Y (by simpa using a),X t];unfold join;by_cases e:y.head<y.anchor<;>simp[e];have a :=t;unfold QU at a;rw[X (by simpa using a),Y t,X qC];have e:out=[]:=List.eq_nil_of_length_eq_zero o?;subst e;rw[X (by decide)];rw[X (qC z? o?)];rfl
def N5(l:V qm):Prop:=l.length<20\/l.Pairwise NN
theorem leQ_iff(a b:qm):NN a b↔NM vA a b:=by unfold NN Un NM dS;omega
theorem YD{l:V qm}(h:Hs l):l.Pairwise NN:=h.imp λ{a b} fZ=>by have:=sK a;have:=sK b;unfold NN Un;omega
theorem Rv(l:C qm)(hl:l.l.length<=64)(hn:l.nil=T)(hs:N5 l.l): ∃d:V qm,d.Perm l.l/\d.Pairwise (NM vA)/\(l.l.Pairwise NN->d=l.l)/\fU l=W ⟨(NX [] d).isEmpty,NX [] d⟩:=by
 unfold fU wy;rw[hn];simp only[vH,if_false];rw[X qC];simp only[L,P];obtain⟨d,g,e,f,i⟩: ∃d:V qm,ze l.l=W d/\d.Perm l.l/\d.Pairwise NN/\(l.l.Pairwise NN->d=l.l):=by by_cases c:l.l.Pairwise NN;exact⟨l.l,sort_id l.l c o?,.refl _,c,λ_=>rfl⟩;obtain⟨d,g,e,f⟩:=sort_few l.l (hs.resolve_right c);exact⟨d,g,e,f,λh=>N h c⟩
 have hlen:=e.length_eq;refine⟨d,e,f.imp λ{a b} j=>(leQ_iff a b).1 j,i, ?_⟩;rw[g];simp only[P];have:=order_L0 d o? d 0 [] rfl z?;rw[show ((0:U):Z)=0 from rfl]at this;rw[this];rfl
theorem normP_L0(n:Z)(l:C qm)(hl:l.l.length<2^60): ∀(r:V qm)(i:U),l.l.drop i=r-> ∃v,tg (n,l,l,(l.l.length:Z),(i:Z))=W v/\((v= .inl (⟨Q,[]⟩,3)/\ ¬Jb n r)\/(v= .inr ()/\Jb n r)):=by intro r;induction r with|nil=>intro i h;have:=zd h;rw[tg.eq_1,Y v?];exact⟨_,rfl,.inr ⟨rfl,λx a=>by simp at a⟩⟩|cons x r b=>(intro i h;obtain⟨f,e,h3⟩:=zx h;have a:=sK x;rw[tg.eq_1,X v?,J f,ws o?];simp only[L,P,spanP];have d:tN (vA x) n=W (decide (0<=(vA x).qG/\(vA x).to<=n)):=by unfold tN;by_cases c:0<=(vA x).qG;simp[c,a];simp[c]);rw[d];simp only[P];by_cases c:0<=(vA x).qG/\(vA x).to<=n;rw[Y (by simpa using c)];obtain⟨v,g1,g2⟩:=b (i+1) e;refine⟨v,g1, ?_⟩;rcases g2 with ⟨g2,g3⟩|⟨g2,g3⟩;exact .inl ⟨g2,λk=>g3 λz hz=>k z (by simp[hz])⟩;refine .inr ⟨g2,λz hz=>?_⟩;rcases K?.1 hz with rfl|hz;exact c;exact g3 z hz;rw[X (by simp only[Bool.not_eq_true',decide_eq_false_iff_not];exact c)];exact⟨_,rfl,.inl ⟨rfl,λk=>c (k x z?)⟩⟩
theorem normP_ok(n:Z)(l:C qm)(hl:l.l.length<2^60)(hn:l.nil=Q->l.l=[])(hs:N5 l.l): ∃(q:C qm)(c:Z),QM n l=W (q,c)/\
  ((c=0/\l.l≠[]/\l.l.length<=64/\Jb n l.l/\(q.l=l.l↔Hs l.l)/\q.l.length<=l.l.length)\/(c≠0/\ ¬(l.l≠[]/\l.l.length<=64/\Jb n l.l))):=by unfold QM;by_cases a:l.l=[];rw[X (by simp[a])];exact⟨_,_,rfl,.inr ⟨by decide,λk=>k.1 a⟩⟩;have hp:=V.length_pos_iff.2 a;rw[Y v?];by_cases f:l.l.length<=64;rw[Y v?];obtain⟨v,g1,g2⟩:=normP_L0 n l hl l.l 0 rfl;rw[show ((0:U):Z)=0 from rfl]at g1;rw[g1];rcases g2 with ⟨rfl,g2⟩|⟨rfl,g2⟩;exact⟨_,_,rfl,.inr ⟨by decide,λk=>g2 k.2.2⟩⟩;(have i:l.nil=T:=by cases h:l.nil with|false=>rfl|true=>exact N (hn h) a);obtain⟨d,d1,d2,d3,d4⟩:=Rv l f i hs;simp only[L,P,d4];have j:Jb n d:=λx g=>g2 x (d1.mem_iff.1 g);have b:=(NY n d [] (by simp[Hs]) (by simp[Jb]) d2 z? j).1;refine⟨_,_,rfl,.inl ⟨rfl,a,f,g2,⟨λh=>?_,λh=>?_⟩, ?_⟩⟩;simp only at h;rw[<- h];exact b;have e:=d3 (YD h);subst e;have:=mrg_id l.l [] (by simpa using h);simpa using this;have:=(NZ d []).1;have:=d1.length_eq;simp only[r?]at*;omega;rw[X v?];exact⟨_,_,rfl,.inr ⟨by decide,λk=>f k.2.1⟩⟩
theorem equal_L0(a b:C qm)(hl:a.l.length=b.l.length)(h60:a.l.length<2^60): ∀(k i:U),i+k=a.l.length-> ∃t:Bool,kI (a,b,(a.l.length:Z),(i:Z))=W (if t=Q then .inr ()else .inl T)/\(t=Q↔a.l.drop i=b.l.drop i):=by intro k;induction k with|zero=>intro i h;rw[kI.eq_1,Y v?];refine⟨Q,rfl,λ_=>?_,λ_=>rfl⟩;rw[l_ o?,l_ o?]|succ k o=>(intro i h;obtain⟨x,f⟩:=gl (l:=a.l) (k:=i) o?;obtain⟨y,e⟩:=gl (l:=b.l) (k:=i) o?;obtain⟨t,g1,g2⟩:=o (i+1) o?;have ex:a.l.drop i=x::a.l.drop (i+1):=by obtain⟨d,rfl⟩:=qK f;exact X! d);(have p:b.l.drop i=y::b.l.drop (i+1):=by obtain⟨d,rfl⟩:=qK e;exact X! d);rw[kI.eq_1,X v?,J f,J e,ws (k:=i) o?,ex,p];simp only[L,P,g1];cases x with|mk n m=>cases y with|mk j g=>by_cases c:n=j/\m=g;obtain⟨rfl,rfl⟩:=c;rw[Y z?];exact⟨t,rfl,g2.trans ⟨λh=>by rw[h],λh=>by simpa using h⟩⟩;rw[X v?];refine⟨T,rfl,λh=>(by cases h),λh=>?_⟩;simp only[V.cons.injEq,qm.mk.injEq]at h;exact N h.1 c
theorem equal_ok(a b:C qm)(d:a.l.length<2^60): ∃t:Bool,nP a b=W t/\(t=Q↔a.l=b.l):=by unfold nP;by_cases c:a.l.length=b.l.length;(rw[Y v?];obtain⟨t,g1,g2⟩:=equal_L0 a b c d _ 0 (U.zero_add _);rw[show ((0:U):Z)=0 from rfl]at g1;rw[g1];simp only[V.drop_zero]at g2;cases t with|false=>exact⟨T,rfl,g2⟩|true=>exact⟨Q,rfl,g2⟩);rw[X v?];exact⟨T,rfl,λh=>(by cases h),λh=>N (congrArg V.length h) c⟩
end Xr
namespace Xr
theorem psortE(e:K):vW ⟨T,[e]⟩=W (.inr [e]):=by obtain⟨v,E,a,v2,v3,v4⟩:=RH ⟨T,[e]⟩ z? z?;have b:E=[e]:=V.perm_singleton.1 v3;subst b;rcases v2 with ⟨_,h⟩|rfl;cases h;exact a
theorem prevE(e:K):xx [e]=W [e]:=by unfold xx;rw[xo.eq_1,Y (by rw[show (([e].length:U):Z)-1=0 from rfl];decide)];rfl
theorem Bs(e:K)(n:Z)(a:uX e n)(qp:Z)(h0:0<=qp)(h1:qp<=n)(right:Bool):cI qp right ⟨T,[e]⟩=W (mv e.span.qG e.span.to e.text.length right qp):=by
 have:=a.a0;have:=a.ab;have:=a.bn;have:=a.len;have:=a.nn;have d:M.wrap ((0:Z)+1)=1:=by decide
 have f: ∀x:Z,kf (x,right,1,1,[e])=W x:=λx=>by rw[kf.eq_1,Y (by decide)]
 unfold cI;rw[psortE];simp only[L,P,prevE];rw[kf.eq_1,X z?,show qk [e] (0:Z)=W e from J (k:=0) rfl];simp only[L,P,b?,r?,d,tQ];rw[show (((0+1:U)):Z)=1 from rfl];simp only[f];rw[A (n:=e.span.to-e.span.qG) o? o?,A (n:=(e.text.length:Z)-(e.span.to-e.span.qG)) o? o?,A (n:=e.span.qG+(e.text.length:Z)) o? o?,A (n:=qp+((e.text.length:Z)-(e.span.to-e.span.qG))) o? o?];unfold mv;by_cases b:qp<e.span.qG;simp[b];by_cases c:qp>e.span.to;simp[b,c];cases right<;>simp[b,c]
theorem pmovL(e:K)(n:Z)(a:uX e n)(q:C qm)(hq:q.l.length<=2^19)(hn:Jb n q.l): ∀(r:V qm)(i:U)(out:V qm),q.l.drop i=r->out.length=i->tc (⟨T,[e]⟩,q,(q.l.length:Z),(i:Z),out)=W (out++r.map (sT e)):=by intro r;induction r with|nil=>intro i out h _;have:=zd h;rw[tc.eq_1,Y v?];simp|cons x r c=>intro i out h ho;obtain⟨b,d,h3⟩:=zx h;have hx:=hn x (zj b);have hs:=QQ x;rw[tc.eq_1,X v?,J b,ws o?];simp only[L,P];rw[Bs e n a x.anchor o? o?,Bs e n a x.head o? o?];simp only[P];rw[X qC,show qm.mk (mv e.span.qG e.span.to e.text.length Q x.anchor) (mv e.span.qG e.span.to e.text.length Q x.head)=sT e x from rfl,c (i+1) (out++[sT e x]) d v?];simp
structure X0 (n:Z) (q:C qm):Prop where
 ne:q.l≠[]
 qn:q.nil=T
 Kb:q.l.length<=64
 Gr:Hs q.l
 Zj:Jb n q.l
theorem FG(e:K)(a:e.span.qG<=e.span.to)(s:qm):vA (sT e s)=⟨mv e.span.qG e.span.to e.text.length Q (vA s).qG,mv e.span.qG e.span.to e.text.length Q (vA s).to⟩:=by have m1:= @a8 e.span.qG e.span.to e.text.length a o? Q s.anchor s.head;have m2:= @a8 e.span.qG e.span.to e.text.length a o? Q s.head s.anchor;unfold vA sT;simp only[qg.mk.injEq];constructor;(split<;>split<;>first|rfl|omega);split<;>split<;>first|rfl|omega
theorem L5(e:K)(c:e.span.qG<=e.span.to){l:V qm}(h:Hs l):(l.map (sT e)).Pairwise NN:=by rw[N_];refine h.imp λ{a b} hh=>?_;unfold NN Un;rw[FG e c,FG e c];have d:=sK b;have m1:= @a8 e.span.qG e.span.to e.text.length c o? Q (vA a).qG (vA a).to (sK a);have m2:= @a8 e.span.qG e.span.to e.text.length c o? Q (vA a).to (vA b).qG o?;have m3:= @a8 e.span.qG e.span.to e.text.length c o? Q (vA b).qG (vA b).to d;simp only;omega
theorem Lo(e:K)(n:Z)(f:uX e n)(q:C qm)(c:X0 n q): ∃q',r9 q [e]=W q' /\X0 (n+(e.text.length-(e.span.to-e.span.qG))) q' :=by
 have b:=c.Kb;have i:=pmovL e n f q o? c.Zj q.l 0 [] rfl rfl;rw[show ((0:U):Z)=0 from rfl]at i;unfold r9;rw[i];simp only[L,P,M?];have hs:=L5 e f.ab c.Gr;have j:q.l.map (sT e)≠[]:=by simpa using c.ne
 obtain⟨d,d1,d2,d3,d4⟩:=Rv ⟨(q.l.map (sT e)).isEmpty,q.l.map (sT e)⟩ (by simpa using b) (by simp only;exact M1 j) (.inr hs);have h:d=q.l.map (sT e):=d3 hs;rw[d4];have o:Jb (n+(e.text.length-(e.span.to-e.span.qG))) (q.l.map (sT e)):=by intro y m;obtain⟨x,g,rfl⟩:=V.mem_map.1 m;have i:=c.Zj x g;have h2:=sK x;rw[FG e f.ab];have h3:=M0 e n f (vA x).qG o? o?;have h4:=M0 e n f (vA x).to o? o?;simp only;omega
 have k:=NY _ d [] .nil (by intro x g;cases g) d2 z? (by rw[h];exact o);have hlen:=NZ d [];have hdl:d.length=q.l.length:=by rw[h];simp
 have a:NX [] d≠[]:=hlen.2 (.inr (by rw[h];exact j));exact⟨_,rfl,a,M1 a,by have:=hlen.1;simp only[r?]at this;simp only;omega,k.1,k.2⟩
end Xr
namespace Xr
abbrev WO(w:World):=Af rA w.1 w.2.1 w.2.2.1 w.2.2.2
theorem Af.take{w:World}(h:WO w)(n:U):Af rA w.1 w.2.1 (w.2.2.1.take n) ⟨w.2.2.2.nil,w.2.2.2.l.take n⟩:=by
 have get: ∀(j:U) s,(w.2.2.1.take n)[j]? =W s->w.2.2.1[j]? =W s:=λj s hs=>by exact tW
 refine⟨h.blen,h.ne,h.qn,h.Kb,h.Gr,h.Zj,by have:=h.dJ;simp;omega,λs hs=>h.small s (U? hs),λs hs=>h.may s (U? hs),by simp[h.U0],λc=>h.fnn λd=>c (by rw[d];simp), ?_,λs hs=>h.stop s (U? hs)⟩;intro j s f hs a;have b:=(qK a).1;simp at b;simp only at a;rw[G? o?]at a;exact h.each j s f (get j s hs) a
theorem lead_L2(n:U)(l:C K)(g:Z)(P8:0<=g/\g<=65536)(hT:wa l.l<=2^36)(R: ∀e∈l.l,0<=e.span.qG/\e.span.qG<=e.span.to)(y:l.l.Pairwise λa b=>a.span.to<=b.span.qG)(OD:l.l.length<=2^20):
  ∀(k:U)(w:World),k<=l.l.length->WO w->w.2.2.1.length=n->(w.1.length:Z)=g+dO (l.l.drop k)->(∀ e∈l.l.take k,e.span.to<=w.1.length)->
  B (jD ((n:Z),l,(k:Z)-1,w.1,w.2.1,w.2.2.1,w.2.2.2)) (λv:World=>WO v/\(v.1.length:Z)=g+dO l.l/\Vu w v):=by
 intro k;induction k with
  |zero=>intro w _ f _ hlen _;rw[jD.eq_1,Y z?];exact .ret ⟨f,by simpa using hlen,.refl w⟩
  |succ k ih=>
   (intro w hk f p hlen q;obtain⟨e,d⟩:=gl (l:=l.l) (k:=k) o?;have t:=zj d;have hei:=R e t;have I:l.l.drop k=e::l.l.drop (k+1):=by have Ka:=(qK d).1;rw[X! Ka];rw[yc Ka]at d;cases d;rfl);(have r:e∈l.l.take (k+1):=by rw[V.take_add_one,d];simp);(have eg:=q e r;have h: ∀j,wa (l.l.drop j)<=wa l.l:=by intro j;have:=H! j l.l;have h5:=congrArg wa this;simp only[wa,V.map_append,V.sum_append]at h5 |-;omega);(have hsg:=sumG_le (n:=0) (l.l.drop (k+1)) λe' E=>(R e' (V.mem_of_mem_drop E)).2;have ht1:=h (k+1);have ht0:=h k;have het:e.text.length<=wa (l.l.drop k):=by rw[I];simp only[wa,e?,g!];omega);(have z:uX e w.1.length:=⟨o?,o?,o?,o?,o?⟩;have c: ∀(v:World),WO v->v.1=newText w.1 e->Vu w v->B (jD ((n:Z),l,(k:Z)-1,v.1,v.2.1,v.2.2.1,v.2.2.2)) (λv:World=>WO v/\(v.1.length:Z)=g+dO l.l/\Vu w v):=by intro v hv ht hs;have TT:=Xp w.1 e z;rw[<- ht]at TT;refine(ih v o? hv (by rw[hs.len];exact p) ?_ ?_).mono λu hu=>⟨hu.1,hu.2.1,hs.trans hu.2.2⟩;rw[I];simp only[dO,e?,g!,gE]at hlen |-;omega;(intro e' E;obtain⟨j,m⟩:=kS E;have Hk:j<k:=by have:=(qK m).1;simp at this;omega);rw[G? Hk]at m;have TN:=(qK m).1;have H:=(qK d).1;have:=t!.1 y j k TN H Hk;rw[yc TN]at m;rw[yc H]at d;cases m;cases d;omega);rw[show ((k+1:U):Z)-1=(k:Z) by omega,jD.eq_1,X z?,show M.wrap ((k:Z)-1)=(k:Z)-1 from A o? o?];have Ay:=f.dJ;by_cases hn:0<n
   ·obtain⟨s,hs⟩:=gl (l:=w.2.2.1) (k:=n-1) o?;rw[X (by simpa using hn),show M.wrap ((n:Z)-1)=((n-1:U):Z)from by rw[A o? o?];omega];refine .go (J hs) ?_;refine .go (J d) ?_;refine .bind (WI s e.span (f.small s (zj hs))) λo ho=>?_;obtain⟨v,g1,g2⟩:=Dh XA f z o? ((n-1:U):Z) o.1 o.2 Q (by
     rcases ho with rfl|ho
     ·exact .inl ⟨rfl,rfl⟩
     have:=ho.nat
     obtain⟨a',k',i,x,q1,q2,q3,q4,_,_,q5⟩:=ho
     exact .inr ⟨n-1,s,rfl,hs,o?,.inr ⟨a',k',i,x,q1,q2,q3,q4,q5⟩⟩)
    refine .go g1 ?_;exact c v g2.ok g2.text ⟨g2.len,g2.cur⟩
   rw[Y (by simpa using hn)];refine .go (J d) ?_;obtain⟨v,g1,g2⟩:=Dh XA f z o? (M.wrap ((n:Z)-1)) (-1) (-1) Q (.inl ⟨rfl,rfl⟩);refine .go g1 ?_;exact c v g2.ok g2.text ⟨g2.len,g2.cur⟩
theorem lead_L0(es:C K)(d:es.l.length<2^60)(w:D)(w2:C qm)(a:V qb)(fl:C (C (C Z)))(hs: ∀s∈a,jY s)(Ay:a.length<=16): ∀k,k<=a.length->B (wm (es,(k:Z),w,w2,a,fl)) (λv=> ∃n:U,v=n/\n<=k):=by intro k;induction k with|zero=>intro _;rw[wm.eq_1,Y z?];exact .ret ⟨0,rfl,ke _⟩|succ k ih=>intro hk;obtain⟨s,c⟩:=gl (l:=a) (k:=k) o?;rw[wm.eq_1,X (by simp<;>omega),show M.wrap (((k+1:U):Z)-1)=(k:Z)from by rw[A o? o?];omega];refine .go (J c) ?_;refine .bind (q0r s es (hs s (zj c)) d) λb _=>?_;refine .ite (λ_=>?_) λ_=> .ret ⟨k+1,rfl,ke _⟩;exact tW
structure Led (w:World) (es:V K) (v:World):Prop where
 ok:WO v
 text:(v.1.length:Z)=w.1.length+dO es
 len:v.2.2.1.length<=w.2.2.1.length
 cur: ∀(j:U) s',v.2.2.1[j]? =W s' -> ∃s,w.2.2.1[j]? =W s/\s'.cur=s.cur
theorem az(w:World)(d:WO w)(hn:w.1.length<=65536)(es:C K)(i:Y0 w.1.length es.l)(q:wa es.l<=2^36)(hl:es.l.length<=2^19):B (gK es w.1 w.2.1 w.2.2.1 w.2.2.2) (Led w es.l):=by
 have a:=cL (·.span) es.l [];simp only[M?]at a;have ee:=a.length_eq;unfold gK;refine .bind (lead_L0 es o? w.1 w.2.1 w.2.2.1 w.2.2.2 d.small d.dJ w.2.2.1.length (ke _)) λv p=>?_;obtain⟨n,rfl,b⟩:=p;refine .go (VC _ _ b) ?_;refine .go (VC _ _ (by rw[d.U0];exact b)) ?_;refine .go (Sf es o?) ?_;have x:=d.take n;have o: ∀e∈k8 (·.span) [] es.l,Db w.1.length e.span:=λe c=>i.Zj e (a.mem_iff.1 c);have f:dO ((k8 (·.span) [] es.l).drop (k8 (·.span) [] es.l).length)=0:=by simp[dO]
 have h:=lead_L2 n ⟨(k8 (·.span) [] es.l).isEmpty,k8 (·.span) [] es.l⟩ w.1.length o? (by simp only;rw[q0w a];exact q) (λe c=>by have:=o e c;unfold Db at this;omega) i.apart u?
  (k8 (·.span) [] es.l).length (w.1,w.2.1,w.2.2.1.take n,⟨w.2.2.2.nil,w.2.2.2.l.take n⟩) (ke _) x v? (by simp only;rw[f];omega) (λe c=>by have:=o e (U? c);unfold Db at this;exact this.2.2)
 rw[A (n:=((k8 (·.span) [] es.l).length:Z)-1) o? o?];refine .bind h λu hu=> .ret ?_;change Led w es.l u;obtain⟨r,m,g⟩:=hu;simp only[q0v a]at m;refine⟨r,m, ?_, ?_⟩;have:=g.len;exact tW;intro j s' t;have hj:=(qK t).1;have hlen:=g.len;simp only[t_]at hlen;obtain⟨s,hs⟩:=gl (l:=w.2.2.1) (k:=j) o?;have y:(w.2.2.1.take n)[j]? =W s:=by rw[G? o?];exact hs
 obtain⟨s2,k1,k2⟩:=g.cur j s y;exact tW
end Xr
end Go.Proofs.YtadahlbndbmdeaaGreat
