/-
  FollowMay: may any state be? The program's answer is the document's.
-/
import Derived.Test.YtnfdnckadgcifaaGreatQbg
import Derived.Test.YtnfdnckadgcifaaGreatQae
import Derived.Test.YtnfdnckadgcifaaGreatQbe
open Bool renaming or_eq_true->j!,not_eq_true'->O!,true_and->V_,not_true->q15
open Go.IntKind renaming i64->q?,u64->n?,signed->s_,bits->X_,wrap->L_
open Go.Proofs.YtnfdnckadgcifaaGreat.qM renaming go->X'
open Int renaming natCast_zero->S_
open List renaming length_set->y?,length_cons->b?,length_nil->f?,getElem?_take_of_lt->V?,length_pos_iff->M?,pairwise_cons->w!,mem_or_eq_of_mem_set->n!,drop_eq_getElem_cons->Z!,drop_of_length_le->e_,drop_zero->V'
open Nat renaming strongRecOn->r?,add_sub_cancel->w_
set_option linter.unusedSimpArgs false
set_option linter.unusedVariables false
namespace Go.Proofs.YtnfdnckadgcifaaGreat
open Go Go.Gm
namespace Xr
theorem S9(x y:Int):uX x y=some (if x<y then-1 else if x>y then 1 else 0):=by unfold uX pU;by_cases h1:x<y;simp[h1];by_cases h2:y<x;simp[h1,h2];simp[h1,h2]
theorem or2_tot(a b:Int):fc [a,b]=some (if a≠0 then a else b):=by unfold fc;rw[gK.eq_1];by_cases h1:a=0;(subst h1;have e:q?.wrap (0+1)=1:=by decide);(simp only[b?,f?,e];rw[gK.eq_1];have e2:q?.wrap (1+1)=2:=by decide);by_cases h2:b=0;subst h2;simp only[e2,qh];rw[gK.eq_1];simp;simp[qh,h2];simp[qh,h1]
def Fx(a b:qk):Prop:=a.qO<b.qO\/a.qO=b.qO/\a.to<=b.to
def Hn(a b:qm):Prop:=Fx (vq a) (vq b)
theorem V5(x y:qm): ∃c,yM x y=some c/\(c<0↔ ¬Hn y x):=by unfold yM;simp only[show ∀s,pt s=some (vq s)from fun s=>rfl,zP,qV];rw[S9,S9];simp only[qV,or2_tot];refine⟨_,rfl, ?_⟩;unfold Hn Fx;generalize vq x=a;generalize vq y=b;by_cases h1:a.qO<b.qO;simp[h1]<;>omega;by_cases h2:a.qO>b.qO;simp[h1,h2];have:a.qO=b.qO:=o?;rw[this];by_cases h3:a.to<b.to;simp[h3];by_cases h4:a.to>b.to;simp[h3,h4]<;>omega;simp[h3,h4]<;>omega
theorem leS_tot{x y:qk}(h: ¬Fx y x):Fx x y:=by unfold Fx at *; omega
theorem Fy{x y z:qk}(h1:Fx x y)(h2:Fx y z):Fx x z:=by unfold Fx at *; omega
theorem insSel(d:List qm)(hn:d.length<2^30):qM (qY 0 (d.length:Int) d) (fun out=>out.Perm d/\out.Pairwise Hn):=
 ins_all (L2:=qP) (L0:=qI) (le:=Hn) V5 (fun _ _ h=>leS_tot h) (fun _ _ _=>Fy) (fun a b i j data=>by rw[qP.eq_1]) (fun a b i data=>by rw[qI.eq_1])
  (fun _ _ _=>rfl) d hn
section
variable (d:List qm) (hd:d.Pairwise Hn) (hn:d.length<=2^20)
include hd in
theorem Ko{j k:Nat}{x y:qm}(h:j<=k)(hx:d[j]? =some x)(hy:d[k]? =some y): ∃c,yM y x=some c/\decide (c<0)=false:=by
 obtain⟨c,h1,h2⟩:=V5 y x;refine⟨c,h1, ?_⟩;have:Hn x y:=by by_cases e:j=k;subst e;rw[hx]at hy;cases hy;unfold Hn Fx;omega;obtain⟨hk,rfl⟩:=qL hy;obtain⟨hj,rfl⟩:=qL hx;exact(List.pairwise_iff_getElem.1 hd) j k hj hk o?
 simp only[decide_eq_false_iff_not];intro hc;exact h2.1 hc this
include hd hn in
theorem insS_L2(a b i:Int)(j:Nat)(hj:j<d.length)(ha:0<=a):qP (a,b,i,(j:Int),d)=some d:=by rw[qP.eq_1];by_cases c:(j:Int)>a;obtain⟨x,hx⟩:=gl hj;obtain⟨y,hy⟩:=gl (l:=d) (k:=j-1) o?;obtain⟨v,v1,v2⟩:=Ko d hd o? hy hx;rw[if_pos (by simpa using c),gi hx,show q?.wrap ((j:Int)-1)=((j-1:Nat):Int)from by rw[qB o? o?];omega,gi hy];simp only[zP,qV,v1];rw[v2];rfl;rw[if_neg (by simpa using c)]
include hd hn in
theorem insS_L0(a b:Int)(ha:0<=a)(hb:b<=d.length): ∀(n i:Nat),i+n=d.length->qI (a,b,(i:Int),d)=some d:=by intro n;induction n with|zero=>intro i h;rw[qI.eq_1,if_neg v?]|succ n ih=>intro i h;rw[qI.eq_1];by_cases c:(i:Int)<b;rw[if_pos (by simpa using c),insS_L2 d hd hn a b _ i o? ha];simp only[zP,qV];rw[ws o?];exact ih (i+1) o?;rw[if_neg (by simpa using c)]
include hd hn in
theorem insS(a:Nat)(b:Int)(hb:b<=d.length)(ha:a<=d.length):qY (a:Int) b d=some d:=by unfold qY;rw[ws o?];by_cases c:a+1<=d.length;rw[insS_L0 d hd hn a b o? hb (d.length-(a+1)) (a+1) o?];rfl;rw[qI.eq_1,if_neg v?];rfl
theorem half{x y:Nat}(h:x+y<=2^22):q?.wrap ((n?.wrap (q?.wrap ((x:Int)+(y:Int)))).fdiv (2^(min ((1:Int)).toNat 64)))=(((x+y) / 2:Nat):Int):=by
 rw[qB (n:=(x:Int)+y) o? o?];have e:n?.wrap ((x:Int)+y)=(x:Int)+y:=by simp only[L_,X_,s_];simp;omega
 have e2:(2:Int)^(min ((1:Int)).toNat 64)=2:=by decide
 rw[e,e2,Int.fdiv_eq_ediv_of_nonneg _ o?,qB o? o?];omega
include hd hn in
theorem sym_L0(a:Nat): ∀(n i j:Nat),n=j-i->a<i->i<=d.length->j<=d.length->zg ((a:Int),(i:Int),(j:Int),d)=some (i:Int):=by intro n;induction n using r? with|_ n ih=>intro i j hm h0 h1 h2;rw[zg.eq_1];by_cases c:i<j;obtain⟨x,hx⟩:=gl (l:=d) (k:=(i+j) / 2) o?;obtain⟨y,hy⟩:=gl (l:=d) (k:=a) o?;obtain⟨v,v1,v2⟩:=Ko d hd (j:=a) (k:=(i+j) / 2) o? hy hx;rw[if_pos (by simpa using c),half o?,gi hx,gi hy];simp only[zP,qV,v1];rw[v2];exact ih _ o? i ((i+j) / 2) rfl h0 h1 o?;rw[if_neg (by simpa using c)]
include hd hn in
theorem sym_L4(m:Nat)(hm:m<d.length): ∀(n i:Nat),n=m-i->i<=m->zi ((m:Int),(i:Int),(m:Int),d)=some (m:Int):=by intro n;induction n using r? with|_ n ih=>intro i hi h0;rw[zi.eq_1];by_cases c:i<m;obtain⟨x,hx⟩:=gl (l:=d) (k:=(i+m) / 2) o?;obtain⟨y,hy⟩:=gl (l:=d) (k:=m) o?;obtain⟨v,v1,v2⟩:=Ko d hd (j:=(i+m) / 2) (k:=m) o? hx hy;rw[if_pos (by simpa using c),gi hy,half o?,gi hx];simp only[zP,qV,v1];rw[v2,ws o?];exact ih _ o? ((i+m) / 2+1) rfl o?;rw[if_neg (by simpa using c)];have:i=m:=o?;rw[this]
include hd hn in
theorem sym_L8(a m b mid n:Int)(r p:Nat)(hp:p<2^22)(hr:r<=d.length)(hpr:2*r<=p+2): ∀(k s:Nat),k=r-s->s<=r->p<d.length+s->z7 (a,m,b,mid,n,(s:Int),(r:Int),(p:Int),d)=some (r:Int):=by intro k;induction k using r? with|_ k ih=>intro s hk h0 h1;rw[z7.eq_1];by_cases c:s<r;obtain⟨x,hx⟩:=gl (l:=d) (k:=(s+r) / 2) o?;obtain⟨y,hy⟩:=gl (l:=d) (k:=p-(s+r) / 2) o?;obtain⟨v,v1,v2⟩:=Ko d hd (j:=(s+r) / 2) (k:=p-(s+r) / 2) o? hx hy;rw[if_pos (by simpa using c),half o?,show q?.wrap ((p:Int)-(((s+r) / 2:Nat):Int))=((p-(s+r) / 2:Nat):Int)from by rw[qB o? o?];omega,gi hy,gi hx];simp only[zP,qV,v1];rw[v2,ws o?];exact ih _ o? ((s+r) / 2+1) rfl o? o?;rw[if_neg (by simpa using c)];have:s=r:=o?;rw[this]
include hd hn in
theorem sym_id: ∀(k a m b:Nat),k=b-a->a<m->m<b->b<=d.length->qv ((a:Int),(m:Int),(b:Int),d)=some d:=by intro k;induction k using r? with|_ k ih=>intro a m b hk h1 h2 h3;rw[qv.eq_1];simp only[half (x:=a) (y:=b) o?];rw[qB (n:=(m:Int)-a) o? o?,qB (n:=(b:Int)-m) o? o?];by_cases c1:m=a+1;rw[if_pos v?,sym_L0 d hd hn a _ m b rfl h1 o? h3];simp only[zP,qV];rw[zh.eq_1,qB o? o?,if_neg v?];rfl;rw[if_neg v?];by_cases c2:b=m+1;rw[if_pos v?,sym_L4 d hd hn m o? _ a rfl o?];simp only[zP,qV];rw[zj.eq_1,if_neg z?];rfl;(rw[if_neg v?];have hM:q?.wrap ((((a+b) / 2:Nat):Int)+m)=(((a+b) / 2+m:Nat):Int):=by rw[qB o? o?];omega);simp only[hM];generalize hmid:(a+b) / 2=mid at*;(have hP:q?.wrap (((mid+m:Nat):Int)-1)=((mid+m-1:Nat):Int):=by rw[qB o? o?];omega);simp only[hP];by_cases c3:m>mid;(rw[if_pos v?,show q?.wrap (((mid+m:Nat):Int)-b)=((mid+m-b:Nat):Int)from by rw[qB o? o?];omega,sym_L8 d hd hn _ _ _ _ _ mid (mid+m-1) o? o? o? _ (mid+m-b) rfl o? o?];simp only[zP,qV];have hE:q?.wrap (((mid+m:Nat):Int)-mid)=(m:Int):=by rw[qB o? o?];omega);simp only[hE];rw[if_neg z?,if_neg z?,if_pos v?,ih _ o? mid m b rfl o? o? h3];rfl;(rw[if_neg v?,sym_L8 d hd hn _ _ _ _ _ m (mid+m-1) o? o? o? _ a rfl o? o?];simp only[zP,qV];have hE:q?.wrap (((mid+m:Nat):Int)-m)=(mid:Int):=by rw[qB o? o?];omega);simp only[hE];by_cases c4:m<mid;rw[if_neg z?,if_pos v?,ih _ o? a m mid rfl o? o? o?];simp only[qV];rw[if_neg z?];rw[if_neg z?,if_neg v?,if_neg z?]
include hd hn in
theorem stab_L0: ∀(k a:Nat),k=d.length-a->a<=d.length->qM (qX ((d.length:Int),20,(a:Int),((a+20:Nat):Int),d)) (fun r=>r.2=d/\ ∃q:Nat,r.1=q/\q<=d.length):=by intro k;induction k using r? with|_ k ih=>intro a hk h0;rw[qX.eq_1];by_cases c:a+20<=d.length;rw[if_pos v?,insS d hd hn a _ o? h0];simp only[zP,qV];rw[show q?.wrap (((a+20:Nat):Int)+20)=((a+20+20:Nat):Int)from by rw[qB o? o?];omega];exact ih _ o? (a+20) rfl c;rw[if_neg v?];exact .ret ⟨rfl,a,rfl,h0⟩
include hd hn in
theorem stab_L4(s:Nat)(hs:0<s)(Fj:s<=2^20): ∀(k a:Nat),k=d.length-a->a<=d.length->qM (zb ((d.length:Int),(s:Int),(a:Int),((a+2*s:Nat):Int),d)) (fun r=>r.2=d/\ ∃q:Nat,r.1=q/\q<=d.length):=by intro k;induction k using r? with|_ k ih=>intro a hk h0;rw[zb.eq_1];by_cases c:a+2*s<=d.length;rw[if_pos v?,show q?.wrap ((a:Int)+s)=((a+s:Nat):Int)from by rw[qB o? o?];omega,sym_id d hd hn _ a (a+s) (a+2*s) rfl o? o? c];simp only[zP,qV];rw[qB (n:=2*(s:Int)) o? o?,show q?.wrap (((a+2*s:Nat):Int)+2*(s:Int))=((a+2*s+2*s:Nat):Int)from by rw[qB o? o?];omega];exact ih _ o? (a+2*s) rfl c;rw[if_neg v?];exact .ret ⟨rfl,a,rfl,h0⟩
include hd hn in
theorem stab_L2: ∀(k s:Nat),k=d.length-s->0<s->s<=2^20\/s<=2*d.length->qT ((d.length:Int),(s:Int),d)=some d:=by intro k;induction k using r? with|_ k ih=>intro s hk h0 h1;rw[qT.eq_1];by_cases c:s<d.length;rw[if_pos v?,show q?.wrap (2*(s:Int))=((0+2*s:Nat):Int)from by rw[qB o? o?];omega];obtain⟨v,v1,v2,q,v3,v4⟩:=stab_L4 d hd hn s h0 o? _ 0 rfl o?;rw[show ((0:Nat):Int)=0 from rfl]at v1;rw[v1];simp only[zP,qV,v2,v3];rw[show q?.wrap ((q:Int)+s)=((q+s:Nat):Int)from by rw[qB o? o?];omega,show q?.wrap ((s:Int)*2)=((s*2:Nat):Int)from by rw[qB o? o?];omega];have hi:=ih _ o? (s*2) rfl o? o?;by_cases c2:q+s<d.length;rw[if_pos v?,sym_id d hd hn _ q (q+s) d.length rfl o? c2 o?];simp only[qV];exact hi;rw[if_neg v?];exact hi;rw[if_neg v?]
include hd hn in
theorem sort_id:z6 d=some d:=by unfold z6 zI;obtain⟨v,v1,v2,q,v3,v4⟩:=stab_L0 d hd hn _ 0 rfl o?;rw[show ((0:Nat):Int)=0 from rfl,show((0+20:Nat):Int)=20 from rfl]at v1;rw[v1];simp only[zP,qV,v2,v3];rw[insS d hd hn q _ o? v4];simp only[qV];have:=stab_L2 d hd hn _ 20 rfl o? o?;rw[show ((20:Nat):Int)=20 from rfl]at this;rw[this];rfl
end
theorem sort_few(d:List qm)(hn:d.length<20):qM (z6 d) (fun out=>out.Perm d/\out.Pairwise Hn):=by unfold z6 zI;rw[qX.eq_1,if_neg v?];obtain⟨out,h1,h2⟩:=insSel d o?;simp only[zP,qV,h1];rw[qT.eq_1,if_neg v?];exact⟨out,rfl,h2⟩
end Xr
namespace Xr
theorem spanP(s:qm):pt s=some (vq s):=rfl
theorem order_L0(d:List qm)(hd:d.length<=2^20): ∀(r:List qm)(i:Nat)(out:List qm),d.drop i=r->out.length<=i->wo ((d.length:Int),(i:Int),d,out)=some (GA out r):=by intro r;induction r with|nil=>intro i out h _;have:=zt h;rw[wo.eq_1,if_neg v?];rfl|cons x r ih=>intro i out h ho;obtain⟨h1,h2,h3⟩:=zH h;rw[wo.eq_1,if_pos v?,gi h1];have step:=ih (i+1) (eB out x) h2 (by have:=WG out x;omega);show _=some (GA (eB out x) r);simp only[zP,qV];rw[ws o?,<- step];by_cases c:0<out.length;(obtain⟨y,hy⟩:=gl (l:=out) (k:=out.length-1) o?;have hl:out.getLast? =some y:=by rw[List.getLast?_eq_getElem?];exact hy);(have hw:q?.wrap ((out.length:Int)-1)=((out.length-1:Nat):Int):=by rw[qB o? o?];omega);rw[hw,if_neg z?,gi hy];simp only[qV,spanP,oG,Int.toNat_natCast];unfold eB;rw[hl];simp only;by_cases t:iS (vq y) (vq x);have t' :=t;unfold iS at t';rw[if_neg (by simpa using t'),if_pos t];unfold join;by_cases e:y.head<y.anchor<;>simp[e];have t' :=t;unfold iS at t';rw[if_pos (by simpa using t'),if_neg t,if_pos qH];have e:out=[]:=List.eq_nil_of_length_eq_zero o?;subst e;rw[if_pos (by decide)];rw[if_pos (qH z? o?)];rfl
def Ky(l:List qm):Prop:=l.length<20\/l.Pairwise Hn
theorem leQ_iff(a b:qm):Hn a b↔Hm vq a b:=by unfold Hn Fx Hm sq;omega
theorem dY{l:List qm}(h:Yh l):l.Pairwise Hn:=h.imp fun{a b} eH=>by have:=cj a;have:=cj b;unfold Hn Fx;omega
theorem order_ok(l:Sl qm)(hl:l.l.length<=64)(hn:l.nil=false)(hs:Ky l.l): ∃d:List qm,d.Perm l.l/\d.Pairwise (Hm vq)/\(l.l.Pairwise Hn->d=l.l)/\au l=some ⟨(GA [] d).isEmpty,GA [] d⟩:=by
 unfold au mq;rw[hn];simp only[wH,if_false];rw[if_pos qH];simp only[zP,qV];obtain⟨d,h1,h2,h3,h4⟩: ∃d:List qm,z6 l.l=some d/\d.Perm l.l/\d.Pairwise Hn/\(l.l.Pairwise Hn->d=l.l):=by by_cases c:l.l.Pairwise Hn;exact⟨l.l,sort_id l.l c o?,.refl _,c,fun _=>rfl⟩;obtain⟨d,h1,h2,h3⟩:=sort_few l.l (hs.resolve_right c);exact⟨d,h1,h2,h3,fun h=>absurd h c⟩
 have hlen:=h2.length_eq;refine⟨d,h2,h3.imp fun{a b} eH=>(leQ_iff a b).1 eH,h4, ?_⟩;rw[h1];simp only[qV];have:=order_L0 d o? d 0 [] rfl z?;rw[show ((0:Nat):Int)=0 from rfl]at this;rw[this];rfl
theorem q05(n:Int)(l:Sl qm)(hl:l.l.length<2^60): ∀(r:List qm)(i:Nat),l.l.drop i=r-> ∃v,nL (n,l,l,(l.l.length:Int),(i:Int))=some v/\((v= .inl (⟨true,[]⟩,3)/\ ¬Zt n r)\/(v= .inr ()/\Zt n r)):=by intro r;induction r with|nil=>intro i h;have:=zt h;rw[nL.eq_1,if_neg v?];exact⟨_,rfl,.inr ⟨rfl,fun x hx=>by simp at hx⟩⟩|cons x r ih=>(intro i h;obtain⟨h1,h2,h3⟩:=zH h;have hx:=cj x;rw[nL.eq_1,if_pos v?,gi h1,ws o?];simp only[zP,qV,spanP];have hm:se (vq x) n=some (decide (0<=(vq x).qO/\(vq x).to<=n)):=by unfold se;by_cases c:0<=(vq x).qO;simp[c,hx];simp[c]);rw[hm];simp only[qV];by_cases c:0<=(vq x).qO/\(vq x).to<=n;rw[if_neg (by simpa using c)];obtain⟨v,g1,g2⟩:=ih (i+1) h2;refine⟨v,g1, ?_⟩;rcases g2 with ⟨g2,g3⟩|⟨g2,g3⟩;exact .inl ⟨g2,fun k=>g3 fun z hz=>k z (by simp[hz])⟩;refine .inr ⟨g2,fun z hz=>?_⟩;rcases List.mem_cons.1 hz with rfl|hz;exact c;exact g3 z hz;rw[if_pos (by simp only[O!,decide_eq_false_iff_not];exact c)];exact⟨_,rfl,.inl ⟨rfl,fun k=>c (k x z?)⟩⟩
theorem q06(n:Int)(l:Sl qm)(hl:l.l.length<2^60)(hn:l.nil=true->l.l=[])(hs:Ky l.l): ∃(q:Sl qm)(c:Int),iL n l=some (q,c)/\
  ((c=0/\l.l≠[]/\l.l.length<=64/\Zt n l.l/\(q.l=l.l↔Yh l.l)/\q.l.length<=l.l.length)\/(c≠0/\ ¬(l.l≠[]/\l.l.length<=64/\Zt n l.l))):=by unfold iL;by_cases c1:l.l=[];rw[if_pos (by simp[c1])];exact⟨_,_,rfl,.inr ⟨by decide,fun k=>k.1 c1⟩⟩;have hp:=M?.2 c1;rw[if_neg v?];by_cases c2:l.l.length<=64;rw[if_neg v?];obtain⟨v,g1,g2⟩:=q05 n l hl l.l 0 rfl;rw[show ((0:Nat):Int)=0 from rfl]at g1;rw[g1];rcases g2 with ⟨rfl,g2⟩|⟨rfl,g2⟩;exact⟨_,_,rfl,.inr ⟨by decide,fun k=>g2 k.2.2⟩⟩;(have hf:l.nil=false:=by cases h:l.nil with|false=>rfl|true=>exact absurd (hn h) c1);obtain⟨d,d1,d2,d3,d4⟩:=order_ok l c2 hf hs;simp only[zP,qV,d4];have dm:Zt n d:=fun x hx=>g2 x (d1.mem_iff.1 hx);have hap:=(SO n d [] (by simp[Yh]) (by simp[Zt]) d2 z? dm).1;refine⟨_,_,rfl,.inl ⟨rfl,c1,c2,g2,⟨fun h=>?_,fun h=>?_⟩, ?_⟩⟩;simp only at h;rw[<- h];exact hap;have e:=d3 (dY h);subst e;have:=LR l.l [] (by simpa using h);simpa using this;have:=(SP d []).1;have:=d1.length_eq;simp only[f?]at*;omega;rw[if_pos v?];exact⟨_,_,rfl,.inr ⟨by decide,fun k=>c2 k.2.1⟩⟩
theorem Om(a b:Sl qm)(hl:a.l.length=b.l.length)(Eb:a.l.length<2^60): ∀(k i:Nat),i+k=a.l.length-> ∃t:Bool,jP (a,b,(a.l.length:Int),(i:Int))=some (if t=true then .inr ()else .inl false)/\(t=true↔a.l.drop i=b.l.drop i):=by intro k;induction k with|zero=>intro i h;rw[jP.eq_1,if_neg v?];refine⟨true,rfl,fun _=>?_,fun _=>rfl⟩;rw[e_ o?,e_ o?]|succ k ih=>(intro i h;obtain⟨x,hx⟩:=gl (l:=a.l) (k:=i) o?;obtain⟨y,hy⟩:=gl (l:=b.l) (k:=i) o?;obtain⟨t,g1,g2⟩:=ih (i+1) o?;have ex:a.l.drop i=x::a.l.drop (i+1):=by obtain⟨hk,rfl⟩:=qL hx;exact Z! hk);(have ey:b.l.drop i=y::b.l.drop (i+1):=by obtain⟨hk,rfl⟩:=qL hy;exact Z! hk);rw[jP.eq_1,if_pos v?,gi hx,gi hy,ws (k:=i) o?,ex,ey];simp only[zP,qV,g1];cases x with|mk xa xh=>cases y with|mk ya yh=>by_cases c:xa=ya/\xh=yh;obtain⟨rfl,rfl⟩:=c;rw[if_neg z?];exact⟨t,rfl,g2.trans ⟨fun h=>by rw[h],fun h=>by simpa using h⟩⟩;rw[if_pos v?];refine⟨false,rfl,fun h=>(by cases h),fun h=>?_⟩;simp only[List.cons.injEq,qm.mk.injEq]at h;exact absurd h.1 c
theorem On(a b:Sl qm)(Eb:a.l.length<2^60): ∃t:Bool,gD a b=some t/\(t=true↔a.l=b.l):=by unfold gD;by_cases c:a.l.length=b.l.length;(rw[if_neg v?];obtain⟨t,g1,g2⟩:=Om a b c Eb _ 0 (Nat.zero_add _);rw[show ((0:Nat):Int)=0 from rfl]at g1;rw[g1];simp only[V']at g2;cases t with|false=>exact⟨false,rfl,g2⟩|true=>exact⟨true,rfl,g2⟩);rw[if_pos v?];exact⟨false,rfl,fun h=>(by cases h),fun h=>absurd (congrArg List.length h) c⟩
end Xr
end Go.Proofs.YtnfdnckadgcifaaGreat
namespace Go.Proofs.YtnfdnckadgcifaaGreat
namespace StM
open Go Go.Gm
theorem FN(i:qu)(k:Nat)(x:qt)(hk:qh i.stops.l k=some x)(u:Nat):u<i.stops.l.length->
  ∃t:Bool,kV (i.stops,(u:Int),x.up)=some (if t then .inl true else .inr ())/\
   jX ((k:Int),(u:Int),i)=some (if x.up==(u:Int) || t then .inl true else .inr ()):=by induction u using r? with|_ u ih=>intro L3;have hx:=xk L3;generalize i.stops.l[u]=y at hx;by_cases hv:0<=y.up/\y.up<u;obtain⟨v,MS⟩: ∃v:Nat,y.up=v:=⟨y.up.toNat,o?⟩;obtain⟨t,h1,h2⟩:=ih v o? o?;refine⟨(y.up==x.up) || t, ?_, ?_⟩;rw[kV.eq_1];by_cases e:y.up=x.up;(have e2:(y.up==x.up)=true:=by simpa using e);simp only[hx,zP,qV,e2];simp[L3,hv];(have e2:(y.up==x.up)=false:=by simpa using e);simp only[hx,zP,qV,e2];have hvu:v<u:=o?;simp[L3,MS,h1,hvu];rw[jX.eq_1];by_cases e:x.up=u;simp[hk,e];(have e2:(x.up==(u:Int))=false:=by simpa using e);(have hs:aw i u=some (v:Int):=by unfold aw;rw[hx];simp only[zP,qV];rw[if_pos (by simp[MS];omega),MS]);simp only[hk,hs,zP,qV,e2,h2];have:(x.up==(v:Int))=((v:Int)==x.up):=BEq.comm;simp[this,MS];refine⟨false, ?_, ?_⟩;rw[kV.eq_1];by_cases h:0<=y.up;have h2: ¬y.up<u:=fun h2=>hv ⟨h,h2⟩;simp[hx,L3,h,h2];simp[hx,L3,h];rw[jX.eq_1];by_cases e:x.up=u;simp[hk,e];(have e2:(x.up==(u:Int))=false:=by simpa using e);(have hs:aw i u=some (-1):=by unfold aw;rw[hx];simp only[zP,qV];rw[if_neg v?]);(have hn:jX ((k:Int),-1,i)=some (.inr ()):=by rw[jX.eq_1];rfl);simp only[hk,hs,zP,qV,e2,hn];simp
theorem Lf(l:Sl qt)(u:Nat)(b:Int):kV (l,(u:Int),b)=some (.inl true)->0<=b/\b<u:=by induction u using r? with|_ u ih=>intro h;rw[kV.eq_1]at h;by_cases L3:u<l.l.length;have hx:=xk L3;generalize l.l[u]=y at hx;simp only[hx,zP,qV]at h;by_cases hv:0<=y.up/\y.up<u;obtain⟨v,MS⟩: ∃v:Nat,y.up=v:=⟨y.up.toNat,o?⟩;by_cases e:y.up=b;omega;have hvu:v<u:=o?;simp[L3,MS,hvu]at h;have:=ih v o? (h o?);omega;by_cases h0:0<=y.up;have h2: ¬y.up<u:=fun h2=>hv ⟨h0,h2⟩;simp[L3,h0,h2]at h;simp[L3,h0]at h;simp[L3]at h
theorem TK(i:qu)(k:Nat)(x:qt)(hk:qh i.stops.l k=some x)(hl:i.stops.l.length<2^60):
  ∃t:Bool,gG i k=some t/\(t=true-> -1<=x.up/\x.up<k)/\
   (x.up= -1->t=true)/\(x.up≠ -1->0<=x.up->x.up<k->(x.up=(k:Int)-1->t=true)/\(x.up≠(k:Int)-1->th i.stops ((k:Int)-1) x.up=some t)):=by
 have pd:k<i.stops.l.length:=by have:=Q9 hk;simpa using this
 have hw:q?.wrap ((k:Int)-1)=(k:Int)-1:=qB o? o?;cases k with|zero=>refine⟨x.up== -1, ?_, ?_, ?_, ?_⟩;unfold gG;rw[hw,jX.eq_1];simp only[S_]at hk |-;simp[hk];intro h;simp at h;omega;intro h;simp[h];intro _ h1 h2;omega|succ k=>(obtain⟨t,h1,h2⟩:=FN i (k+1) x hk k o?;have e1:((k+1:Nat):Int)-1=(k:Int):=o?;have e2:q?.wrap (((k+1:Nat):Int)-1)=(k:Int):=by rw[hw,e1]);(have hu:t=true->0<=x.up/\x.up<k:=by intro ht;subst ht;exact Lf i.stops k x.up (by simpa using h1));refine⟨(x.up==(k:Int)) || t || (x.up== -1), ?_, ?_, ?_, ?_⟩;unfold gG;rw[e2,h2];by_cases e:(x.up==(k:Int) || t)=true;simp[e];(simp only[Bool.not_eq_true]at e;have Zs:qh i.stops.l ((k:Int)+1)=some x:=by simpa using hk);simp[e,Zs];intro h;simp only[j!,beq_iff_eq]at h;rcases h with (h|h)|h;omega;have:=hu h;omega;omega;intro h;simp[h];(intro h0 h3 h4;rw[e1];refine⟨fun h=>by simp[h],fun h=>?_⟩;unfold th;rw[h1];have:(x.up==(k:Int))=false:=by simpa using h);(have h5:(x.up==(-1:Int))=false:=by simpa using h0);cases t<;>simp[this,h5]
def de(x:qt):List qt->Bool
 |[]=>false
 |y::r=>(y.up==x.up&&decide (x.span.qO<y.span.to)) || de x r
theorem KQ(x:qt): ∀l:List qt,de x l=true↔ ∃(q:Nat)(y:qt),l[q]? =some y/\y.up=x.up/\x.span.qO<y.span.to
 |[]=>by simp[de]
 |y::r=>by simp only[de,j!,zU,beq_iff_eq,decide_eq_true_eq,KQ x r];constructor;rintro(h|⟨q,z,h⟩);exact⟨0,y,rfl,h⟩;exact⟨q+1,z,by simpa using h.1,h.2⟩;rintro⟨q,z,h1,h2⟩;cases q with|zero=>simp at h1;subst h1;exact .inl h2|succ q=>exact .inr ⟨q,z,by simpa using h1,h2⟩
theorem Rf(i:qu)(x:qt)(b:qk)(k:Nat)(hk:k<=i.stops.l.length)(hl:i.stops.l.length<2^60): ∀(n j:Nat),j+n=k->
  xO ((k:Int),(j:Int),i,x,b)=some (if de x ((i.stops.l.take k).drop j)=true then .inl false else .inr ()):=by intro n;induction n with|zero=>intro j hj;obtain rfl:j=k:=o?;rw[xO.eq_1];have:(i.stops.l.take j).drop j=[]:=z?;simp[this,de]|succ n ih=>(intro j hj;have N5:j<i.stops.l.length:=o?;have Vr:j<k:=o?;have hd:(i.stops.l.take k).drop j=i.stops.l[j]::(i.stops.l.take k).drop (j+1):=by rw[Z! v?];simp);have hw:q?.wrap ((j:Int)+1)=((j+1:Nat):Int):=px o?;have hx:=xk N5;rw[hd];generalize i.stops.l[j]=y at hx;rw[xO.eq_1];simp only[hx,zP,qV,hw,ih (j+1) o?,de];by_cases h1:y.up=x.up;by_cases h2:x.span.qO<y.span.to;simp[h1,h2,Vr];simp[h1,h2,Vr];simp[h1,Vr]
def Qb(i:qu)(x:qt):Bool:=
 if 0<=x.up then match i.stops.l[x.up.toNat]? with
  |some y=>decide (x.span.qO>=y.span.qO)&&decide (x.span.to<=y.span.to)
  |none=>false
 else decide (x.span.qO>=i.span.qO)&&decide (x.span.to<=i.span.to)
def q07(i:qu)(k:Nat)(x:qt)(t:Bool):Bool:=
 t&&decide (x.span.qO<=x.span.to)&& !(de x (i.stops.l.take k))&&Qb i x
theorem E5(a b:qk):xr a b=some (decide (a.qO>=b.qO)&&decide (a.to<=b.to)):=by unfold xr;by_cases h:a.qO>=b.qO<;>simp[h]
theorem RR(a b:qk):bS a b=some (decide (a.qO>=b.qO)&&decide (a.to<=b.to)):=by unfold bS;by_cases h:a.qO>=b.qO<;>simp[h]
theorem As(i:qu)(k:Nat)(hk:k<i.stops.l.length)(hl:i.stops.l.length<2^60):
  ∃t:Bool,gG i k=some t/\(t=true-> -1<=i.stops.l[k].up/\i.stops.l[k].up<k)/\
  zM ((k:Int),i)=if q07 i k i.stops.l[k] t=true then zM (((k+1:Nat):Int),i)else some (.inl false):=by
 have hx:=xk hk;generalize i.stops.l[k]=x at hx;obtain⟨t,h1,h2,h3,h4⟩:=TK i k x hx hl;refine⟨t,h1,h2, ?_⟩;have hw:q?.wrap ((k:Int)+1)=((k+1:Nat):Int):=px o?;have MT:q?.wrap ((k:Int)-1)=(k:Int)-1:=qB o? o?;have hb:=fun b=>Rf i x b k o? hl k 0 o?;simp only[S_,V']at hb;rw[zM.eq_1];simp only[hx,zP,qV,hw,MT,hb,E5];have xS:decide ((k:Int)<(i.stops.l.length:Int))=true:=by simpa using hk
 rw[if_pos xS];have tail: ∀(b:qk)(q:Bool),(b.qO<=x.span.qO/\x.span.to<=b.to↔q=true)->
   (if decide (x.span.qO>x.span.to)=true then some (.inl false)else if(!(decide (x.span.qO>=b.qO)&&decide (x.span.to<=b.to)))=true then some (.inl false)
    else(some (if de x (i.stops.l.take k)=true then(.inl false:Bool⊕Unit)else .inr ())).bind fun v=>match v with
     | .inl y=>some (.inl y)
     | .inr _=>zM (((k+1:Nat):Int),i))=
   if(decide (x.span.qO<=x.span.to)&& !(de x (i.stops.l.take k))&&q)=true then zM (((k+1:Nat):Int),i)else some (.inl false):=by
  intro b q hq;by_cases h1:x.span.qO>x.span.to
  ·have: ¬x.span.qO<=x.span.to:=o?;simp[h1,this]
  have h1' :x.span.qO<=x.span.to:=o?;cases q with
  |true=>
   obtain⟨a1,a2⟩:=hq.2 rfl;cases de x (i.stops.l.take k)<;>simp[h1',a1,a2]<;>omega
  |false=>
   have:(decide (x.span.qO>=b.qO)&&decide (x.span.to<=b.to))=false:=by
    rw[Bool.eq_false_iff];intro h;simp only[zU,decide_eq_true_eq]at h;cases hq.1 h
   simp[this]
 by_cases hu:x.up= -1;(have ht:=h3 hu;subst ht;have e1:(x.up != -1)=false:=by simp[hu]);(have e2:decide (x.up>=0)=false:=by simp[hu]);have e3: ¬0<=x.up:=o?;simp only[e1,e2,q07,Qb,e3,if_false,wH,V_];exact tail i.span (decide (x.span.qO>=i.span.qO)&&decide (x.span.to<=i.span.to)) z?;have e1:(x.up != -1)=true:=by simp[hu]
 by_cases hr:0<=x.up/\x.up<k;(obtain⟨h5,h6⟩:=h4 hu hr.1 hr.2;have e0:(decide (x.up<0) || decide (x.up>=(k:Int)))=false:=v?;have e2:decide (x.up>=0)=true:=v?;obtain⟨v,hv⟩: ∃v:Nat,x.up=v:=⟨x.up.toNat,o?⟩;have Na:v<i.stops.l.length:=o?;have hy:=xk Na;have QJ:i.stops.l[x.up.toNat]? =some i.stops.l[v]:=by rw[hv];simp[Na]);(generalize i.stops.l[v]=y at hy QJ;have L6:qh i.stops.l x.up=some y:=by rw[hv];exact hy);have ZI:=tail y.span (decide (x.span.qO>=y.span.qO)&&decide (x.span.to<=y.span.to)) z?;simp only[e1,e0,e2,q07,Qb,hr.1,L6,QJ,if_true,wH,if_false,qV];by_cases h7:x.up=(k:Int)-1;(have:=h5 h7;subst this;have e3:(x.up != (k:Int)-1)=false:=by simp[h7]);simp only[e3,wH,if_false,V_];exact ZI;(have e3:(x.up != (k:Int)-1)=true:=by simp[h7]);(simp only[e3,if_true,h6 h7,qV];cases t with|true=>simp only[q15,wH,if_false,V_];exact ZI|false=>simp);have e0:(decide (x.up<0) || decide (x.up>=(k:Int)))=true:=by simp only[j!,decide_eq_true_eq];omega
 have:t=false:=by cases t with|true=>have:=h2 rfl;omega|false=>rfl
 subst this;simp[e1,e0,q07]
theorem TO(i:qu)(k:Nat)(hk:k<i.stops.l.length)(hl:i.stops.l.length<2^60)(t:Bool)(ht:gG i k=some t)(Xj:t=true-> -1<=i.stops.l[k].up/\i.stops.l[k].up<k)(vU:pz):
  vH (i.stops,(i.stops.l.length:Int),(k:Int),i,vU)=
   if(t&&decide (i.stops.l[k].span.qO<=i.stops.l[k].span.to)&& !(Qv vU i.stops.l[k].up&&decide (i.stops.l[k].span.qO<oY vU i.stops.l[k].up))&&
    Qb i i.stops.l[k])=true
   then vH (i.stops,(i.stops.l.length:Int),((k+1:Nat):Int),i,Z6 vU i.stops.l[k].up i.stops.l[k].span.to)else some (.inl (false,vU)):=by
 have hx:=xk hk;generalize i.stops.l[k]=x at hx Xj;have hw:q?.wrap ((k:Int)+1)=((k+1:Nat):Int):=px o?;have xS:decide ((k:Int)<(i.stops.l.length:Int))=true:=by simpa using hk
 rw[vH.eq_1,if_pos xS];simp only[hx,ht,zP,qV,hw,RR];cases t with|false=>simp|true=>have:=Xj rfl;by_cases h1:x.span.qO>x.span.to;have h2: ¬x.span.qO<=x.span.to:=o?;simp[h1,h2];have h2:x.span.qO<=x.span.to:=o?;by_cases hu:0<=x.up;(obtain⟨v,hv⟩: ∃v:Nat,x.up=v:=⟨x.up.toNat,o?⟩;have Na:v<i.stops.l.length:=o?;have hy:=xk Na;have QJ:i.stops.l[x.up.toNat]? =some i.stops.l[v]:=by rw[hv];simp[Na]);(generalize i.stops.l[v]=y at hy QJ;have L6:qh i.stops.l x.up=some y:=by rw[hv];exact hy);simp only[L6,QJ,qV,Qb];by_cases h3:x.span.qO>=y.span.qO<;>by_cases h4:x.span.to<=y.span.to<;>cases Qv vU x.up<;>by_cases h5:x.span.qO<oY vU x.up<;>simp[h1,h2,hu,h3,h4,h5]<;>omega;simp only[Qb];by_cases h3:x.span.qO>=i.span.qO<;>by_cases h4:x.span.to<=i.span.to<;>cases Qv vU x.up<;>by_cases h5:x.span.qO<oY vU x.up<;>simp[h1,h2,hu,h3,h4,h5]<;>omega
structure Zw (l:List qt) (k:Nat) (vU:pz):Prop where
 fwd: ∀(j:Nat) x,j<k->l[j]? =some x->x.span.qO<=x.span.to/\Qv vU x.up=true/\x.span.to<=oY vU x.up
 bwd: ∀u,Qv vU u=true-> ∃(j:Nat)(x:qt),j<k/\l[j]? =some x/\x.up=u/\oY vU u=x.span.to
theorem Mn{l:List qt}{k:Nat}{vU:pz}(h:Zw l k vU)(x:qt)(hk:k<=l.length):de x (l.take k)=(Qv vU x.up&&decide (x.span.qO<oY vU x.up)):=by rw[Bool.eq_iff_iff,KQ];simp only[zU,decide_eq_true_eq];constructor;(rintro⟨q,y,h1,h2,h3⟩;have hq:q<k:=by have:=(qL h1).1;simp at this;omega);rw[V? hq]at h1;obtain⟨_,b,c⟩:=h.fwd q y hq h1;rw[h2]at b c;exact⟨b,o?⟩;rintro⟨h1,h2⟩;obtain⟨j,y,hj,hy,hu,he⟩:=h.bwd _ h1;exact⟨j,y,by rw[V? hj];exact hy,hu,o?⟩
theorem AA{l:List qt}{k:Nat}{vU:pz}(h:Zw l k vU)(x:qt)(hx:l[k]? =some x)(h1:x.span.qO<=x.span.to)(h2:(Qv vU x.up&&decide (x.span.qO<oY vU x.up))=false):Zw l (k+1) (Z6 vU x.up x.span.to):=by constructor;intro j y hj hy;rw[Nz,Ny];by_cases Vr:j=k;subst Vr;rw[hx]at hy;cases hy;simp[h1];obtain⟨a,b,c⟩:=h.fwd j y o? hy;refine⟨a,by simp[b], ?_⟩;by_cases e:y.up=x.up;rw[if_pos e];rw[e]at b c;simp only[b,V_,decide_eq_false_iff_not]at h2;omega;rw[if_neg e];exact c;intro u hu;rw[Ny];rw[Nz]at hu;by_cases e:u=x.up;exact⟨k,x,o?,hx,e.symm,by rw[if_pos e]⟩;rw[if_neg e]at hu |-;obtain⟨j,y,hj,hy⟩:=h.bwd u hu;exact⟨j,y,o?,hy⟩
theorem FC(i:qu)(hl:i.stops.l.length<2^60): ∀(n k:Nat)(vU:pz),k+n=i.stops.l.length->Zw i.stops.l k vU->
  ∃(t:Bool)(e:pz),vH (i.stops,(i.stops.l.length:Int),(k:Int),i,vU)=some (if t=true then .inr e else .inl (false,e))/\
   zM ((k:Int),i)=some (if t=true then .inr ()else .inl false):=by intro n;induction n with|zero=>intro k vU hk _;obtain rfl:k=i.stops.l.length:=o?;refine⟨true,vU, ?_, ?_⟩;rw[vH.eq_1];simp;rw[zM.eq_1];simp|succ n ih=>(intro k vU hk hs;have pd:k<i.stops.l.length:=o?;obtain⟨t,h1,h2,h3⟩:=As i k pd hl;have h4:=TO i k pd hl t h1 h2 vU;rw[h3,h4,q07,Mn hs _ o?];have hx:i.stops.l[k]? =some i.stops.l[k]:=by simp[pd]);generalize i.stops.l[k]=x at hx |-;split;rename_i hc;simp only[zU,decide_eq_true_eq,O!]at hc;exact ih (k+1) _ o? (AA hs x hx hc.1.1.2 hc.1.2);exact⟨false,vU,rfl,rfl⟩
theorem LJ(i:qu)(n:Int)(hl:i.stops.l.length<2^60): ∃t:Bool,iP i n=some t/\sW i n=some t:=by
 have hm:tn i.span n=se i.span n:=rfl;obtain⟨b,hb⟩: ∃b,se i.span n=some b:=by unfold se;split<;>exact⟨_,rfl⟩
 obtain⟨t,e,h1,h2⟩:=FC i hl i.stops.l.length 0 ⟨[],0⟩ o? ⟨fun j x hj=>o?,fun u hu=>by simp[LN]at hu⟩;simp only[S_]at h1 h2;unfold iP sW;rw[hm,hb];simp only[zP,qV];cases b with|false=>exact⟨false,rfl,rfl⟩|true=>simp only[q15,wH,if_false,h1,h2,qV];cases t<;>exact⟨_,rfl,rfl⟩
end StM
end Go.Proofs.YtnfdnckadgcifaaGreat
namespace Go.Proofs.YtnfdnckadgcifaaGreat
open Go Go.Gm
namespace Xr
theorem FQ(n:Int)(is:Sl qu)(a m:Int)(i:qu)(hb:i.stops.l.length<=2^20): ∀(r:List qt)(k:Nat)(out:List qk),i.stops.l.drop k=r->out.length+r.length<=2^29->
  vT (n,is,m,a,i.stops,(i.stops.l.length:Int),(k:Int),out,i)=some (out++ec n r):=by intro r;induction r with|nil=>intro k out h _;have:=zt h;rw[vT.eq_1,if_neg v?];simp[ec]|cons x r ih=>intro k out h ho;obtain⟨h1,h2,h3⟩:=zH h;simp only[b?]at ho;rw[vT.eq_1,if_pos v?,gi h1,ws o?];simp only[zP,qV];have e1:=ih (k+1) out h2 o?;have e2:=ih (k+1) (out++[x.span]) h2 v?;generalize ((k+1:Nat):Int)=q at e1 e2 |-;cases ht:x.qQ with|true=>simp[e1,ec,isN,ht]|false=>by_cases hn:x.n=n;simp[e2,ec,isN,ht,hn,qH (show out.length+1<=2^30 by omega) (show 16<=2^16 by omega)];simp[e1,ec,isN,ht,hn]
theorem FP(n:Int)(is:Sl qu)(hb: ∀i∈is.l,i.stops.l.length<=2^20)(hL:is.l.length<=2^20): ∀(r:List qu)(a:Nat)(out:List qk),is.l.drop a=r->out.length+many r<=2^29->
  uQ (n,is,(is.l.length:Int),(a:Int),out)=some (out++vS n r):=by intro r;induction r with|nil=>intro a out h _;have:=zt h;rw[uQ.eq_1,if_neg v?];simp[vS]|cons i r ih=>intro a out h ho;obtain⟨h1,h2,h3⟩:=zH h;have hi:=zc h1;simp only[many,List.map_cons,List.sum_cons]at ho;have hs:=J1 n i.stops.l;have e:=FQ n is a is.l.length i (hb i hi) i.stops.l 0 out rfl o?;rw[show ((0:Nat):Int)=0 from rfl]at e;rw[uQ.eq_1,if_pos v?,gi h1,ws o?];simp only[zP,qV,e];rw[ih (a+1) _ h2 (by simp only[many,List.length_append];omega)];simp[vS]
theorem FR(n:Int)(is:Sl qu)(hb: ∀i∈is.l,i.stops.l.length<=2^12)(hL:is.l.length<=2^12):d9 n is=some ⟨(vS n is.l).isEmpty,vS n is.l⟩:=by have h1:=Qc hb;have h2:is.l.length*2^12<=2^12*2^12:=Nat.mul_le_mul hL (ju _);unfold d9;have e:=FP n is (fun i hi=>by have:=hb i hi;omega) o? is.l 0 [] rfl v?;rw[show ((0:Nat):Int)=0 from rfl]at e;rw[e];simp
theorem plies_L0(s:qk)(l:Sl qk)(hL:l.l.length<2^60): ∀(r:List qk)(k:Nat),l.l.drop k=r-> ∃v:Int⊕Unit,zs (l,(l.l.length:Int),(k:Int),s)=some v/\((∃ y,v= .inl y/\0<=y/\r.any (fun p=>decide (xx s p))=true)\/v= .inr ()/\r.any (fun p=>decide (xx s p))=false):=by intro r;induction r with|nil=>intro k h;have:=zt h;rw[zs.eq_1,if_neg v?];exact⟨_,rfl,.inr ⟨rfl,rfl⟩⟩|cons p r ih=>intro k h;obtain⟨h1,h2,h3⟩:=zH h;obtain⟨v,v1,v2⟩:=ih (k+1) h2;rw[zs.eq_1,if_pos v?,gi h1,ws o?];simp only[zP,qV,cm,show bS s p=some (decide (xx s p))from iT s p];by_cases e:xx s p;rw[if_pos (by simpa using e)];exact⟨_,rfl,.inl ⟨_,rfl,o?,by simp[e]⟩⟩;rw[if_neg (by simpa using e),v1];refine⟨v,rfl, ?_⟩;rcases v2 with ⟨y,y1,y2,y3⟩|⟨y1,y2⟩;exact .inl ⟨y,y1,y2,by simp only[List.any_cons,y3,Bool.or_true]⟩;exact .inr ⟨y1,by simp[e,y2]⟩
theorem plies_ok(s:qk)(l:Sl qk)(hL:l.l.length<2^60): ∃t:Bool,cD s l=some t/\(t=true↔eu s l.l):=by
 obtain⟨v,v1,v2⟩:=plies_L0 s l hL l.l 0 rfl;rw[show ((0:Nat):Int)=0 from rfl]at v1;unfold cD xK j8;rw[v1];rcases v2 with ⟨y,rfl,y2,y3⟩|⟨rfl,y2⟩;refine⟨true,by simp[y2],fun _=>?_,fun _=>rfl⟩;simpa[eu]using y3;refine⟨false,z?,fun h=>(by cases h),fun h=>?_⟩;have:l.l.any (fun p=>decide (xx s p))=true:=by simpa[eu]using h
 rw[y2]at this;cases this
section
variable (st:qq) (Vs: ∀s∈st.qf.l,jH s) (Eb:st.qf.l.length<2^60)
include Vs in
theorem pmay_L2(i:Nat)(s:qc)(hs:st.qf.l[i]? =some s)(gI:Sl qk)(ha:0<i-> ∀p,st.qf.l[i-1]? =some p->gI.l=vS p.cur p.insts.l)(ay:gI.l.length<2^60):
  ∀(d k:Nat)(e:Int),k+d=s.insts.l.length->(k=0->e=0)->(0<k-> ∀y,s.insts.l[k-1]? =some y->e=y.span.to)->
  ∃t:Bool,yO ((st.text.length:Int),gI,(i:Int),e,st.qf,(st.qf.l.length:Int),(i:Int),s.insts,(s.insts.l.length:Int),(k:Int),st,s)=some (if t=true then .inr ()else .inl false)/\
   (t=true↔ ∀(r:Nat) x,k<=r->s.insts.l[r]? =some x->Qz st i s.insts.l r x):=by
 have Qu:=Vs s (zc hs);have hsn:=Qu.1;intro d;induction d with
  |zero=>intro k e h _ _;rw[yO.eq_1,if_neg v?];exact⟨true,rfl,fun _ r x hr hx=>by have:=(qL hx).1;omega,fun _=>rfl⟩
  |succ d ih=>
   (intro k e h Gu he1;obtain⟨x,hx⟩:=gl (l:=s.insts.l) (k:=k) o?;have Ek:=Qu.2 x (zc hx);obtain⟨t,g1,g2⟩:=ih (k+1) x.span.to o? o? (fun _ y hy=>by rw[w_,hx]at hy;cases hy;rfl);obtain⟨b,m1,m2⟩:=StM.LJ x (st.text.length:Int) o?;obtain⟨b2,m3,m4⟩:=Nv x (st.text.length:Int) o?;rw[m2]at m3;cases m3;have split: ∀(P:Prop),(P↔Qz st i s.insts.l k x)->((P/\ ∀(r:Nat) z,k+1<=r->s.insts.l[r]? =some z->Qz st i s.insts.l r z)↔ ∀(r:Nat) z,k<=r->s.insts.l[r]? =some z->Qz st i s.insts.l r z):=by intro P hP;rw[hP];constructor;intro h r z hr hz;by_cases c:r=k;subst c;rw[hx]at hz;cases hz;exact h.1;exact h.2 r z o? hz;exact fun h=>⟨h k x (ju _) hx,fun r z hr hz=>h r z o? hz⟩);rw[yO.eq_1,if_pos v?,gi hx,ws o?];simp only[zP,qV,m1];by_cases c1:Vx x st.text.length/\e<=x.span.qO;(have hb:b=true:=m4.2 c1.1;subst hb;have OT:0<k-> ∀y,s.insts.l[k-1]? =some y->y.span.to<=x.span.qO:=fun h0 y hy=>by have:=he1 h0 y hy;omega);rw[if_neg v?];by_cases c2:0<i;(obtain⟨p,hp⟩:=gl (l:=st.qf.l) (k:=i-1) (by have:=(qL hs).1;omega);obtain⟨u,l1,l2⟩:=plies_ok x.span gI ay;rw[if_pos (by simpa using c2),l1];simp only[qV];rw[ha c2 p hp]at l2;cases u with|false=>rw[if_pos z?];refine⟨false,rfl,fun h=>(by cases h),fun h=>?_⟩;have:=l2.2 ((h k x (ju _) hx).2.2 c2 p hp);cases this|true=>rw[if_neg z?,g1];refine⟨t,rfl,g2.trans ?_⟩;rw[<- split True ⟨fun _=>⟨c1.1,OT,fun _ p' hp' =>?_⟩,fun _=>trivial⟩];simp;rw[hp]at hp';cases hp';exact l2.1 rfl);rw[if_neg (by simpa using c2),g1];refine⟨t,rfl,g2.trans ?_⟩;rw[<- split True ⟨fun _=>⟨c1.1,OT,fun h0=>absurd h0 c2⟩,fun _=>trivial⟩];simp
   have hbad: ¬Qz st i s.insts.l k x:=fun hg=>c1 ⟨hg.1,by
    by_cases c:k=0
    ·rw[Gu c]
     exact hg.1.Xk.1
    obtain⟨y,hy⟩:=gl (l:=s.insts.l) (k:=k-1) o?
    rw[he1 o? y hy]
    exact hg.2.1 o? y hy⟩
   rw[if_pos (by
    cases hb:b with
    |false=>rfl
    |true=>
     have: ¬e<=x.span.qO:=fun h=>c1 ⟨m4.1 hb,h⟩
     simp;omega)]
   exact⟨false,rfl,fun h=>(by cases h),fun h=>absurd (h k x (ju _) hx) hbad⟩
include Vs Eb in
theorem pmay_L0: ∀(d i:Nat)(gI:Sl qk),i+d=st.qf.l.length->(0<i-> ∀p,st.qf.l[i-1]? =some p->gI.l=vS p.cur p.insts.l)->gI.l.length<2^60->
  ∃t:Bool,gN ((st.text.length:Int),gI,st.qf,(st.qf.l.length:Int),(i:Int),st)=some (if t=true then .inr ()else .inl false)/\(t=true↔ ∀(r:Nat) s,i<=r->st.qf.l[r]? =some s->Ip st r s):=by intro d;induction d with|zero=>intro i gI h _ _;rw[gN.eq_1,if_neg v?];exact⟨true,rfl,fun _ r s hr hs=>by have:=(qL hs).1;omega,fun _=>rfl⟩|succ d ih=>intro i gI h ha ay;obtain⟨s,hs⟩:=gl (l:=st.qf.l) (k:=i) o?;have Qu:=Vs s (zc hs);have hlen:=Xc Qu s.cur;obtain⟨t,g1,g2⟩:=ih (i+1) ⟨(vS s.cur s.insts.l).isEmpty,vS s.cur s.insts.l⟩ o? (fun _ p hp=>by rw[w_,hs]at hp;cases hp;rfl) u?;rw[gN.eq_1,if_pos v?,gi hs,ws o?];simp only[zP,qV];by_cases c:s.insts.l=[];rw[if_pos (by simp[c])];refine⟨false,rfl,fun h=>(by cases h),fun h=>?_⟩;exact absurd c (h i s (ju _) hs).1;obtain⟨u,u1,u2⟩:=pmay_L2 st Vs i s hs gI ha ay s.insts.l.length 0 0 o? (fun _=>rfl) (fun h=>absurd h o?);rw[show ((0:Nat):Int)=0 from rfl]at u1;rw[if_neg (by simpa using c),u1];simp only[qV];cases u with|false=>refine⟨false,rfl,fun h=>(by cases h),fun h=>?_⟩;have:=u2.2 fun r x _ hx=>(h i s (ju _) hs).2 r x hx;cases this|true=>simp only[if_true,FR s.cur s.insts Qu.2 Qu.1,qV];refine⟨t,g1,g2.trans ⟨fun h r z hr hz=>?_,fun h r z hr hz=>h r z o? hz⟩⟩;by_cases c2:r=i;subst c2;rw[hs]at hz;cases hz;exact⟨c,fun r x hx=>u2.1 rfl r x o? hx⟩;exact h r z o? hz
end
theorem LI(st:qq):D9 st↔(st.text.length<=65536/\st.qf.l.length<=8/\st.zC.l≠[]/\st.zC.l.length<=64/\Zt st.text.length st.zC.l/\Yh st.zC.l)/\ ∀(r:Nat) s,st.qf.l[r]? =some s->Ip st r s:=by constructor;intro h;refine⟨⟨h.text,h.sm,h.ne,h.K6,h.Jr,h.Yn⟩,fun r s hs=>?_⟩;have hm:=h.may s (zc hs);have hl:=h.Fz r s hs;exact⟨hl.1,fun k x hx=>⟨hm.may k x hx,fun h0 y hy=>hm.Rk (k-1) k y x o? hy hx,fun h0 p hp=>hl.2 h0 p hp x (zc hx)⟩⟩;rintro⟨⟨h1,h2,h3,h4,h5,h6⟩,h⟩;refine⟨h1,h2,h3,h4,h5,h6,fun s hs=>?_,fun j s hs=>?_⟩;obtain⟨j,hj⟩:=jI hs;exact CM fun k x hx=>⟨((h j s hj).2 k x hx).1,((h j s hj).2 k x hx).2.1⟩;refine⟨(h j s hs).1,fun h0 p hp x hx=>?_⟩;obtain⟨k,hk⟩:=jI hx;exact((h j s hs).2 k x hk).2.2 h0 p hp
theorem pmay_ok(st:qq)(Vs: ∀s∈st.qf.l,jH s)(hq:st.zC.l.length<2^60)(Eb:st.qf.l.length<2^60)(ht:st.text.length<2^60)(hn:st.zC.nil=true->st.zC.l=[])(hs:Ky st.zC.l): ∃t:Bool,km st=some t/\(t=true↔D9 st):=by
 unfold km;obtain⟨q,co,n1,n2⟩:=q06 (st.text.length:Int) st.zC hq hn hs;rw[n1];simp only[zP,qV];rcases n2 with ⟨rfl,n3,n4,n5,n6,n7⟩|⟨n3,n4⟩
 ·by_cases c1:st.text.length<=65536
  ·rw[if_neg v?];obtain⟨t,g1,g2⟩:=On q st.zC o?;rw[g1];simp only[qV];by_cases c2:Yh st.zC.l/\st.qf.l.length<=8;obtain rfl:t=true:=g2.2 (n6.2 c2.1);rw[if_neg v?];obtain⟨u,u1,u2⟩:=pmay_L0 st Vs Eb st.qf.l.length 0 ⟨true,[]⟩ o? (fun h=>absurd h o?) z?;rw[show ((0:Nat):Int)=0 from rfl]at u1;rw[u1];refine⟨u,by cases u<;>rfl,u2.trans ?_⟩;rw[LI];exact⟨fun h=>⟨⟨c1,c2.2,n3,n4,n5,c2.1⟩,fun r s hs=>h r s o? hs⟩,fun h r s _ hs=>h.2 r s hs⟩
   rw[if_pos (by
    cases ht:t with
    |false=>rfl
    |true=>
     have: ¬st.qf.l.length<=8:=fun h=>c2 ⟨n6.1 (g2.1 ht),h⟩
     simp;omega)]
   exact⟨false,rfl,fun h=>(by cases h),fun h=>absurd ⟨h.Yn,h.sm⟩ c2⟩
  rw[if_pos v?];exact⟨false,rfl,fun h=>(by cases h),fun h=>absurd h.text c1⟩
 rw[if_pos (by simp[n3])];exact⟨false,rfl,fun h=>(by cases h),fun h=>absurd ⟨h.ne,h.K6,h.Jr⟩ n4⟩
theorem pmay_ref(st:qq)(Vs: ∀s∈st.qf.l,jH s)(hq:st.zC.l.length<2^60)(Eb:st.qf.l.length<2^60)(ht:st.text.length<2^60)(hn:st.zC.nil=true->st.zC.l=[])(hs:Ky st.zC.l): ∃t:Bool,km st=some t/\jl st=some t/\(t=true↔D9 st):=by
 obtain⟨t,h1,h2⟩:=pmay_ok st Vs hq Eb ht hn hs;obtain⟨u,h3,h4⟩:=WA st Vs hq;have:t=u:=by cases t<;>cases u<;>simp_all
 exact⟨t,h1,this ▸ h3,h2⟩
end Xr
namespace Xr
theorem SL(x n:Int)(h0:0<n)(h1:n<=2^40):qM (eT x n) (fun v=>0<=v/\v<n):=by
 have hw:n?.wrap n=n:=by simp only[L_,X_,s_];simp;omega
 have hx:0<=n?.wrap x:=by simp only[L_,X_,s_];simp;omega
 unfold eT;rw[hw,if_pos o?];have h2:=Int.tmod_nonneg n hx;have h3:=Int.tmod_lt_of_pos (n?.wrap x) h0;rw[wi (n:=(n?.wrap x).tmod n)];exact .ret ⟨h2,h3⟩
structure Fit (st:qq):Prop where
 small: ∀s∈st.qf.l,jH s
 q:st.zC.l.length<2^60
 ss:st.qf.l.length<2^60
 t:st.text.length<2^60
 nil:st.zC.nil=true->st.zC.l=[]
 sort:Ky st.zC.l
theorem UZ{st:qq}(h:Fit st): ∃t:Bool,km st=some t/\jl st=some t/\(t=true↔D9 st):=pmay_ref st h.small h.q h.ss h.t h.nil h.sort
theorem well_fit{st:qq}(h:yw st):Fit st:=
 ⟨h.small,by have:=h.may.K6;omega,by have:=h.may.sm;omega,by have:=h.may.text;omega,fun c=>(by rw[h.qn]at c;cases c),.inr (dY h.may.Yn)⟩
theorem mayL_L2(os:Sl yD)(w b:Int)(st:qq)(i:Nat)(s:qc)(hs:st.qf.l[i]? =some s)(hl:s.insts.l.length<=3): ∀(d k:Nat),k+d=s.insts.l.length->
  qM (kL (os,w,b,(i:Int),(k:Int),st)) (fun v=>(∀ y,v= .inl y->y=true)/\(∀ y,v= .inr y-> ∀(r:Nat) x,k<=r->s.insts.l[r]? =some x->x.stops.l.length<=6)):=by intro d;induction d with|zero=>intro k h;rw[kL.eq_1];refine .go (gi hs) ?_;rw[if_neg v?];exact .ret ⟨z?,fun _ _ r x hr hx=>by have:=(qL hx).1;omega⟩|succ d ih=>intro k h;obtain⟨x,hx⟩:=gl (l:=s.insts.l) (k:=k) o?;rw[kL.eq_1];refine .go (gi hs) ?_;rw[if_pos v?];refine .go (gi hx) ?_;refine .ite (fun _=>X' (a:=true) rfl (.ret ⟨fun y hy=>by cases hy;rfl,fun y hy=>by cases hy⟩)) fun c=>?_;rw[ws o?];refine(ih (k+1) o?).mono fun v hv=>⟨hv.1,fun y hy r z hr hz=>?_⟩;by_cases e:r=k;subst e;rw[hx]at hz;cases hz;simp only[decide_eq_true_eq]at c;omega;exact hv.2 y hy r z o? hz
theorem mayL_L0(os:Sl yD)(w b:Int)(st:qq)(hl:st.qf.l.length<=3): ∀(d i:Nat),i+d=st.qf.l.length->
  qM (kK (os,w,b,(i:Int),st)) (fun v=>(∀ y,v= .inl y->y=true)/\(∀ y,v= .inr y-> ∀(r:Nat) s,i<=r->st.qf.l[r]? =some s->jH s)):=by intro d;induction d with|zero=>intro i h;rw[kK.eq_1,if_neg v?];exact .ret ⟨z?,fun _ _ r x hr hx=>by have:=(qL hx).1;omega⟩|succ d ih=>intro i h;obtain⟨s,hs⟩:=gl (l:=st.qf.l) (k:=i) o?;rw[kK.eq_1,if_pos v?];refine .go (gi hs) ?_;refine .ite (fun _=>X' (a:=true) rfl (.ret ⟨fun y hy=>by cases hy;rfl,fun y hy=>by cases hy⟩)) fun c=>?_;simp only[decide_eq_true_eq]at c;refine .bind (mayL_L2 os w b st i s hs o? s.insts.l.length 0 o?) fun v hv=>?_;rcases v with y|y;exact .ret ⟨fun z hz=>by cases hz;exact hv.1 y rfl,fun z hz=>by cases hz⟩;simp only;rw[ws o?];refine(ih (i+1) o?).mono fun u hu=>⟨hu.1,fun z hz r q hr hq=>?_⟩;by_cases e:r=i;subst e;rw[hs]at hq;cases hq;refine⟨o?,fun x hx=>?_⟩;obtain⟨k,hk⟩:=jI hx;have:=hv.2 y rfl k x o? hk;omega;exact hu.2 z hz r q o? hq
theorem RO{l:List qm}{x:qm}(ha:Yh l)(hx:l[0]? =some x)(h:Int):(l.set 0 ⟨x.anchor,h⟩).Pairwise Hn:=by cases l with|nil=>simp at hx|cons z r=>simp only[List.getElem?_cons_zero,wd]at hx;subst hx;simp only[List.set_cons_zero];have hs:=dY ha;rw[w!]at hs |-;refine⟨fun y hy=>?_,hs.2⟩;have QJ:=(w!.1 ha).1 y hy;unfold Hn Fx;unfold vq at QJ |-;simp only at QJ |-;split at QJ<;>split at QJ<;>split<;>split<;>omega
theorem er(st:qq)(os:Sl yD)(what mw:Int)(Wo:qq.ok st):uY st os what mw=some true:=by
 have key:qM (uY st os what mw) (fun v=>v=true):=by
  (have final: ∀{S:qq},Fit S->qM (km S>>=fun a=>jl S>>=fun b=>if(a==b)=true then S8>>=fun v=>some v else some false) (fun v=>v=true):=by intro S hS;obtain⟨t,h1,h2,_⟩:=UZ hS;refine .go h1 (X' h2 ?_);rw[if_pos z?];exact .go (a:=true) rfl (.ret rfl));unfold uY;refine .ite (fun _=>X' (a:=true) rfl (.ret rfl)) fun c0=>?_;simp only[j!,decide_eq_true_eq,not_or]at c0;refine .bind (ops_tot 6 100 o? o? os) fun v hv=>?_;refine .ite (fun _=>X' (a:=true) rfl (.ret rfl)) fun c=>?_;obtain⟨h1,h2⟩:=hv (by simpa using c);refine .bind (mayL_L0 os what mw st o? st.qf.l.length 0 o?) fun v hv=>?_;rcases v with y|y;exact .ret (hv.1 y rfl)
  have Qu:=hv.2 y rfl;have rI:Fit st:=⟨fun s hs=>by
    obtain⟨k,hk⟩:=jI hs
    exact Qu k s o? hk,o?,o?,o?,Wo.2.1.1.2,.inl o?⟩
  obtain⟨t,f1,f2,_⟩:=UZ rI;refine .go f1 (X' f2 ?_);rw[if_neg z?];refine .bind (PQ os o? h2) fun c hc=>?_;obtain⟨t2,g1,g2,g3⟩:=UZ (well_fit hc);obtain rfl:=g3.2 hc.may;refine .go g1 ?_;rw[if_neg z?];refine .bind (SL mw 5 o? o?) fun d hd=>?_;have h64:=hc.may.K6;have h8:=hc.may.sm;have K0:=hc.may.text;refine .zE qH (qM.zE qH ?_);refine .bind (SL what 4 o? o?) fun w hw=>?_;have plain:Fit ⟨c.text,⟨false,c.zC.l⟩,⟨false,c.qf.l⟩⟩:=⟨hc.small,u?,u?,u?,fun h=>(by cases h),.inr (dY hc.may.Yn)⟩;have mod: ∀(k:Nat)(s:qc),jH s->Fit ⟨c.text,⟨false,c.zC.l⟩,⟨false,c.qf.l.set k s⟩⟩:=fun k s hs=>
   ⟨fun z hz=>by
    rcases n! hz with h|h
    ·exact hc.small z h
    rw[h];exact hs,u?,by simp only[y?];omega,u?,fun h=>(by cases h),.inr (dY hc.may.Yn)⟩
  refine .ite (fun _=>?_) fun _=>?_;obtain⟨x,hx⟩:=gl (l:=c.zC.l) (k:=0) (M?.2 hc.may.ne);refine .go (gi (k:=0) hx) ?_;exact final ⟨hc.small,by simp only[y?];omega,u?,u?,fun h=>(by cases h),.inr (RO hc.may.Yn hx _)⟩;rw[wi (n:=(c.qf.l.length:Int)-1)];refine .ite (fun _=>?_) fun _=>?_;(refine .ite (fun c1=>?_) fun _=>final plain;have c1:(c.qf.l.length:Int)-1>=0:=by simpa using c1);obtain⟨x,hx⟩:=gl (l:=c.qf.l) (k:=c.qf.l.length-1) o?;rw[show (c.qf.l.length:Int)-1=((c.qf.l.length-1:Nat):Int)from o?];refine .go (gi hx) ?_;exact final (mod _ _ (hc.small x (zc hx)));refine .ite (fun _=>?_) fun _=>?_;(refine .ite (fun c1=>?_) fun _=>final plain;have c1:(c.qf.l.length:Int)-1>=0:=by simpa using c1);obtain⟨x,hx⟩:=gl (l:=c.qf.l) (k:=0) o?;refine .go (gi (k:=0) hx) ?_;exact final (mod _ _ (hc.small x (zc hx)));refine .ite (fun c1=>?_) fun _=>final plain;have c1:(c.qf.l.length:Int)-1>=0:=by simpa using c1
  obtain⟨x,hx⟩:=gl (l:=c.qf.l) (k:=c.qf.l.length-1) o?;rw[show (c.qf.l.length:Int)-1=((c.qf.l.length-1:Nat):Int)from o?];refine .go (gi hx) ?_;have SB:=zc hx;have Ek:=hc.small x SB;refine .zE (qH (by have:=Ek.1;omega) o?) ?_;obtain⟨i,hi⟩:=gl (l:=x.insts.l) (k:=0) (by
   obtain⟨j,hj⟩:=jI SB
   exact M?.2 (hc.may.Fz j x hj).1)
  refine .go (gi (k:=0) hi) ?_;refine final (mod _ _ ⟨by simp only[y?];exact Ek.1,fun z hz=>?_⟩);rcases n! hz with h|h;exact Ek.2 z h;rw[h];exact Ek.2 i (zc hi)
 obtain⟨v,h1,h2⟩:=key;rw[h1,h2]
end Xr
theorem er(st:qq)(os:Sl yD)(what mw:Int)(hs:qq.ok st)(_ho:vG yD.ok os)(_hw:cp what)(_hb:cp mw):uY st os what mw=some true:=Xr.er st os what mw hs
end Go.Proofs.YtnfdnckadgcifaaGreat
