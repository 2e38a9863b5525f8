/-
  An edit is laid: the document's lay.
-/
import Derived.Test.YtoflcafolmmaaaaGreatQak
open Go.IntKind renaming i64->q?
open Int renaming toNat_natCast->c?,le_refl->u!,toNat_zero->q1e
open List renaming length_cons->g?,replicate->b?,mem_append->m?,getElem?_append_left->p?,length_append->t?,map_cons->s?,mem_singleton->d?,getElem?_cons_zero->a?,length_nil->e?,getElem?_append_right->J?,mem_cons->U?,mem_map->N?,nil_append->F?,length_pos_iff->q!,pairwise_append->o!,getElem?_replicate->Q!,pairwise_cons->J!,eq_nil_of_length_eq_zero->H_
open Nat renaming strongRecOn->r?,add_zero->D?,lt_trichotomy->E!
set_option linter.unusedSimpArgs false
set_option linter.unusedVariables false
namespace Go.Proofs.YtoflcafolmmaaaaGreat
open Go Go.Gm
namespace Xr
abbrev NI(e:ql)(sd:List Int):=yI e.span.qI e.span.to e.text.length (rj sd)
def core(x:qr):Int×Bool×Bool×zn×Sl qa:=(x.n,x.first,x.qL,x.qR,x.opts)
theorem cp(i:qk)(is:List qk)(a:Nat):qu (i::is) (a+1)=1+i.stops.l.length+qu is a:=by simp[qu]
theorem row_at: ∀(is:List qk)(b a:Nat)(i:qk),is[a]? =some i-> ∀r,r<1+i.stops.l.length->(yx b is)[qu is a+r]? =(aC (b+qu is a) i)[r]? :=by intro is;induction is with|nil=>intro b a i h;simp at h|cons i0 is ih=>intro b a i h r hr;have hL:=ak b i0;cases a with|zero=>(simp only[a?,kG]at h;subst h;have:qu (i0::is) 0=0:=by simp[qu]);rw[this,yx,Nat.zero_add,p? o?,D?]|succ a=>simp only[List.getElem?_cons_succ]at h;rw[cp,yx,J? o?,hL,show 1+i0.stops.l.length+qu is a+r-(1+i0.stops.l.length)=qu is a+r by omega,ih (b+1+i0.stops.l.length) a i h r hr];rw[show b+1+i0.stops.l.length+qu is a=b+(1+i0.stops.l.length+qu is a) by omega]
section
variable (e:ql) (n:Int) (he:wv e n) (mark:Bool) (sd:List Int) (s:qb) (ay:qb) (cur:Int)
include he in
theorem shift_L0(hs:xD s)(hm:mC s.insts.l n)(hsd:sd.length<=2^30)
  (L5: ∀(b0:Nat)(i:qk),i∈s.insts.l->(∀ r x,(aC b0 i)[r]? =some x->(yx 0 s.insts.l)[b0+r]? =some x)-> ∀(k:Nat)(x:qr),i.stops.l[k]? =some x-> -1<=x.up/\ ∀p:Nat,x.up=p->p<k/\(rj sd (b0+1+k)≠1->rj sd (b0+1+p)≠1))
  (fl:Sl (Sl Int)) (Qw:so s.insts.l fl):
  ∀(r:List qk)(a b0:Nat)(flags:Sl (Sl Int))(out:List qk),s.insts.l.drop a=r->(∀ q x,(yx b0 r)[q]? =some x->(yx 0 s.insts.l)[b0+q]? =some x)->b0+(yx b0 r).length=sd.length->so out flags->out.length<=a->
  ∃UJ,vD (mark,⟨false,sd⟩,(b0:Int),(a:Int),fl,s,e,ay,cur,flags,out)=some (fl,UJ,out++NI e sd b0 r)/\so (out++NI e sd b0 r) UJ:=by
 intro r;have nH:=hs.1;induction r with
  |nil=>intro a b0 flags out h _ _ hF _;have:=qW h;rw[vD.eq_1,if_neg v?];exact⟨flags,by simp[yI],by simpa[yI]using hF⟩
  |cons i r ih=>
   (intro a b0 flags out h eu hlen hF ho;obtain⟨h1,h2,h3⟩:=zl h;have sx:=z7 h1;have hi:=hs.2 i sx;have hmi:=hm.may a i h1;have hrg:=hmi.Zg;have hL:=ak b0 i;have jx:s.insts.l≠[]:=fun c=>by rw[c]at h3;simp at h3);(have hr1: ∀q x,(aC b0 i)[q]? =some x->(yx 0 s.insts.l)[b0+q]? =some x:=by intro q x hx;have hq:=(qF hx).1;exact eu q x (by rw[yx,p? o?];exact hx));(have hr2: ∀q x,(yx (b0+1+i.stops.l.length) r)[q]? =some x->(yx 0 s.insts.l)[b0+1+i.stops.l.length+q]? =some x:=by intro q x hx;have:=eu (1+i.stops.l.length+q) x (by rw[yx,J? o?,hL,show 1+i.stops.l.length+q-(1+i.stops.l.length)=q by omega];exact hx);rwa[show b0+(1+i.stops.l.length+q)=b0+1+i.stops.l.length+q by omega]at this);(have OZ:b0+1+i.stops.l.length+(yx (b0+1+i.stops.l.length) r).length=sd.length:=by rw[yx,t?,hL]at hlen;omega);(obtain⟨sv,hsv⟩:=gl (l:=sd) (k:=b0) o?;have L9:rj sd b0=sv:=by simp[rj,hsv]);obtain⟨f0,hf0⟩:=gl (l:=fl.l) (k:=a) (by rw[Qw.len];omega);obtain⟨k1,k2,k3⟩:=Qw.each a i f0 h1 hf0;rw[vD.eq_1,if_pos v?,gi h1];simp only[zJ,qS];rw[gi hsv];simp only[qS];rw[Nl e n he i.span hrg.1 hrg.2.1 hrg.2.2 sv];simp only[qS];rw[if_pos z?,if_pos (qA v? o?),ws (k:=b0) o?,ws (k:=a) o?];have dE: ∀x∈i.stops.l,0<=x.span.qI/\x.span.qI<=x.span.to/\x.span.to<=n:=by intro x hx;obtain⟨k,hk⟩:=kh hx;have:=hmi.inside k x hk;have:=hmi.le k x hk;omega
   obtain⟨FJ,f',g1,g2,g3⟩:=shift_L2 e n he mark sd s ay cur flags out (VH e.span.qI e.span.to e.text.length sv i.span).qI (VH e.span.qI e.span.to e.text.length sv i.span).to a b0 (sv != 1) i h1 o? hsd hi dE (L5 b0 i sx hr1) f0 k1 k2 k3
    i.stops.l 0 fl (b? i.stops.l.length 0) [] [] rfl o? hf0 (Qw.nn jx) z? (fun j hj=>o?) (by simp[ax]) z? z? z?
   simp only[c?];rw[show ((b0+1+0:Nat):Int)=((b0+1:Nat):Int)from rfl,show((0:Nat):Int)=0 from rfl]at g1;rw[g1];simp only[qS];by_cases c1:sv=1;(rw[if_neg (by simpa using c1)];have e1:NI e sd b0 (i::r)=NI e sd (b0+1+i.stops.l.length) r:=by show yI _ _ _ _ _ (i::r)=_;rw[yI,if_pos (by rw[L9];exact c1)]);rw[e1];exact ih (a+1) (b0+1+i.stops.l.length) flags out h2 hr2 OZ hF o?;(rw[if_pos (by simpa using c1),if_pos qA,if_pos (qA (by have:=hF.len;omega) o?)];have e1:NI e sd b0 (i::r)=Qy e.span.qI e.span.to e.text.length (rj sd) b0 i::NI e sd (b0+1+i.stops.l.length) r:=by show yI _ _ _ _ _ (i::r)=_;rw[yI,if_neg (by rw[L9];exact c1)]);have e2:qk.mk (VH e.span.qI e.span.to e.text.length sv i.span) (⟨([]++NS e sd (b0+1) 0 i.stops.l).isEmpty,[]++NS e sd (b0+1) 0 i.stops.l⟩:Sl qr)=Qy e.span.qI e.span.to e.text.length (rj sd) b0 i:=by unfold Qy;rw[L9,F?]
   rw[e2,e1];obtain⟨UJ,q1,q2⟩:=ih (a+1) (b0+1+i.stops.l.length) ⟨false,flags.l++[⟨f'.isEmpty,f'⟩]⟩ (out++[Qy e.span.qI e.span.to e.text.length (rj sd) b0 i]) h2 hr2 OZ (by
    refine⟨by simp[hF.len],fun _=>rfl, ?_⟩
    intro a' i' f'' yv F7
    by_cases c:a' <out.length
    ·rw[p? c]at yv
     rw[p? (by rw[hF.len];exact c)]at F7
     exact hF.each a' i' f'' yv F7
    rw[J? o?]at yv
    rw[J? (by have:=hF.len;simp only at *; omega)]at F7
    have hz:a' -out.length=0:=by
     have:=(qF yv).1
     simp at this
     omega
    rw[hz]at yv
    rw[hF.len,hz]at F7
    simp only[a?,kG]at yv F7
    subst yv F7
    have T1:f'.length=(NS e sd (b0+1) 0 i.stops.l).length:=by simpa using g2
    refine⟨T1,fun c=>?_,g3⟩
    have:(NS e sd (b0+1) 0 i.stops.l)≠[]:=c
    cases UZ:f' with
    |nil=>
     rw[UZ]at T1
     exact absurd (List.length_eq_zero_iff.1 T1.symm) this
    |cons _ _=>rfl) v?
   refine⟨UJ,by rw[q1];simp,by simpa using q2⟩
theorem FB(a b c:Int)(sF:Nat->Int): ∀(is:List qk)(b0:Nat),(∀ k i,is[k]? =some i->sF (b0+qu is k)≠1)->(yI a b c sF b0 is).length=is.length:=by
 intro is;induction is with
 |nil=>intro b0 _;rfl
 |cons i is ih=>
  intro b0 h;have h0:=h 0 i rfl;rw[show qu (i::is) 0=0 by simp[qu],D?]at h0;rw[yI,if_neg h0,g?,g?,ih (b0+1+i.stops.l.length) (fun k j hj=>by
   have:=h (k+1) j (by simpa using hj)
   rw[cp]at this
   rwa[show b0+1+i.stops.l.length+qu is k=b0+(1+i.stops.l.length+qu is k) by omega])]
theorem Wr(a b c:Int)(sF:Nat->Int){l:List Qt}(is:List qk)(b0:Nat)(hl: ∀(r:Nat)(x:Qt),(yx b0 is)[r]? =some x->l[b0+r]? =some x): ∀y∈yI a b c sF b0 is,∃ i∈is,y.stops.l.length<=i.stops.l.length/\ ∀z∈y.stops.l,∃ x∈i.stops.l,core z=core x:=by intro y hy;obtain⟨j,hj⟩:=kh hy;obtain⟨k,i,b1,h1,_,_,rfl,_⟩:=XO is b0 hl j y hj;refine⟨i,z7 h1,FD _ _ _,fun z hz=>?_⟩;obtain⟨x,hx,k,rfl⟩:=FE _ _ _ z hz;exact⟨x,hx,rfl⟩
theorem Nr(a b c:Int)(sF:Nat->Int): ∀(is:List qk)(b0:Nat),(yI a b c sF b0 is).length<=is.length:=by intro is;induction is with|nil=>intro b0;simp[yI]|cons i is ih=>intro b0;have:=ih (b0+1+i.stops.l.length);rw[yI];split<;>simp<;>omega
structure Up (e:ql) (n:Int) (s:qb) (a:Int) (s' :qb) (flags:Sl (Sl Int)):Prop where
 cur:s'.cur=s.cur
 may:mC s'.insts.l (n+(e.text.length-(e.span.to-e.span.qI)))
 fl:so s'.insts.l flags
 len:s'.insts.l.length<=s.insts.l.length
 core: ∀y∈s'.insts.l,∃ i∈s.insts.l,y.stops.l.length<=i.stops.l.length/\ ∀z∈y.stops.l,∃ x∈i.stops.l,core z=core x
 all:a≠ -1->s'.insts.l.length=s.insts.l.length
structure Dg (e:ql) (n:Int) (s:qb) (deep:Bool) (a k:Int) (L:List TS) (h:List Bool) (sd:List Int) (last o:Int):Prop where
 rows:L.map strOf=yx 0 s.insts.l
 row:Iy L n
 hl:h.length=L.length
 sl:sd.length=L.length
 small:L.length<=2^25
 hold:Uk (L.map strOf).length (FL L) (TL L) (UL L) (fun y=>h[y]? =some true) e.span.qI e.span.to
 side:Iz (L.map strOf).length (FL L) (TL L) (UL L) (fun y=>h[y]? =some true) e.span.qI e.span.to last (rj sd)
 own:(a= -1/\k= -1/\o= -1/\ ∀y:Nat,h[y]? ≠some true)\/ ∃(a' k' :Nat)(i:qk)(x:qr),a=a' /\k=k' /\o=((qu s.insts.l a' +1+k' :Nat):Int)/\s.insts.l[a']? =some i/\i.stops.l[k']? =some x/\xl e.span x.span
 has: ∀o' :Nat,o=o' ->h[o']? =some true
 ex:deep=true-> ∀o' :Nat,o=o' ->HE L.length (FL L) (TL L) (UL L) e.span.qI e.span.to o' (fun y=>h[y]? =some true)
theorem JF{L:List TS}(Sj:L.map strOf=yx 0 s.insts.l): ∀(a' k' :Nat)(i:qk)(x:qr),s.insts.l[a']? =some i->i.stops.l[k']? =some x->qu s.insts.l a' +1+k' <L.length/\FL L (qu s.insts.l a' +1+k')=x.span.qI/\TL L (qu s.insts.l a' +1+k')=x.span.to/\UL L (qu s.insts.l a' +1+k')=qu s.insts.l a' +1+x.up:=by intro a' k' i x h1 h2;have pS:=(qF h2).1;have h3:=row_at s.insts.l 0 a' i h1 (k' +1) o?;rw[show (aC (0+qu s.insts.l a') i)[k' +1]? =some (x.span.qI,x.span.to,((0+qu s.insts.l a' :Nat):Int)+1+x.up) by simp[aC,h2],<- Sj]at h3;rw[show qu s.insts.l a' +1+k' =qu s.insts.l a' +(k' +1) by omega];have h4:=eB h3;exact⟨by have:=(qF h3).1;simpa using this,h4.1,h4.2.1,by show Dh _ _=_;rw[h4.2.2];simp⟩
theorem O6{L:List TS}(Sj:L.map strOf=yx 0 s.insts.l): ∀(j:Nat)(y:qk),s.insts.l[j]? =some y->qu s.insts.l j<L.length/\FL L (qu s.insts.l j)=y.span.qI/\TL L (qu s.insts.l j)=y.span.to/\UL L (qu s.insts.l j)= -1:=by intro j y hy;have h3:=row_at s.insts.l 0 j y hy 0 o?;rw[show (aC (0+qu s.insts.l j) y)[0]? =some (y.span.qI,y.span.to,-1) by simp[aC],<- Sj,D?]at h3;have h4:=eB h3;exact⟨by have:=(qF h3).1;simpa using this,h4.1,h4.2.1,h4.2.2⟩
include he in
theorem Mc(hs:xD s)(hm:mC s.insts.l n)(deep:Bool)(qo:qn)(PY:xl e.span qo)(a k:Int)(ho:(a= -1/\k= -1)\/JA s qo a k\/ ∃(a' k' :Nat)(i:qk)(x:qr),a=a' /\k=k' /\s.insts.l[a']? =some i/\i.stops.l[k']? =some x/\xl e.span x.span)(fl:Sl (Sl Int))(Qw:so s.insts.l fl):
  ∃L h sd last o flags,kJ s a k e deep mark fl=some (⟨s.cur,⟨(NI e sd 0 s.insts.l).isEmpty,NI e sd 0 s.insts.l⟩⟩,fl,flags)/\Dg e n s deep a k L h sd last o/\so (NI e sd 0 s.insts.l) flags:=by
 have eR:=he.ab;have hms: ∀i∈s.insts.l,∀ x∈i.stops.l,-1<=x.up/\x.up<=2^20:=by intro i hi x hx;obtain⟨a,ha⟩:=kh hi;obtain⟨k,hk⟩:=kh hx;have h1:=(hm.may a i ha).up k x hk;have h2:=(qF hk).1;have h3:=hs.2 i hi;omega
 obtain⟨L,hL1,Sj⟩:=row_ok s hs hms;have hB:=rowS_ok n s.insts.l 0 0 hm (fun a i hi=>(hm.may a i hi).Zg.1);have hR:Iy L n:=by have:=hB.row;rw[<- Sj]at this;exact this
 have h4:=ZX hs.2;have h5:s.insts.l.length*2^12<=2^12*2^12:=Nat.mul_le_mul hs.1 (jv _);have nH:=hs.1;have rl: ∀(is:List qk)(b:Nat),(yx b is).length=is.length+many is:=by intro is;induction is with|nil=>intro b;simp[yx,many]|cons i is ih=>intro b;have:=ak b i;have:=ih (b+1+i.stops.l.length);simp only[yx,many,List.length_append,List.map_cons,List.sum_cons,List.length_cons]at*;omega
 have hLn:L.length=s.insts.l.length+many s.insts.l:=by rw[<- rl s.insts.l 0,<- Sj];simp
 have BU: ∃o:Int,mR s a k=some o/\((a= -1/\k= -1/\o= -1)\/ ∃(a' k' :Nat)(i:qk)(x:qr),a=a' /\k=k' /\o=((qu s.insts.l a' +1+k' :Nat):Int)/\s.insts.l[a']? =some i/\i.stops.l[k']? =some x/\xl e.span x.span):=by
  rcases ho with ⟨rfl,rfl⟩|ho|⟨a',k',i,x,rfl,rfl,h1,h2,h3⟩;obtain⟨o,g1,g2⟩:=Nz s hs qo (-1) (-1) (.inl ⟨rfl,rfl⟩);refine⟨o,g1, ?_⟩;rcases g2 with g2|⟨a',k',g2,_⟩;exact .inl ⟨g2.1,rfl,g2.2⟩;omega;obtain⟨o,g1,g2⟩:=Nz s hs qo a k (.inr ho);refine⟨o,g1, ?_⟩;obtain⟨a',k',i,x,rfl,rfl,h1,h2,_,_,h3⟩:=ho;rcases g2 with ⟨g2,_⟩|⟨a'',k'',g2,g3,g4⟩;omega;obtain rfl:a' =a'' :=o?;obtain rfl:k' =k'' :=o?;refine .inr ⟨a',k',i,x,rfl,rfl,g4,h1,h2, ?_⟩;unfold xl at*;omega;have h7:JA ⟨x.n,s.insts⟩ x.span a' k' \/x.qL=true:=by cases ht:x.qL with|true=>exact .inr rfl|false=>exact .inl ⟨a',k',i,x,rfl,rfl,h1,h2,rfl,ht,by unfold xl;omega⟩
  have Vb:=(qF h1).1;have pS:=(qF h2).1;have El:=hs.2 i (z7 h1);refine⟨((qu s.insts.l a' +1+k' :Nat):Int), ?_,.inr ⟨a',k',i,x,rfl,rfl,rfl,h1,h2,h3⟩⟩;unfold mR;rw[if_neg v?,gi h1];simp only[zJ,qS];rw[if_neg v?,ws o?,show(0:Int)=((0:Nat):Int)from rfl,Ny s hs a' o? a' 0 (k' +1) o? (by
   have:a' *(2^12+1)<=2^12*(2^12+1):=Nat.mul_le_mul o? (jv _)
   omega)]
  (have:qu s.insts.l 0=0:=by simp[qu]);rw[this,show k' +1+(qu s.insts.l a' -0)=qu s.insts.l a' +1+k' by omega];rfl
 obtain⟨o,ho1,ho2⟩:=BU;have at_o:=JF s Sj;obtain⟨h,hh1,hh2,hh3,hh4,hh5,hh6⟩:=hold_ok L e hR o? he L.isEmpty deep o (by
  rcases ho2 with ⟨_,_,rfl⟩|⟨a',k',i,x,_,_,rfl,h1,h2,h3⟩
  ·exact .inl rfl
  obtain⟨q1,q2,q3,_⟩:=at_o a' k' i x h1 h2
  refine .inr ⟨_,rfl,q1, ?_⟩
  unfold xl at h3
  omega)
 obtain⟨sd,last,hd1,ME,hd3⟩:=sides_ok L e hR L.isEmpty h hh2 o?;have L5: ∀(b0:Nat)(i:qk),i∈s.insts.l->(∀ r x,(aC b0 i)[r]? =some x->(yx 0 s.insts.l)[b0+r]? =some x)-> ∀(k:Nat)(x:qr),i.stops.l[k]? =some x-> -1<=x.up/\ ∀p:Nat,x.up=p->p<k/\(rj sd (b0+1+k)≠1->rj sd (b0+1+p)≠1):=by intro b0 i hi eu k x hx;obtain⟨a',ha'⟩:=kh hi;have hu:=(hm.may a' i ha').up k x hx;refine⟨hu.1,fun p hp=>⟨o?,fun jx=>?_⟩⟩;have h3:=eu (k+1) (x.span.qI,x.span.to,b0+1+x.up) (by simp[aC,hx]);rw[<- Sj,show b0+(k+1)=b0+1+k by omega]at h3;have h4:=eB h3;have h5:=(qF h3).1;exact cl hR hh3 hd3 h5 jx (p:=b0+1+p) (by show Dh _ _=_;rw[h4.2.2];simp only;omega)
 have hz:so [] ⟨true,[]⟩:=⟨rfl,fun c=>absurd rfl c,fun a i f hi=>by simp at hi⟩;obtain⟨flags,hs5,hs6⟩:=shift_L0 e n he mark sd s (qb.mk 0 ⟨true,[]⟩) s.cur hs hm o? L5 fl Qw s.insts.l 0 0 ⟨true,[]⟩ [] rfl (fun q x hx=>by rw[Nat.zero_add];exact hx) (by rw[rl];omega) hz z?;refine⟨L,h,sd,last,o,flags, ?_,⟨Sj,hR,hh2,ME,o?,hh3,hd3, ?_,hh4,hh6⟩,by simpa using hs6⟩;unfold kJ;simp only[hL1,ho1,hh1,hd1,zJ,qS];rw[show ((0:Nat):Int)=0 from rfl]at hs5;rw[hs5];simp;exact ho2.imp (fun h=>⟨h.1,h.2.1,h.2.2,hh5 h.2.2⟩) id
include he in
theorem shift_ok(hs:xD s)(hm:mC s.insts.l n)(deep:Bool)(qo:qn)(PY:xl e.span qo)(a k:Int)(ho:(a= -1/\k= -1)\/JA s qo a k\/ ∃(a' k' :Nat)(i:qk)(x:qr),a=a' /\k=k' /\s.insts.l[a']? =some i/\i.stops.l[k']? =some x/\xl e.span x.span)(fl:Sl (Sl Int))(Qw:so s.insts.l fl):
  ∃s' flags,kJ s a k e deep mark fl=some (s',fl,flags)/\Up e n s a s' flags:=by
 have eR:=he.ab;obtain⟨L,h,sd,last,o,flags,h1,X,hs6⟩:=Mc e n he mark s hs hm deep qo PY a k ho fl Qw;refine⟨_,flags,h1, ?_⟩;have Sj:=X.rows;have hR:=X.row;have hh3:=X.hold;have hd3:=X.side;refine⟨rfl, ?_,hs6,Nr _ _ _ _ _ _, ?_, ?_⟩;have:=FC (c:=(e.text.length:Int)) hR hh3 hd3 he.a0 eR he.bn (Int.natCast_nonneg _) Sj hm;exact this;exact Wr _ _ _ _ s.insts.l 0 (l:=yx 0 s.insts.l) (fun r x hx=>by rw[Nat.zero_add];exact hx);intro hna;refine FB _ _ _ _ s.insts.l 0 fun j y hy=>?_;rw[Nat.zero_add];intro OS;rcases X.own with ⟨h7,_⟩|⟨a',k',i,x,h6,_,h7,h8,h9,h10⟩;exact hna h7;have Fj:=(hm.may a' i h8).inside k' x h9;have hxl:=(hm.may a' i h8).le k' x h9;obtain⟨r1',r2,r3,r4⟩:=O6 s Sj j y hy;have r1:qu s.insts.l j<(L.map strOf).length:=by simpa using r1'
 have hnoH: ¬h[qu s.insts.l j]? =some true:=fun c=>by have:=hd3.holds _ r1 c;have h11:sd.getD (qu s.insts.l j) 0=1:=OS;omega
 have hyr:=(hm.may j y hy).Zg;rcases nD hR hd3 r1 with ⟨c,_⟩|⟨c,c2⟩|⟨c,c2⟩|⟨c,c2⟩;exact hnoH c;by_cases cut:y.span.qI<e.span.to/\e.span.qI<y.span.to;unfold xl at h10;rcases Nat.lt_trichotomy j a' with q|q|q;have:=hm.Rj j a' y i q hy h8;omega;(subst q;rw[hy]at h8;cases h8;have Ej:=X.has _ h7;obtain⟨q1,_,_,_⟩:=JF s Sj j k' y x hy h9;have ZR:dq (UL L) (qu s.insts.l j+1+k') (qu s.insts.l j):=by (have gen: ∀(k:Nat)(x:qr),y.stops.l[k]? =some x->dq (UL L) (qu s.insts.l j+1+k) (qu s.insts.l j):=by intro k;induction k using Nat.strongRecOn with|_ k ih=>intro x hx;have hu:=(hm.may j y hy).up k x hx;have pS:=(qF hx).1;have h4:=(JF s Sj j k y x hy hx).2.2.2;by_cases c:x.up= -1;exact .up _ _ .self o?;obtain⟨p,hp⟩: ∃p:Nat,x.up=p:=⟨x.up.toNat,o?⟩;have sZ:y.stops.l[p]? =some y.stops.l[p]:=wx o?;exact Qb (p:=qu s.insts.l j+1+p) o? (ih p o? _ sZ));exact gen k' x h9);(have: ∀q,dq (UL L) (qu s.insts.l j+1+k') q->q<(L.map strOf).length/\h[q]? =some true:=by intro q hq;induction hq with|self=>exact⟨by simpa using q1,Ej⟩|up x p _ hp ih=>have:=hR.up x ih.1;exact⟨o?,hh3.up x ih.1 ih.2 p hp⟩);exact hnoH (this _ ZR).2;have:=hm.Rj a' j i y q h8 hy;omega;by_cases z:TL L (qu s.insts.l j)<e.span.qI\/TL L (qu s.insts.l j)=e.span.qI/\(FL L (qu s.insts.l j)<TL L (qu s.insts.l j)\/((qu s.insts.l j:Nat):Int)<last\/last<0);have:=hd3.left _ r1 c (fun p hp=>o?) (by rw[r2,r3];exact cut) z;omega;have:=hd3.right _ r1 c (fun p hp=>o?) (by rw[r2,r3];exact cut) z;omega;have h11:sd.getD (qu s.insts.l j) 0=1:=OS;omega;have h11:sd.getD (qu s.insts.l j) 0=1:=OS;omega
end
end Xr
namespace Xr
theorem sortE(e:ql):cr [e]=some [e]:=by
 have h1:qY 0 1 [e]=some [e]:=by unfold qY;rw[qU.eq_1,if_neg (by decide)];rfl
 have h2:zt 1 [e]=some [e]:=by unfold zt;rw[ze.eq_1,if_neg (by decide)];simp only[zJ,qS,h1];rw[zD.eq_1,if_neg (by decide)];rfl
 unfold cr nF zH;rw[if_pos (qA z? o?)];simp[h2]
theorem Nk(e:ql)(n:Int)(he:wv e n)(qo:Int)(h0:0<=qo)(h1:qo<=n)(right:Bool):tK qo right [e]=some (mv e.span.qI e.span.to e.text.length right qo):=by
 have:=he.a0;have:=he.ab;have:=he.bn;have:=he.len;have:=he.nn;have w1:q?.wrap ((0:Int)+1)=1:=by decide
 have oX: ∀x:Int,ke (x,right,1,1,[e],[e])=some x:=fun x=>by rw[ke.eq_1,if_neg (by decide)]
 have hr:kK [e]=some [e]:=by unfold kK;rw[xP.eq_1,if_neg (by rw[show (([e].length:Nat):Int)-1=0 from rfl];decide)];rfl
 unfold tK;rw[sortE];simp only[zJ,qS,hr];rw[ke.eq_1,if_pos z?,show qh [e] (0:Int)=some e from gi (k:=0) rfl];simp only[zJ,qS,g?,e?,w1,nZ];rw[show (((0+1:Nat)):Int)=1 from rfl];simp only[oX];rw[qG (n:=e.span.to-e.span.qI) o? o?,qG (n:=(e.text.length:Int)-(e.span.to-e.span.qI)) o? o?,qG (n:=e.span.qI+(e.text.length:Int)) o? o?,qG (n:=qo+((e.text.length:Int)-(e.span.to-e.span.qI))) o? o?];unfold mv;by_cases h2:qo<e.span.qI;simp[h2];by_cases h3:qo>e.span.to;simp[h2,h3];cases right<;>simp[h2,h3]
theorem YN(r:zI)(n:Int)(he:wv r.e n)(p:qn)(h0:0<=p.qI)(h1:p.qI<=p.to)(h2:p.to<=n)(side:Int):wD p (side+1) r=some (VH r.e.span.qI r.e.span.to r.e.text.length side p):=by
 have:=he.a0;have:=he.ab;have:=he.bn;have:=he.len;have:=he.nn;unfold wD VH nZ;by_cases h:side=0;subst h;simp only[zJ,qS];rw[if_pos z?,qG (n:=p.to+(r.e.text.length:Int)) o? o?,qG (n:=r.e.span.to-r.e.span.qI) o? o?,qG (n:=p.to+(r.e.text.length:Int)-(r.e.span.to-r.e.span.qI)) o? o?];simp;omega;have e1:(side+1==4)=decide (side=3):=by by_cases h:side=3<;>simp[h];omega
 rw[if_neg v?,Nk r.e n he p.qI o? o?,Nk r.e n he p.to o? o?,if_neg h,e1];rfl
def Y1(x:qr):Prop:=d9 x.qR=some x.qR/\vH x.opts=some x.opts
def lQ(i:qk):qk:=⟨i.span,⟨i.stops.l.isEmpty,i.stops.l⟩⟩
theorem On(s:qb)(hs:xD s)(hc: ∀i∈s.insts.l,∀ x∈i.stops.l,Y1 x):rC s=some ⟨s.cur,⟨(s.insts.l.map lQ).isEmpty,s.insts.l.map lQ⟩⟩:=by
 have nH:=hs.1;have l2: ∀(i:qk)(oT:Sl qk)(Uh ec:Int)(t2:qb)(insts:List qk),i.stops.l.length<=2^12-> ∀(r:List qr)(k:Nat)(acc:List qr),i.stops.l.drop k=r->acc.length+r.length<=2^12->(∀ x∈r,Y1 x)->
   vX (oT,Uh,ec,i.stops,(i.stops.l.length:Int),(k:Int),s,t2,insts,i,acc)=some (acc++r):=by
  intro i oT Uh ec t2 insts hl r;induction r with
  |nil=>
   intro k acc h _ _;have:=qW h;rw[vX.eq_1,if_neg v?];simp
  |cons x r ih=>
   intro k acc h ha hx;obtain⟨g1,g2,g3⟩:=zl h;have hxc:=hx x z?;simp only[g?]at ha;rw[vX.eq_1,if_pos v?,gi g1];simp only[zJ,qS,hxc.1,hxc.2];rw[if_pos qA,ws o?,ih (k+1) _ g2 v? (fun y hy=>hx y (by simp[hy]))];simp
 have l0: ∀(r:List qk)(a:Nat)(acc:List qk),s.insts.l.drop a=r->acc.length+r.length<=2^12-> ∀t2,vW (s.insts,(s.insts.l.length:Int),(a:Int),s,t2,acc)=some (acc++r.map lQ):=by intro r;induction r with|nil=>intro a acc h _ t2;have:=qW h;rw[vW.eq_1,if_neg v?];simp|cons i r ih=>intro a acc h ha t2;obtain⟨g1,g2,g3⟩:=zl h;have hm:=z7 g1;have hl:=hs.2 i hm;simp only[g?]at ha;rw[vW.eq_1,if_pos v?,gi g1];simp only[zJ,qS];have:=l2 i s.insts (s.insts.l.length:Int) (a:Int) t2 acc hl i.stops.l 0 [] rfl (by simpa using hl) (hc i hm);rw[show ((0:Nat):Int)=0 from rfl]at this;rw[this];simp only[qS,F?];rw[if_pos qA,ws o?,ih (a+1) _ g2 v?];simp[lQ]
 unfold rC;have:=l0 s.insts.l 0 [] rfl (by simpa using nH) (qb.mk 0 ⟨true,[]⟩);rw[show ((0:Nat):Int)=0 from rfl]at this;rw[this];simp
structure Iw (is:List qk) (m:List (Sl qN)):Prop where
 len:m.length=is.length
 each: ∀(a:Nat)(i:qk)(f:Sl qN),is[a]? =some i->m[a]? =some f->f.l.length=i.stops.l.length
theorem FH(s:qb)(hs:xD s)(hc: ∀i∈s.insts.l,∀ x∈i.stops.l,Y1 x): ∃m,pj s=some ⟨⟨s.cur,⟨(s.insts.l.map lQ).isEmpty,s.insts.l.map lQ⟩⟩,⟨m.isEmpty,m⟩⟩/\Iw s.insts.l m:=by
 have nH:=hs.1;have l2: ∀(ec:Sl qk)(VY ay:Int)(t2:zh)(o1:Int)(o2:Sl qk)(r3:List (Sl qN))(b4:qk)(L:Nat),L<=2^12-> ∀(d k:Nat)(m:List qN),k+d=L->m.length=L->
   ∃m',vZ (ec,VY,ay,(L:Int),(k:Int),s,t2,o1,o2,r3,b4,m)=some m' /\m'.length=L:=by
  intro ec VY ay t2 o1 o2 r3 b4 L hL d;induction d with
  |zero=>
   intro k m h hm;rw[vZ.eq_1,if_neg v?];exact⟨m,rfl,hm⟩
  |succ d ih=>
   intro k m h hm;obtain⟨x,hx⟩:=gl (l:=m) (k:=k) o?;rw[vZ.eq_1,if_pos v?,gi hx];simp only[zJ,qS];rw[ws o?];exact ih (k+1) _ o? (by simpa using hm)
 have l0: ∀(t2:zh)(o1:Int)(o2:Sl qk)(r:List qk)(a:Nat)(acc:List (Sl qN)),s.insts.l.drop a=r->acc.length=a->
   ∃m,vY (s.insts,(s.insts.l.length:Int),(a:Int),s,t2,o1,o2,acc)=some (acc++m)/\Iw r m:=by
  intro t2 o1 o2 r;induction r with
  |nil=>
   intro a acc h _;have:=qW h;rw[vY.eq_1,if_neg v?];exact⟨[],z?,rfl,fun a i f h=>by simp at h⟩
  |cons i r ih=>
   intro a acc h ha;obtain⟨g1,g2,g3⟩:=zl h;have hl:=hs.2 i (z7 g1);rw[vY.eq_1,if_pos v?,gi g1];simp only[zJ,qS];rw[if_pos o?,if_pos (qA v? o?)];obtain⟨m',k1,k2⟩:=l2 s.insts (s.insts.l.length:Int) (a:Int) t2 o1 o2 acc i i.stops.l.length hl i.stops.l.length 0 (b? i.stops.l.length (qN.mk 0 false)) o? z?;simp only[c?,List.length_replicate];rw[show ((0:Nat):Int)=0 from rfl]at k1;rw[k1];simp only[qS];rw[if_pos qA,ws o?];obtain⟨m,q1,q2⟩:=ih (a+1) (acc++[⟨false,m'⟩]) g2 (by simp[ha]);refine⟨⟨false,m'⟩::m,by rw[q1];simp,by simp[q2.len],fun a j f hj hf=>?_⟩;cases a with
   |zero=>simp only[a?,kG]at hj hf;subst hj hf;exact k2
   |succ a=>exact q2.each a j f hj hf
 unfold pj;rw[On s hs hc];simp only[zJ,qS];obtain⟨m,q1,q2⟩:=l0 _ s.cur ⟨(s.insts.l.map lQ).isEmpty,s.insts.l.map lQ⟩ s.insts.l 0 [] rfl rfl;rw[show ((0:Nat):Int)=0 from rfl]at q1;rw[q1];exact⟨m,z?,q2⟩
end Xr
namespace Xr
theorem Qc: ∀(is:List qk)(a b:Nat)(i:qk),a<b->is[a]? =some i->b<=is.length->qu is a+1+i.stops.l.length<=qu is b:=by intro is;induction is with|nil=>intro a b i _ h;simp at h|cons j is ih=>intro a b i h1 h2 h3;obtain⟨b,rfl⟩: ∃c,b=c+1:=⟨b-1,o?⟩;rw[cp];cases a with|zero=>simp only[a?,kG]at h2;subst h2;simp[qu]|succ a=>rw[cp];have:=ih a b i o? (by simpa using h2) (by simpa using h3);omega
theorem As: ∀(is:List qk)(b y:Nat),y<(yx b is).length-> ∃j i r,is[j]? =some i/\r<=i.stops.l.length/\y=qu is j+r:=by intro is;induction is with|nil=>intro b y h;simp[yx]at h|cons i is ih=>intro b y h;have hL:=ak b i;rw[yx,t?,hL]at h;by_cases c:y<1+i.stops.l.length;exact⟨0,i,y,rfl,o?,by simp[qu]⟩;obtain⟨j,i',r,h1,h2,h3⟩:=ih (b+1+i.stops.l.length) (y-(1+i.stops.l.length)) o?;exact⟨j+1,i',r,by simpa using h1,h2,by rw[cp];omega⟩
section
variable {e:ql} {n:Int} {s:qb} {a k:Int} {L:List TS} {h:List Bool} {sd:List Int} {last o:Int}
theorem W7(X:Dg e n s true a k L h sd last o)(hm:mC s.insts.l n){A K:Nat}{i:qk}{x:qr}(ho:o=((qu s.insts.l A+1+K:Nat):Int))(hi:s.insts.l[A]? =some i)(hx:i.stops.l[K]? =some x):
  ∀y:Nat,h[y]? =some true->qu s.insts.l A<=y/\y<=qu s.insts.l A+i.stops.l.length:=by
 have hKl:=(qF hx).1;have hE:=X.ex rfl _ ho;have anc: ∀y,dq (UL L) (qu s.insts.l A+1+K) y->qu s.insts.l A<=y/\y<=qu s.insts.l A+i.stops.l.length:=by intro y hy;induction hy with|self=>omega|up z p _ hp ih=>by_cases c:z=qu s.insts.l A;subst c;have:=(O6 s X.rows A i hi).2.2.2;omega;obtain⟨q,rfl⟩: ∃q,z=qu s.insts.l A+1+q:=⟨z-qu s.insts.l A-1,o?⟩;obtain⟨w,hw⟩:=gl (l:=i.stops.l) (k:=q) o?;have h1:=(JF s X.rows A q i w hi hw).2.2.2;have h2:=(hm.may A i hi).up q w hw;omega
 intro y;induction y using r? with|_ y ih=>intro hy;rcases hE.fw y hy with c|⟨c1,c2,c3,_⟩;exact anc y c;(have Fk:y<L.length:=by have:=(qF hy).1;have:=X.hl;omega);obtain⟨j,i',r,g1,g2,g3⟩:=As s.insts.l 0 y (by rw[<- X.rows];simpa using Fk);have Gj:=(qF g1).1;have hAl:=(qF hi).1;rcases E! j A with q|q|q;have:=Qc s.insts.l j A i' q g1 o?;omega;subst q;rw[hi]at g1;cases g1;omega;have hb:=Qc s.insts.l A j i q hi o?;cases r with|zero=>have:=(O6 s X.rows j i' g1).2.2.2;rw[D?]at g3;rw[g3]at c2;omega|succ r=>(obtain⟨w,hw⟩:=gl (l:=i'.stops.l) (k:=r) o?;have h1:=(JF s X.rows j r i' w g1 hw).2.2.2;have h2:=(hm.may j i' g1).up r w hw;have h3:UL L y=qu s.insts.l j+1+w.up:=by rw[g3,show qu s.insts.l j+(r+1)=qu s.insts.l j+1+r by omega];exact h1);obtain⟨p,hp⟩: ∃p:Nat,UL L y=p:=⟨(UL L y).toNat,o?⟩;have:=ih p o? (c3 p hp);omega
end
structure DoesH (B:Nat) (len:Nat) (h:List Bool) (r:Nat) (d:List Int):Prop where
 len:d.length=len+1
 one: ∀j,j<r->(d[j]? =some 1↔h[B+j]? =some true)
 zero: ∀(j:Nat)(v:Int),d[j]? =some v->v=0\/v=1
 rest: ∀j,r<=j->d[j]? ≠some 1
theorem UU(l:List Int)(k j:Nat)(hk:k<l.length):(l.set k 1)[j]? =some 1↔j=k\/l[j]? =some 1:=by rw[zm];by_cases c:k=j;subst c;simp[hk];simp[c];omega
section
variable (i:qk) (stop:Int) (deep:Bool) (q1 q2:Int) (q3:qa) (q4 q5:Int) (r1:List (Sl Int)) (n1:Nat)
theorem D5(hu: ∀(k:Nat)(x:qr),i.stops.l[k]? =some x-> -1<=x.up/\x.up<(k:Nat)){k:Nat}{x:qr}(hx:i.stops.l[k]? =some x):tN i (k:Int)=some x.up:=by unfold tN;have:=hu k x hx;rw[gi hx];simp only[zJ,qS];by_cases c:0<=x.up;rw[if_pos v?];rw[if_neg v?,show x.up= -1 by omega]
theorem phold_L0(hl:i.stops.l.length<=2^12)(hu: ∀(k:Nat)(x:qr),i.stops.l[k]? =some x-> -1<=x.up/\x.up<(k:Nat))(U:Nat->Int)(B:Nat)(hU: ∀(k:Nat) x,i.stops.l[k]? =some x->U (B+1+k)=B+1+x.up)(hB:U B= -1):
  ∀(c:Nat)(d:List Int),c<i.stops.l.length->d.length=i.stops.l.length+1->d[0]? =some 1->
  ∃d' :List Int,ky (stop,deep,(c:Int),q1,q2,q3,q4,q5,r1,n1,i,d)=some d' /\d'.length=i.stops.l.length+1/\(∀(j:Nat)(v:Int),d'[j]? =some v->v=1\/d[j]? =some v)/\ ∀j,d'[j]? =some 1↔d[j]? =some 1\/dq U (B+1+c) (B+j):=by intro c;induction c using r? with|_ c ih=>(intro d hc hd hd0;obtain⟨x,hx⟩:=gl (l:=i.stops.l) (k:=c) hc;have ML:=hu c x hx;have hUx:=hU c x hx;obtain⟨w,hw⟩:=gl (l:=d) (k:=c+1) o?;rw[ky.eq_1,if_pos z?,ws o?,gi hw,D5 i hu hx];simp only[zJ,qS,c?];have hs:=fun j=>UU d (c+1) j o?;have hv: ∀(j:Nat)(v:Int),(d.set (c+1) 1)[j]? =some v->v=1\/d[j]? =some v:=by intro j v h;rw[zm]at h;split at h;left;simpa using h.symm;exact .inr h);by_cases hp:0<=x.up;obtain⟨p,hp⟩: ∃p:Nat,x.up=p:=⟨x.up.toNat,o?⟩;obtain⟨d',g1,g2,g4,g3⟩:=ih p o? (d.set (c+1) 1) o? (by simpa using hd) (by rw[zm,if_neg o?];exact hd0);refine⟨d',by rw[hp,g1],g2,fun j v h=>?_,fun j=>?_⟩;rcases g4 j v h with k|k;exact .inl k;exact hv j v k;rw[g3,hs];constructor;rintro((rfl|k)|k);exact .inr (by rw[show B+(c+1)=B+1+c by omega];exact .self);exact .inl k;exact .inr (Qb (by rw[hUx,hp];omega) k);rintro(k|k);exact .inl (.inr k);rcases eK k with e1|⟨q,hq,k⟩;exact .inl (.inl o?);obtain rfl:q=B+1+p:=o?;exact .inr k;rw[ky.eq_1,if_neg (by simpa using hp)];refine⟨_,rfl,by simpa using hd,hv,fun j=>?_⟩;rw[hs];constructor;rintro(rfl|k);exact .inr (by rw[show B+(c+1)=B+1+c by omega];exact .self);exact .inl k;rintro(k|k);exact .inr k;rcases eK k with e1|⟨q,hq,k⟩;exact .inl o?;obtain rfl:q=B:=o?;rcases eK k with e1|⟨q',Ek,_⟩;obtain rfl:j=0:=o?;exact .inr hd0;omega
theorem Dv(x:qn)(r:List (Sl Int))(n2:Nat)(d:List Int):vK x q1 q2 q3 q4 q5 r n2 d=some (decide (x.qI<q1/\q2<x.to\/q1<q2/\x.qI<=q1/\q2<=x.to)):=by unfold vK;by_cases c1:x.qI<q1/\q2<x.to;simp[c1];rw[if_neg v?];by_cases c2:q1<q2;rw[if_pos (by simpa using c2)];show(d7 ⟨q1,q2⟩ x>>=fun v=>some v)=_;rw[show d7 ⟨q1,q2⟩ x=_ from iU _ _];simp only[zJ,qS,kG,decide_eq_decide];unfold xl;simp only;omega;rw[if_neg (by simpa using c2)];simp;omega
structure PI (B K:Nat) (h:List Bool) (r:Nat) (d:List Int) (ins:List Bool) (P:Nat):Prop where
 dl:d.length=i.stops.l.length+1
 il:ins.length=i.stops.l.length
 zo: ∀(j:Nat)(v:Int),d[j]? =some v->v=0\/v=1
 one: ∀j,j<=r->(d[j]? =some 1↔h[B+j]? =some true)
 rest: ∀j,r<j->d[j]? ≠some 1
 i1: ∀j,j<r->d[j+1]? =some 1->K<=j->ins[j]? =some true
 i2: ∀j,ins[j]? =some true->K<=j
 p1:d[P]? =some 1
 p2: ∀j,d[j]? =some 1->j<=P
theorem PI.next{B K:Nat}{h:List Bool}{r:Nat}{d:List Int}{ins:List Bool}{P:Nat}(H:PI i B K h r d ins P)(hr:r<i.stops.l.length)(hP:P<=r)(t v:Bool)(ht:t=true↔h[B+(r+1)]? =some true)(Z7:t=true->v=true)(Ta:v=true->K<=r):
  PI i B K h (r+1) (if t=true then d.set (r+1) 1 else d) (ins.set r v) (if t=true then r+1 else P):=by have Sp:=H.dl;have db:=H.il;have hs:=fun j=>UU d (r+1) j o?;have hn:=H.rest (r+1) o?;cases t with|true=>have h1:=ht.1 rfl;simp only[if_true];refine⟨by simpa using Sp,by simpa using db,fun j w hw=>?_,fun j hj=>?_,fun j hj hc=>?_,fun j hj h2 h3=>?_,fun j hj=>?_,(hs _).2 (.inl rfl),fun j hj=>?_⟩;rw[zm]at hw;split at hw;right;simpa using hw.symm;exact H.zo j w hw;rw[hs];by_cases c:j=r+1;subst c;simp[h1];rw[H.one j o?];simp[c];rcases(hs j).1 hc with c|c;omega;exact H.rest j o? c;rw[zm];by_cases c:r=j;rw[if_pos ⟨c,o?⟩,Z7 rfl];rw[if_neg o?];rcases(hs (j+1)).1 h2 with c2|c2;omega;exact H.i1 j o? c2 h3;rw[zm]at hj;split at hj;rename_i c;have:=Ta (by simpa using hj);omega;exact H.i2 j hj;rcases(hs j).1 hj with c|c;omega;have:=H.p2 j c;omega|false=>(have h1: ¬h[B+(r+1)]? =some true:=fun c=>by have:=ht.2 c;cases this);simp only[wA,if_false];refine⟨Sp,by simpa using db,H.zo,fun j hj=>?_,fun j hj=>H.rest j o?,fun j hj h2 h3=>?_,fun j hj=>?_,H.p1,H.p2⟩;by_cases c:j=r+1;subst c;simp[h1,hn];exact H.one j o?;by_cases c:r=j;subst c;exact absurd h2 hn;rw[zm,if_neg o?];exact H.i1 j o? h2 h3;rw[zm]at hj;split at hj;rename_i c;have:=Ta (by simpa using hj);omega;exact H.i2 j hj
end
section
variable {e:ql} {n:Int} {s:qb} {a k:Int} {L:List TS} {h:List Bool} {sd:List Int} {last o:Int}
theorem phold_L2(X:Dg e n s true a k L h sd last o)(hm:mC s.insts.l n)(dF:xD s){A K:Nat}{i:qk}{x:qr}(ho:o=((qu s.insts.l A+1+K:Nat):Int))(hi:s.insts.l[A]? =some i)(hx:i.stops.l[K]? =some x)
  (q3:qa) (q4:Int) (r1:List (Sl Int)) (n1:Nat): ∀(m r:Nat)(d:List Int)(ins:List Bool)(P:Nat),r+m=i.stops.l.length->K<r->P<=r->PI i (qu s.insts.l A) K h r d ins P->
  ∃(d' :List Int)(Fl:List Bool)(P' :Nat),zv (true,(r:Int),e.span.qI,e.span.to,q3,q4,(P:Int),r1,n1,i,d,ins)=some ((P' :Int),d',Fl)/\PI i (qu s.insts.l A) K h i.stops.l.length d' Fl P' :=by
 have hE:=X.ex rfl _ ho;have hKl:=(qF hx).1;have db:=dF.2 i (z7 hi);have hu:=(hm.may A i hi).up;intro m;induction m with
  |zero=>intro r d ins P hr _ _ H;obtain rfl:r=i.stops.l.length:=o?;rw[zv.eq_1,if_neg z?];exact⟨d,ins,P,rfl,H⟩
  |succ m ih=>
   intro r d ins P hr hKr hPr H;obtain⟨y,hy⟩:=gl (l:=i.stops.l) (k:=r) o?;have huy:=hu r y hy;obtain⟨f0,f1,f2,f3⟩:=JF s X.rows A r i y hi hy;obtain⟨w,hw⟩:=gl (l:=ins) (k:=r) (by rw[H.il];omega);have Sp:=H.dl;have hiL:=H.il;have oX: ∀(t v:Bool),(t=true↔h[qu s.insts.l A+(r+1)]? =some true)->(t=true->v=true)->(v=true->K<=r)-> ∃(d' :List Int)(Fl:List Bool)(P' :Nat),zv (true,((r+1:Nat):Int),e.span.qI,e.span.to,q3,q4,((if t=true then r+1 else P:Nat):Int),r1,n1,i,(if t=true then d.set (r+1) 1 else d),ins.set r v)=some ((P' :Int),d',Fl)/\PI i (qu s.insts.l A) K h i.stops.l.length d' Fl P' :=
    fun t v h1 h2 h3=>ih (r+1) _ _ _ o? o? (by split<;>omega) (H.next i o? hPr t v h1 h2 h3)
   (have fw:h[qu s.insts.l A+(r+1)]? =some true-> ∃p:Nat,y.up=p/\K<=p/\h[qu s.insts.l A+(p+1)]? =some true/\Kk (FL L) (TL L) e.span.qI e.span.to (qu s.insts.l A+1+r):=by intro c;rw[show qu s.insts.l A+(r+1)=qu s.insts.l A+1+r by omega]at c;rcases hE.fw _ c with g|⟨_,g2,g3,g4⟩;have:=lq X.row (by simpa using(JF s X.rows A K i x hi hx).1) g;omega;refine⟨y.up.toNat,o?,o?, ?_,g4⟩;have:=g3 (qu s.insts.l A+(y.up.toNat+1)) o?;exact this);have gs: ∀v,qh (ins.set r v) (r:Int)=some v:=fun v=>gi (by rw[zm,if_pos ⟨rfl,o?⟩]);rw[zv.eq_1,if_pos v?,D5 i hu hy,ws o?,gi hw];simp only[zJ,qS,c?,gs];by_cases c0:0<=y.up;(obtain⟨p,hp⟩: ∃p:Nat,y.up=p:=⟨y.up.toNat,o?⟩;obtain⟨v,hv⟩:=gl (l:=ins) (k:=p) o?;obtain⟨dv,hdv⟩:=gl (l:=d) (k:=p+1) o?;obtain⟨dr,hdr⟩:=gl (l:=d) (k:=r+1) o?;rw[if_pos (by simpa using c0),hp,gi hv,ws (k:=p) o?,gi hdv,gi hy,gi hdr];simp only[qS,Dv];have f2' :=H.i2 p;cases v with|false=>simp only[wA,if_false];refine oX false false ⟨fun c=>(by cases c),fun c=>?_⟩ (fun c=>by cases c) (fun c=>by cases c);obtain⟨p',g1,g2,g3,_⟩:=fw c;obtain rfl:p=p' :=o?;have:=H.i1 p o? ((H.one (p+1) o?).2 g3) g2;rw[hv]at this;cases this|true=>have hKp:=f2' hv;simp only[if_true];by_cases c1:dv=1;subst c1;rw[if_pos z?];by_cases c2:y.span.qI<e.span.qI/\e.span.to<y.span.to\/e.span.qI<e.span.to/\y.span.qI<=e.span.qI/\e.span.to<=y.span.to;simp only[c2,decide_true,if_true];refine oX true true ⟨fun _=>?_,fun _=>rfl⟩ (fun _=>rfl) (fun _=>o?);rw[show qu s.insts.l A+(r+1)=qu s.insts.l A+1+r by omega];refine hE.bw _ f0 o? o? (fun p' Sx=>?_) (by unfold Kk;rw[f1,f2];exact c2);obtain rfl:p' =qu s.insts.l A+(p+1):=o?;exact(H.one (p+1) o?).1 hdv;simp only[c2,decide_false,wA,if_false];refine oX false true ⟨fun c=>(by cases c),fun c=>?_⟩ (fun _=>rfl) (fun _=>o?);obtain⟨p',_,_,_,g4⟩:=fw c;unfold Kk at g4;rw[f1,f2]at g4;exact absurd g4 c2;rw[if_neg (by simpa using c1)];refine oX false true ⟨fun c=>(by cases c),fun c=>?_⟩ (fun _=>rfl) (fun _=>o?);obtain⟨p',g1,g2,g3,_⟩:=fw c;obtain rfl:p=p' :=o?;have:=(H.one (p+1) o?).2 g3;rw[hdv]at this;cases this;exact absurd rfl c1);rw[if_neg (by simpa using c0)];simp only[wA,if_false];refine oX false false ⟨fun c=>(by cases c),fun c=>?_⟩ (fun c=>by cases c) (fun c=>by cases c);obtain⟨p',g1,_⟩:=fw c;omega
end
end Xr
namespace Xr
def GM(s:qb)(last b4 b5:Int):Prop:=(b4= -1/\last<0)\/ ∃(A P:Nat)(i:qk),b4=A/\b5=P/\last=((qu s.insts.l A+P:Nat):Int)/\s.insts.l[A]? =some i/\P<=i.stops.l.length
theorem N6{s:qb}{last b4 b5:Int}(hL:GM s last b4 b5){j q:Nat}{i:qk}(hj:s.insts.l[j]? =some i)(hq:q<=i.stops.l.length):
  (b4<0\/(j:Int)<b4\/(j:Int)=b4/\(q:Int)<b5)↔(((qu s.insts.l j+q:Nat):Int)<last\/last<0):=by have Gj:=(qF hj).1;rcases hL with ⟨rfl,h⟩|⟨A,P,iA,rfl,rfl,rfl,hA,hP⟩;omega;have hAl:=(qF hA).1;rcases E! j A with c|c|c;have:=Qc s.insts.l j A i c hj o?;omega;subst c;omega;have:=Qc s.insts.l A j iA c hA o?;omega
section
variable {m:Nat} {F W U:Nat->Int} {n:Int} {H:Nat->Prop} {a b last:Int} {sF:Nat->Int}
theorem CT(hR:Row m F W U n)(hH:Uk m F W U H a b)(hS:Iz m F W U H a b last sF){y:Nat}(hy:y<m)(hn: ¬H y)(x:qn)(h1:x.qI=F y)(h2:x.to=W y)(o8 inst qZ b4 b5:Int)(b3:qa)(r:List (Sl Int))(n2:Nat)(d:List Int)
  (har:(U y= -1/\o8=1)\/ ∃p:Nat,U y=p/\o8=sF p+1) (hl:(b4<0\/inst<b4\/inst=b4/\qZ<b5)↔((y:Int)<last\/last<0)):
  jH x o8 inst qZ a b b3 b4 b5 r n2 d=some (sF y+1):=by
 have hu:=hR.up y hy;have last3:(∀ p:Nat,U y=p->sF p≠1/\H p)->jH x 1 inst qZ a b b3 b4 b5 r n2 d=some (sF y+1):=by intro hp;unfold jH;rw[if_neg z?];by_cases c:F y<b/\a<W y;rw[if_pos v?,hS.cut y hy hn (fun p h=>(hp p h).1) c.1 c.2];rfl;rw[if_neg v?];by_cases c2:W y<a\/W y=a/\(F y<W y\/(y:Int)<last\/last<0);rw[if_pos v?,hS.left y hy hn hp c c2];rfl;rw[if_neg v?,hS.right y hy hn hp c c2];rfl
 rcases har with ⟨g1,rfl⟩|⟨p,g1,rfl⟩;exact last3 fun p hp=>o?;have one: ∀p' :Nat,U y=p' ->p' =p:=fun p' h=>o?;have T4:=hR.nest y hy p g1;rcases nD hR hS (r:=p) o? with ⟨k1,k2⟩|⟨k1,k2⟩|⟨k1,k2⟩|⟨k1,k2⟩;(rw[k2];exact last3 fun p' Sx=>by rw[one p' Sx,k2];exact⟨o?,k1⟩);rw[k2,hS.gone y hy hn p g1 k2];unfold jH;rw[if_pos z?];have:=ZT hR hH hS o? k2;have:=hS.ZV y hy hn (fun p' Sx=>by rw[one p' Sx,k2];omega) o? p g1 k1;rw[this,k2];unfold jH;rw[if_pos z?];have:=ai hR hH hS o? k2;have:=hS.ZV y hy hn (fun p' Sx=>by rw[one p' Sx,k2];omega) o? p g1 k1;rw[this,k2];unfold jH;rw[if_pos z?]
end
section
variable {e:ql} {n:Int} {s:qb} {a k:Int} {L:List TS} {h:List Bool} {sd:List Int} {last o:Int}
theorem IY(hL:L.map strOf=yx 0 s.insts.l)(hm:mC s.insts.l n){A:Nat}{i:qk}(hi:s.insts.l[A]? =some i): ∀(k:Nat)(x:qr),i.stops.l[k]? =some x->dq (UL L) (qu s.insts.l A+1+k) (qu s.insts.l A):=by intro k;induction k using r? with|_ k ih=>intro x hx;have hu:=(hm.may A i hi).up k x hx;have pS:=(qF hx).1;have h4:=(JF s hL A k i x hi hx).2.2.2;by_cases c:x.up= -1;exact .up _ _ .self o?;obtain⟨p,hp⟩: ∃p:Nat,x.up=p:=⟨x.up.toNat,o?⟩;obtain⟨w,hw⟩:=gl (l:=i.stops.l) (k:=p) o?;exact Qb (p:=qu s.insts.l A+1+p) o? (ih p o? w hw)
def It(B len:Nat)(h:List Bool)(d:List Int):Prop:=d.length=len+1/\ ∀j,j<=len->(d[j]? =some 1↔h[B+j]? =some true)
theorem phold_ok(X:Dg e n s true a k L h sd last o)(hm:mC s.insts.l n)(dF:xD s){A K:Nat}{i:qk}{x:qr}(ho:o=((qu s.insts.l A+1+K:Nat):Int))(hi:s.insts.l[A]? =some i)(hx:i.stops.l[K]? =some x)
  (q3:qa) (q5:Int) (r:Sl (Sl Int)) (hr:r.nil=false) (hz:r.l[A]? =some ⟨false,b? (i.stops.l.length+1) 0⟩):
  ∃(d:List Int)(P:Nat),nO i (K:Int) true e.span.qI e.span.to q3 (A:Int) q5 r=some ((P:Int),⟨false,r.l.set A ⟨false,d⟩⟩)/\It (qu s.insts.l A) i.stops.l.length h d/\GM s last (A:Int) (P:Int):=by
 have hE:=X.ex rfl _ ho;have hKl:=(qF hx).1;have db:=dF.2 i (z7 hi);have hu:=(hm.may A i hi).up;have hU:=fun k x hx=>(JF s X.rows A k i x hi hx).2.2.2;have hB:=(O6 s X.rows A i hi).2.2.2;have Sw:=(JF s X.rows A K i x hi hx).1;have rep: ∀(j:Nat)(v:Int),(b? (i.stops.l.length+1) (0:Int))[j]? =some v->v=0:=fun j v hv=>by rw[Q!]at hv;split at hv;simpa using hv.symm;cases hv
 have gs:=fun j=>UU (b? (i.stops.l.length+1) (0:Int)) 0 j z?;obtain⟨d,d1,d2,d4,d3⟩:=phold_L0 i (K:Int) true e.span.qI e.span.to q3 (A:Int) q5 r.l A db hu (UL L) (qu s.insts.l A) hU hB K ((b? (i.stops.l.length+1) (0:Int)).set 0 1) hKl z? ((gs 0).2 (.inl rfl));have dd: ∀j,d[j]? =some 1↔j=0\/dq (UL L) (qu s.insts.l A+1+K) (qu s.insts.l A+j):=by intro j;rw[d3,gs];constructor;rintro((k|k)|k);exact .inl k;have:=rep j 1 k;omega;exact .inr k;rintro(k|k);exact .inl (.inl k);exact .inr k
 have aI:=IY X.rows hm hi K x hx;have le:=fun q=>lq (q:=q) X.row (by simpa using Sw);have PI0:PI i (qu s.insts.l A) K h (K+1) d ((b? i.stops.l.length false).set K true) (K+1):=by (have ins: ∀j,((b? i.stops.l.length false).set K true)[j]? =some true↔j=K:=by intro j;rw[zm,Q!];by_cases c:K=j;subst c;simp[hKl];simp[c];omega);refine⟨d2,z?,fun j v hv=>?_,fun j hj=>?_,fun j hj hc=>?_,fun j hj _ hc=>(ins j).2 o?,fun j hj=>by have:=(ins j).1 hj;omega,(dd _).2 (.inr ?_),fun j hj=>?_⟩;rcases d4 j v hv with c|c;exact .inr c;rw[zm]at c;split at c;right;simpa using c.symm;exact .inl (rep j v c);rw[dd];constructor;rintro(rfl|c);exact hE.anc _ aI;exact hE.anc _ c;intro c;rcases hE.fw _ c with g|⟨g,_⟩;exact .inr g;omega;rcases(dd j).1 hc with c|c;omega;have:=le _ c;omega;rw[show qu s.insts.l A+(K+1)=qu s.insts.l A+1+K by omega];exact .self;rcases(dd j).1 hj with c|c;omega;have:=le _ c;omega
 obtain⟨d',Fl,P,g1,g2⟩:=phold_L2 X hm dF ho hi hx q3 (A:Int) r.l A (i.stops.l.length-(K+1)) (K+1) d _ (K+1) o? o? o? PI0;have hz0:qh (b? (i.stops.l.length+1) (0:Int)) 0=some 0:=by rw[show (0:Int)=((0:Nat):Int)from rfl];exact gi z?
 have hins:qh (b? i.stops.l.length false) (K:Int)=some false:=gi (by simp[hKl]);refine⟨d',P, ?_,⟨g2.dl,g2.one⟩,.inr ⟨A,P,i,rfl,rfl, ?_,hi, ?_⟩⟩;unfold nO;rw[hr,if_neg z?,gi hz];simp only[zJ,qS];rw[if_neg z?,hz0];simp only[qS,c?,q1e];rw[d1];simp only[qS];rw[if_pos o?,if_pos qA,hins,ws o?];simp only[qS];rw[g1];rfl;have hp:=(g2.one P (by have:=(qF g2.p1).1;have:=g2.dl;omega)).1 g2.p1;have hl1:=X.side.Lz (qu s.insts.l A+P) (by have:=(qF hp).1;have:=X.hl;simp;omega) hp;obtain⟨y,y1,y2,y3⟩:=X.side.LA o?;have yr:=W7 X hm ho hi hx y y3;have:=g2.p2 (y-qu s.insts.l A) ((g2.one _ o?).2 (by rw[show qu s.insts.l A+(y-qu s.insts.l A)=y by omega];exact y3));omega;have:=(qF g2.p1).1;have:=g2.dl;omega
def GQ(B len:Nat)(sd:List Int)(d:List Int):Prop:=d.length=len+1/\ ∀j,j<=len->d[j]? =some (rj sd (B+j)+1)
theorem q0k{deep:Bool}(X:Dg e n s deep a k L h sd last o)(hm:mC s.insts.l n)(dF:xD s){b4 b5:Int}(hL:GM s last b4 b5){j:Nat}{i:qk}(hj:s.insts.l[j]? =some i)(q3:qa)(r:Sl (Sl Int))(hr:r.nil=false){d:List Int}(hd:r.l[j]? =some ⟨false,d⟩)(hH:It (qu s.insts.l j) i.stops.l.length h d):
  ∃d' :List Int,ba i (j:Int) e.span.qI e.span.to q3 b4 b5 r=some ⟨false,r.l.set j ⟨false,d'⟩⟩/\GQ (qu s.insts.l j) i.stops.l.length sd d' :=by
 have db:=dF.2 i (z7 hj);have hu:=(hm.may j i hj).up;obtain⟨I1,I2,I3,I4⟩:=O6 s X.rows j i hj;have loop: ∀(m q:Nat)(d' :List Int),q+m=i.stops.l.length->d'.length=i.stops.l.length+1->(∀ p,p<=q->d'[p]? =some (rj sd (qu s.insts.l j+p)+1))->(∀ p,q<p->d'[p]? =d[p]?)->
   ∃d'' :List Int,xF ((j:Int),i.stops,(i.stops.l.length:Int),(q:Int),e.span.qI,e.span.to,q3,b4,b5,r.l,j,i,d')=some d'' /\GQ (qu s.insts.l j) i.stops.l.length sd d'' :=by
  intro m;induction m with
  |zero=>
   intro q d' hq hl hp _;rw[xF.eq_1,if_neg v?];exact⟨d',rfl,hl,fun p hp2=>hp p o?⟩
  |succ m ih=>
   intro q d' hq hl hp hp2;obtain⟨x,hx⟩:=gl (l:=i.stops.l) (k:=q) o?;obtain⟨v,hv⟩:=gl (l:=d) (k:=q+1) (by have:=hH.1;omega);have Em:d'[q+1]? =some v:=by rw[hp2 _ o?];exact hv
   obtain⟨f0,f1,f2,f3⟩:=JF s X.rows j q i x hj hx;have ML:=hu q x hx;have ot:=hH.2 (q+1) o?;rw[show qu s.insts.l j+(q+1)=qu s.insts.l j+1+q by omega]at ot;rw[xF.eq_1,if_pos v?,gi hx,ws o?,gi Em];simp only[zJ,qS,c?];by_cases c:v=1
   ·subst c;rw[if_neg z?];refine ih (q+1) d' o? hl (fun p hp3=>?_) (fun p hp3=>hp2 p o?);by_cases c2:p=q+1
    ·subst c2;rw[Em,show qu s.insts.l j+(q+1)=qu s.insts.l j+1+q by omega,X.side.holds _ (by simpa using f0) (ot.1 hv)];rfl
    exact hp p o?
   rw[if_pos (by simpa using c),D5 i hu hx];simp only[qS];obtain⟨w,hw⟩: ∃w:Nat,x.up+1=w:=⟨(x.up+1).toNat,o?⟩;have hdw:=hp w o?;rw[qG (n:=x.up+1) o? o?,hw,gi hdw];simp only[qS];have hnh: ¬h[qu s.insts.l j+1+q]? =some true:=fun c2=>by
    have:=ot.2 c2;rw[hv]at this;cases this;exact c rfl
   have La:=CT X.row X.hold X.side (y:=qu s.insts.l j+1+q) (by simpa using f0) hnh x.span o? o? (rj sd (qu s.insts.l j+w)+1) (j:Int) ((q+1:Nat):Int) b4 b5 q3 r.l j d'
    (.inr ⟨qu s.insts.l j+w,o?,rfl⟩) (by
     have:=N6 hL hj (q:=q+1) o?
     rwa[show qu s.insts.l j+(q+1)=qu s.insts.l j+1+q by omega]at this)
   rw[La];simp only[qS];refine ih (q+1) _ o? (by simpa using hl) (fun p hp3=>?_) (fun p hp3=>?_)
   ·rw[zm];by_cases c2:q+1=p
    ·subst c2;rw[if_pos ⟨rfl,o?⟩,show qu s.insts.l j+(q+1)=qu s.insts.l j+1+q by omega]
    rw[if_neg o?];exact hp p o?
   rw[zm,if_neg o?];exact hp2 p o?
 obtain⟨v,hv⟩:=gl (l:=d) (k:=0) (by have:=hH.1;omega);have ot:=hH.2 0 o?;rw[D?]at ot;unfold ba;rw[hr,if_neg z?,gi hd];simp only[zJ,qS];rw[if_neg z?,show qh d (0:Int)=some v from gi (k:=0) hv];simp only[qS,c?,q1e];by_cases c:v=1
 ·subst c;rw[if_neg z?];obtain⟨d'',g1,g2⟩:=loop i.stops.l.length 0 d o? hH.1 (fun p hp=>by
   obtain rfl:p=0:=o?
   rw[hv,D?,X.side.holds _ (by simpa using I1) (ot.1 hv)]
   rfl) (fun _ _=>rfl)
  rw[show ((0:Nat):Int)=0 from rfl]at g1;rw[g1];exact⟨d'',rfl,g2⟩
 rw[if_pos (by simpa using c)];have hnh: ¬h[qu s.insts.l j]? =some true:=fun c2=>by have:=ot.2 c2;rw[hv]at this;cases this;exact c rfl
 have La:=CT X.row X.hold X.side (y:=qu s.insts.l j) (by simpa using I1) hnh i.span o? o? 1 (j:Int) 0 b4 b5 q3 r.l j d (.inl ⟨I4,rfl⟩) (by
  have:=N6 hL hj (q:=0) o?
  rwa[D?]at this)
 rw[La];simp only[qS];obtain⟨d'',g1,g2⟩:=loop i.stops.l.length 0 (d.set 0 (rj sd (qu s.insts.l j)+1)) o? (by simpa using hH.1) (fun p hp=>by
  obtain rfl:p=0:=o?
  rw[zm,if_pos ⟨rfl,by have:=hH.1;omega⟩,D?]) (fun p hp=>by rw[zm,if_neg o?])
 rw[show ((0:Nat):Int)=0 from rfl]at g1;rw[g1];exact⟨d'',rfl,g2⟩
end
end Xr
namespace Xr
def sD(s:qb):qb:=⟨s.cur,⟨(s.insts.l.map lQ).isEmpty,s.insts.l.map lQ⟩⟩
theorem Kb{is:List qk}{a:Nat}{i:qk}(h:(is.map lQ)[a]? =some i): ∃j,is[a]? =some j/\i=lQ j:=by rw[List.getElem?_map]at h;obtain⟨j,h1,h2⟩:=Option.map_eq_some_iff.1 h;exact⟨j,h1,h2.symm⟩
theorem SW: ∀(is:List qk)(b:Nat),yx b (is.map lQ)=yx b is
 |[],_=>rfl
 |i::is,b=>by simp only[s?,yx,SW is];rfl
theorem q0b(is:List qk)(a:Nat):qu (is.map lQ) a=qu is a:=by unfold qu;rw[<- List.map_take,List.map_map];rfl
theorem SV(a b c:Int)(sF:Nat->Int): ∀(is:List qk)(b0:Nat),yI a b c sF b0 (is.map lQ)=yI a b c sF b0 is
 |[],_=>rfl
 |i::is,b0=>by simp only[s?,yI,SV a b c sF is];rfl
theorem nrm_may{is:List qk}{n:Int}(h:mC is n):mC (is.map lQ) n:=by refine⟨fun a i hi=>?_,fun a b i j eR hi hj=>?_⟩;obtain⟨i',h1,rfl⟩:=Kb hi;have:=h.may a i' h1;exact⟨this.Zg,this.up,this.le,this.top,this.nest,this.Md,this.pre⟩;obtain⟨i',h1,rfl⟩:=Kb hi;obtain⟨j',h2,rfl⟩:=Kb hj;exact h.Rj a b i' j' eR h1 h2
theorem FF{s:qb}(h:xD s):xD (sD s):=by refine⟨by simpa[sD]using h.1,fun i hi=>?_⟩;obtain⟨j,hj,rfl⟩:=N?.1 hi;exact h.2 j hj
section
variable {e:ql} {n:Int} {s:qb} {a k:Int} {L:List TS} {h:List Bool} {sd:List Int} {last o:Int}
theorem nrm_X{deep:Bool}(X:Dg e n s deep a k L h sd last o):Dg e n (sD s) deep a k L h sd last o:=by refine⟨by rw[X.rows];exact(SW _ _).symm,X.row,X.hl,X.sl,X.small,X.hold,X.side, ?_,X.has,X.ex⟩;rcases X.own with h|⟨a',k',i,x,h1,h2,h3,h4,h5,h6⟩;exact .inl h;refine .inr ⟨a',k',lQ i,x,h1,h2,by rw[h3];simp only[sD,q0b],by simp[sD,h4],h5,h6⟩
structure Ir (s:qb) (sd:List Int) (D:List (Sl Int)):Prop where
 len:D.length=s.insts.l.length
 each: ∀(j:Nat)(i:qk),s.insts.l[j]? =some i-> ∃d,D[j]? =some ⟨false,d⟩/\GQ (qu s.insts.l j) i.stops.l.length sd d
theorem O4(X:Dg e n s true a k L h sd last o)(hm:mC s.insts.l n)(dF:xD s): ∃(D:Sl (Sl Int))(b4 b5:Int),rD s a k e true=some ⟨e,D,b4,b5⟩/\Ir s sd D.l:=by
 have nH:=dF.1;have l0: ∀(z:zI)(r:List qk)(q:Nat)(acc:Sl (Sl Int)),s.insts.l.drop q=r->acc.l.length=q->
   ∃nl,wt (a,k,true,s.insts,(s.insts.l.length:Int),(q:Int),s,e,z,e.span.qI,e.span.to,e.text,-1,0,acc)=some ⟨nl,acc.l++r.map fun i=>⟨false,b? (i.stops.l.length+1) 0⟩⟩/\(r≠[]->nl=false):=by
  intro z r;induction r with
  |nil=>
   intro q acc h _;have:=qW h;rw[wt.eq_1,if_neg v?];exact⟨acc.nil,z?,fun c=>absurd rfl c⟩
  |cons i r ih=>
   intro q acc h hq;obtain⟨g1,g2,g3⟩:=zl h;have hl:=dF.2 i (z7 g1);rw[wt.eq_1,if_pos v?,gi g1];simp only[zJ,qS];rw[ws o?,if_pos o?,if_pos (qA v? o?),if_pos qA,ws o?];obtain⟨nl,q1,q2⟩:=ih (q+1) ⟨false,acc.l++[⟨false,b? (i.stops.l.length+1) 0⟩]⟩ g2 (by simp[hq]);refine⟨nl, ?_,fun _=>?_⟩
   ·simp only[c?];rw[q1];simp
   cases r with
   |nil=>
    have:=qW g2;rw[wt.eq_1,if_neg v?]at q1;simp only[kG,Sl.mk.injEq]at q1;exact q1.1.symm
   |cons _ _=>exact q2 z?
 have l2: ∀(z:zI)(b4 b5:Int),GM s last b4 b5-> ∀(r:List qk)(q:Nat)(D:Sl (Sl Int)),s.insts.l.drop q=r->(s.insts.l≠[]->D.nil=false)->D.l.length=s.insts.l.length->
   (∀(j:Nat)(i:qk),j<q->s.insts.l[j]? =some i-> ∃d,D.l[j]? =some ⟨false,d⟩/\GQ (qu s.insts.l j) i.stops.l.length sd d)->
   (∀(j:Nat)(i:qk),q<=j->s.insts.l[j]? =some i-> ∃d,D.l[j]? =some ⟨false,d⟩/\It (qu s.insts.l j) i.stops.l.length h d)->
   ∃D',kp (s.insts,(s.insts.l.length:Int),(q:Int),s,e,z,e.span.qI,e.span.to,e.text,b4,b5,D)=some D' /\Ir s sd D'.l:=by
  intro z b4 b5 hL r;induction r with
  |nil=>
   intro q D h _ hlen hd _;have:=qW h;rw[kp.eq_1,if_neg v?];exact⟨D,rfl,hlen,fun j i hj=>hd j i (by have:=(qF hj).1;omega) hj⟩
  |cons i r ih=>
   intro q D h hn hlen hd ME;obtain⟨g1,g2,g3⟩:=zl h;have jx:s.insts.l≠[]:=fun c=>by rw[c]at g3;simp at g3
   obtain⟨d,e1,e2⟩:=ME q i o? g1;obtain⟨d',e3,e4⟩:=q0k X hm dF hL g1 e.text D (hn jx) e1 e2;rw[kp.eq_1,if_pos v?,gi g1];simp only[zJ,qS];rw[e3,ws o?];simp only[qS];refine ih (q+1) _ g2 (fun _=>rfl) (by simpa using hlen) (fun j i' hj yv=>?_) (fun j i' hj yv=>?_)
   ·by_cases c:q=j
    ·subst c;rw[g1]at yv;cases yv;exact⟨d',by simp only;rw[zm,if_pos ⟨rfl,o?⟩],e4⟩
    obtain⟨d2,k1,k2⟩:=hd j i' o? yv;exact⟨d2,by simp only;rw[zm,if_neg o?];exact k1,k2⟩
   obtain⟨d2,k1,k2⟩:=ME j i' o? yv;exact⟨d2,by simp only;rw[zm,if_neg o?];exact k1,k2⟩
 obtain⟨nl,z1,z2⟩:=l0 ⟨⟨⟨0,0⟩,[]⟩,⟨true,[]⟩,0,0⟩ s.insts.l 0 ⟨true,[]⟩ rfl rfl;rw[show ((0:Nat):Int)=0 from rfl]at z1;have Z: ∀(j:Nat)(i:qk),s.insts.l[j]? =some i->(s.insts.l.map fun i=>(⟨false,b? (i.stops.l.length+1) 0⟩:Sl Int))[j]? =some ⟨false,b? (i.stops.l.length+1) 0⟩:=fun j i hj=>by simp[hj]
 have rep: ∀(m j:Nat),(b? m (0:Int))[j]? ≠some 1:=fun m j hv=>by rw[Q!]at hv;split at hv<;>simp at hv
 unfold rD;rw[z1];simp only[zJ,qS,F?];rcases X.own with ⟨rfl,rfl,rfl,Xn⟩|⟨A,K,i,x,rfl,rfl,ho,hi,hx,hw⟩
 ·rw[if_neg z?];have hL:GM s last (-1) 0:= .inl ⟨rfl,by
   rcases Int.lt_or_le last 0 with c|c
   ·exact c
   obtain⟨r,_,_,c2⟩:=X.side.LA c
   exact absurd c2 (Xn r)⟩
  obtain⟨D',k1,k2⟩:=l2 ⟨⟨⟨0,0⟩,[]⟩,⟨true,[]⟩,0,0⟩ (-1) 0 hL s.insts.l 0 ⟨nl,s.insts.l.map fun i=>⟨false,b? (i.stops.l.length+1) 0⟩⟩ rfl z2 z? (fun j i hj=>o?) (fun j i _ hj=>⟨_,Z j i hj,z?,fun p _=>⟨fun c=>absurd c (rep _ _),fun c=>absurd c (Xn _)⟩⟩);rw[show ((0:Nat):Int)=0 from rfl]at k1;rw[k1];exact⟨D',-1,0,rfl,k2⟩
 have hAl:=(qF hi).1;have hKl:=(qF hx).1;have jx:s.insts.l≠[]:=fun c=>by rw[c]at hAl;simp at hAl
 rw[if_pos v?,gi hi];simp only[qS];rw[if_pos v?];obtain⟨d,P,k1,k2,k3⟩:=phold_ok X hm dF ho hi hx e.text 0 ⟨nl,s.insts.l.map fun i=>⟨false,b? (i.stops.l.length+1) 0⟩⟩ (z2 jx) (Z A i hi);rw[k1];simp only[qS];obtain⟨D',k4,k5⟩:=l2 ⟨⟨⟨0,0⟩,[]⟩,⟨true,[]⟩,0,0⟩ A P k3 s.insts.l 0 ⟨false,(s.insts.l.map fun i=>(⟨false,b? (i.stops.l.length+1) 0⟩:Sl Int)).set A ⟨false,d⟩⟩ rfl (fun _=>rfl) z? (fun j i hj=>o?) (fun j i' _ hj=>by
  by_cases c:A=j
  ·subst c
   rw[hi]at hj
   cases hj
   exact⟨d,by simp only;rw[zm,if_pos ⟨rfl,by simpa using hAl⟩],k2⟩
  refine⟨b? (i'.stops.l.length+1) 0,by simp only;rw[zm,if_neg o?];exact Z j i' hj,z?,fun p hp=>⟨fun c=>absurd c (rep _ _),fun c2=>?_⟩⟩
  have hr:=W7 X hm ho hi hx _ c2
  have Gj:=(qF hj).1
  rcases Nat.lt_or_gt_of_ne c with q|q
  ·have:=Qc s.insts.l A j i q hi o?
   omega
  have:=Qc s.insts.l j A i' q hj o?
  omega)
 rw[show ((0:Nat):Int)=0 from rfl]at k4;rw[k4];exact⟨D',A,P,rfl,k5⟩
theorem inst_ok{deep:Bool}(X:Dg e n s deep a k L h sd last o)(he:wv e n)(hm:mC s.insts.l n)(dF:xD s){j:Nat}{i:qk}(hi:s.insts.l[j]? =some i){d:List Int}(hd:GQ (qu s.insts.l j) i.stops.l.length sd d)(ms:Sl qN)(hms:ms.l.length=i.stops.l.length)(D:Sl (Sl Int))(b4 b5:Int):
  ∃m,yu i ⟨false,d⟩ ms false ⟨e,D,b4,b5⟩=some (Qy e.span.qI e.span.to e.text.length (rj sd) (qu s.insts.l j) i,m):=by
 have hmi:=hm.may j i hi;have db:=dF.2 i (z7 hi);have loop: ∀(oT:qk)(o1 o2:Int)(r:List qr)(q:Nat)(places:List Int)(bc:List qN)(out:List qr),i.stops.l.drop q=r->q<=i.stops.l.length->places.length=i.stops.l.length->
   (∀ p,p<q->rj sd (qu s.insts.l j+1+p)≠1->places[p]? =some ((ax (rj sd) (qu s.insts.l j+1) p:Nat):Int))->out.length=ax (rj sd) (qu s.insts.l j+1) q->out.length<=q->bc.length<=q->
   ∃(FJ:List Int)(kp' :List qN),zk (⟨false,d⟩,ms,false,i.stops,(i.stops.l.length:Int),(q:Int),⟨e,D,b4,b5⟩,i,oT,o1,o2,places,bc,out)=some (FJ,kp',out++NS e sd (qu s.insts.l j+1) q r):=by
  intro oT o1 o2 r;induction r with
  |nil=>
   intro q places bc out h hq _ _ _ _ _;have:=qW h;rw[zk.eq_1,if_neg v?];exact⟨places,bc,by simp[NS,mN]⟩
  |cons x r ih=>
   intro q places bc out h hq sZ T7 lK hoq hkq;obtain⟨g1,g2,g3⟩:=zl h;obtain⟨f0,f1,f2,f3⟩:=JF s X.rows j q i x hi g1;have hrx:=X.row.Zg (qu s.insts.l j+1+q) (by simpa using f0);have ML:=hmi.up q x g1;have hdv:=hd.2 (q+1) o?;rw[show qu s.insts.l j+(q+1)=qu s.insts.l j+1+q by omega]at hdv;obtain⟨pv,hpv⟩:=gl (l:=places) (k:=q) o?;obtain⟨mv',hmv⟩:=gl (l:=ms.l) (k:=q) o?;rw[zk.eq_1,if_pos v?,gi g1,ws o?,gi hdv];simp only[zJ,qS,c?];by_cases c1:rj sd (qu s.insts.l j+1+q)=1
   ·rw[if_pos (by rw[c1];simp)];have e1:NS e sd (qu s.insts.l j+1) q (x::r)=NS e sd (qu s.insts.l j+1) (q+1) r:=by
     show mN _ _ _ _ _ _ (x::r)=_;rw[mN,if_pos c1]
    rw[e1];refine ih (q+1) places bc out g2 o? sZ (fun p hp hs=>?_) ?_ o? o?
    ·by_cases c:p=q
     ·subst c;exact absurd c1 hs
     exact T7 p o? hs
    rw[ax,if_pos c1];simpa using lK
   rw[if_neg (by rw[beq_iff_eq];omega),gi hpv,D5 i hmi.up g1];simp only[qS];have e1:NS e sd (qu s.insts.l j+1) q (x::r)=Nt e.span.qI e.span.to e.text.length (rj sd) (qu s.insts.l j+1) q x::NS e sd (qu s.insts.l j+1) (q+1) r:=by
    show mN _ _ _ _ _ _ (x::r)=_;rw[mN,if_neg c1]
   have hplq:ax (rj sd) (qu s.insts.l j+1) (q+1)=ax (rj sd) (qu s.insts.l j+1) q+1:=by rw[ax,if_neg c1]
   have oX: ∀(up:Int)(m:qN),(if 0<=x.up then((ax (rj sd) (qu s.insts.l j+1) x.up.toNat:Nat):Int)else x.up)=up->
     ∃(FJ:List Int)(kp' :List qN),zk (⟨false,d⟩,ms,false,i.stops,(i.stops.l.length:Int),((q+1:Nat):Int),⟨e,D,b4,b5⟩,i,oT,o1,o2,places.set q (out.length:Int),bc++[m],out++[qr.mk (VH e.span.qI e.span.to e.text.length (rj sd (qu s.insts.l j+1+q)) x.span) x.n up x.first x.qL x.qR x.opts])=some (FJ,kp',out++NS e sd (qu s.insts.l j+1) q (x::r)):=by
    intro up m hu;have Z5:qr.mk (VH e.span.qI e.span.to e.text.length (rj sd (qu s.insts.l j+1+q)) x.span) x.n up x.first x.qL x.qR x.opts=Nt e.span.qI e.span.to e.text.length (rj sd) (qu s.insts.l j+1) q x:=by
     unfold Nt;rw[hu]
    rw[Z5,e1];obtain⟨FJ,kp',q1⟩:=ih (q+1) (places.set q (out.length:Int)) (bc++[m]) (out++[Nt e.span.qI e.span.to e.text.length (rj sd) (qu s.insts.l j+1) q x]) g2 o? (by simpa using sZ) (fun p hp hs=>by
     rw[zm]
     by_cases c:q=p
     ·subst c
      rw[if_pos ⟨rfl,o?⟩,lK]
     rw[if_neg o?]
     exact T7 p o? hs) (by rw[hplq];simp[lK]) v? v?
    exact⟨FJ,kp',by rw[q1];simp⟩
   have L6:=YN ⟨e,D,b4,b5⟩ n he x.span o? o? o? (rj sd (qu s.insts.l j+1+q));simp only at L6;by_cases c2:0<=x.up
   ·obtain⟨p,hp⟩: ∃p:Nat,x.up=p:=⟨x.up.toNat,o?⟩;have Vb:=cl X.row X.hold X.side (r:=qu s.insts.l j+1+q) (by simpa using f0) c1 (p:=qu s.insts.l j+1+p) o?;have hpp:=T7 p o? Vb;have ZR:(if 0<=x.up then((ax (rj sd) (qu s.insts.l j+1) x.up.toNat:Nat):Int)else x.up)=((ax (rj sd) (qu s.insts.l j+1) p:Nat):Int):=by rw[if_pos c2,show x.up.toNat=p by omega]
    have hgp:qh (places.set q (out.length:Int)) (p:Int)=some ((ax (rj sd) (qu s.insts.l j+1) p:Nat):Int):=gi (by rw[zm,if_neg o?];exact hpp);rw[if_pos (by simpa using c2),hp,hgp,L6,gi hmv];simp only[qS,wA,if_false];split<;>(rw [if_pos qA,if_pos qA];exact oX _ _ ZR)
   have ZR:(if 0<=x.up then((ax (rj sd) (qu s.insts.l j+1) x.up.toNat:Nat):Int)else x.up)=x.up:=by rw[if_neg c2]
   rw[if_neg (by simpa using c2),L6,gi hmv];simp only[qS,wA,if_false];split<;>(rw [if_pos qA,if_pos qA];exact oX _ _ ZR)
 have h0:=hd.2 0 o?;rw[D?]at h0;have hrg:=hmi.Zg;unfold yu;rw[show qh d (0:Int)=_ from gi (k:=0) h0];simp only[zJ,qS];have L6:=YN ⟨e,D,b4,b5⟩ n he i.span hrg.1 hrg.2.1 hrg.2.2 (rj sd (qu s.insts.l j));simp only at L6;rw[L6];simp only[qS];rw[if_pos o?,if_pos (qA v? o?)];simp only[c?];obtain⟨FJ,kp',q1⟩:=loop (qk.mk ⟨0,0⟩ ⟨true,[]⟩) (VH e.span.qI e.span.to e.text.length (rj sd (qu s.insts.l j)) i.span).qI (VH e.span.qI e.span.to e.text.length (rj sd (qu s.insts.l j)) i.span).to i.stops.l 0 (b? i.stops.l.length 0) [] [] rfl o? z? (fun p hp=>o?) (by simp[ax]) z? z?;rw[show ((0:Nat):Int)=0 from rfl]at q1;rw[q1];exact⟨_,rfl⟩
theorem FN(X:Dg e n s true a k L h sd last o)(he:wv e n)(hm:mC s.insts.l n)(dF:xD s)(hc: ∀i∈s.insts.l,∀ x∈i.stops.l,Y1 x):ko s a k e=some ⟨s.cur,⟨(NI e sd 0 s.insts.l).isEmpty,NI e sd 0 s.insts.l⟩⟩:=by
 obtain⟨ms,b1,b2⟩:=FH s dF hc;have X' :=nrm_X X;have Eg:=nrm_may hm;have hsm' :=FF dF;obtain⟨D,b4,b5,q1,q2⟩:=O4 X' Eg hsm';have nH:=dF.1;have ml:ms.length=(sD s).insts.l.length:=by rw[b2.len];simp[sD]
 have loop: ∀(XN:zh)(ec:zh)(oc:Int),XN.marks.l=ms-> ∀(r:List qk)(q:Nat)(out:List qk)(mk:List (Sl qN)),(sD s).insts.l.drop q=r->out.length<=q->mk.length<=q->
   ∃m',xo (false,(sD s).insts,((sD s).insts.l.length:Int),(q:Int),XN,e,ec,⟨e,D,b4,b5⟩,oc,out,mk)=some (out++NI e sd (qu (sD s).insts.l q) r,m'):=by
  intro XN ec oc hlv r;induction r with
  |nil=>
   intro q out mk h _ _;have:=qW h;rw[xo.eq_1,if_neg v?];exact⟨mk,by simp[yI]⟩
  |cons i r ih=>
   intro q out mk h ho hk;obtain⟨g1,g2,g3⟩:=zl h;obtain⟨d,d1,d2⟩:=q2.each q i g1;have hql:q<2^12+1:=by have:=hsm'.1;omega
   have h0:=d2.2 0 o?;rw[D?]at h0;obtain⟨f,hf⟩:=gl (l:=ms) (k:=q) o?;obtain⟨j,hj1,hj2⟩:=Kb g1;have Qw:f.l.length=i.stops.l.length:=by rw[b2.each q j f hj1 hf,hj2];rfl
   obtain⟨m,hm1⟩:=inst_ok X' he Eg hsm' g1 d2 f Qw D b4 b5;have hbase:qu (sD s).insts.l (q+1)=qu (sD s).insts.l q+1+i.stops.l.length:=by
    unfold qu;rw[List.take_succ_eq_append_getElem o?,List.map_append,List.sum_append];have:(sD s).insts.l[q]=i:=(qF g1).2;simp[this];omega
   rw[xo.eq_1,if_pos v?,gi g1];simp only[zJ,qS];rw[show qh D.l (q:Int)=_ from gi d1];simp only[qS];rw[show qh d (0:Int)=_ from gi (k:=0) h0,hlv,ws o?];simp only[qS];by_cases c1:rj sd (qu (sD s).insts.l q)=1
   ·rw[if_neg (by rw[c1];simp)];obtain⟨m',k1⟩:=ih (q+1) out mk g2 o? o?;refine⟨m', ?_⟩;rw[k1,hbase];have e1:NI e sd (qu (sD s).insts.l q) (i::r)=NI e sd (qu (sD s).insts.l q+1+i.stops.l.length) r:=by
     show yI _ _ _ _ _ (i::r)=_;rw[yI,if_pos c1]
    rw[e1]
   rw[if_pos (by rw[bne_iff_ne];omega),gi hf];simp only[qS];rw[hm1];simp only[qS];rw[if_pos qA,if_pos qA];obtain⟨m',k1⟩:=ih (q+1) (out++[Qy e.span.qI e.span.to e.text.length (rj sd) (qu (sD s).insts.l q) i]) (mk++[m]) g2 v? v?;refine⟨m', ?_⟩;rw[k1,hbase];have e1:NI e sd (qu (sD s).insts.l q) (i::r)=Qy e.span.qI e.span.to e.text.length (rj sd) (qu (sD s).insts.l q) i::NI e sd (qu (sD s).insts.l q+1+i.stops.l.length) r:=by
    show yI _ _ _ _ _ (i::r)=_;rw[yI,if_neg c1]
   rw[e1];simp
 have b1' :pj s=some ⟨sD s,⟨ms.isEmpty,ms⟩⟩:=b1;unfold ko uT;rw[b1'];simp only[zJ,qS];rw[q1];simp only[qS];obtain⟨m',k1⟩:=loop ⟨sD s,⟨ms.isEmpty,ms⟩⟩ ⟨⟨0,⟨true,[]⟩⟩,⟨true,[]⟩⟩ (sD s).cur rfl (sD s).insts.l 0 [] [] rfl z? z?;have Xk:qu (sD s).insts.l 0=0:=by simp[qu]
 have hni:NI e sd 0 (sD s).insts.l=NI e sd 0 s.insts.l:=SV _ _ _ _ _ _;rw[Xk,hni,show((0:Nat):Int)=0 from rfl]at k1;rw[k1];rfl
end
theorem shift_eq(e:ql)(n:Int)(he:wv e n)(s:qb)(hs:xD s)(hm:mC s.insts.l n)(qo:qn)(PY:xl e.span qo)(a k:Int)(ho:(a= -1/\k= -1)\/JA s qo a k\/ ∃(a' k' :Nat)(i:qk)(x:qr),a=a' /\k=k' /\s.insts.l[a']? =some i/\i.stops.l[k']? =some x/\xl e.span x.span)(fl:Sl (Sl Int))(Qw:so s.insts.l fl)(hc: ∀i∈s.insts.l,∀ x∈i.stops.l,Y1 x):
  ∃s' flags L h sd last o,kJ s a k e true false fl=some (s',fl,flags)/\ko s a k e=some s' /\Dg e n s true a k L h sd last o/\s' =⟨s.cur,⟨(NI e sd 0 s.insts.l).isEmpty,NI e sd 0 s.insts.l⟩⟩:=by obtain⟨L,h,sd,last,o,flags,h1,X,_⟩:=Mc e n he false s hs hm true qo PY a k ho fl Qw;exact⟨_,flags,L,h,sd,last,o,h1,FN X he hm hs hc,X,rfl⟩
end Xr
namespace Xr
def cC(a b:qn):Prop:=a.qI<b.qI\/a.qI=b.qI/\a.to<b.to
instance(a b:qn):Decidable (cC a b):=by unfold cC;infer_instance
theorem Hc(a b:qn):sP a b=some (decide (cC a b)):=by unfold sP cC;by_cases h:a.qI<b.qI;simp[h];by_cases h2:a.qI=b.qI<;>simp[h,h2]
section
variable {α:Type} (key:α->qn)
def pos(x:α)(s:List α):Nat->Nat
 |0=>0
 |k+1=>match s[k]? with
  |some y=>if cC (key x) (key y)then pos x s k else k+1
  |none=>k+1
def sA(s:List α)(x:α):List α:=s.take (pos key x s s.length)++x::s.drop (pos key x s s.length)
def jd(s r:List α):List α:=r.foldl (sA key) s
theorem Hw(x:α)(s:List α): ∀k,pos key x s k<=k:=by intro k;induction k with|zero=>simp[pos]|succ k ih=>rw[pos];split;split<;>omega;omega
def MO(a b:α):Prop:= ¬cC (key b) (key a)
theorem pos_spec(x:α)(s:List α): ∀k,k<=s.length->(∀ j y,pos key x s k<=j->j<k->s[j]? =some y->cC (key x) (key y))/\(∀ y,0<pos key x s k->s[pos key x s k-1]? =some y-> ¬cC (key x) (key y)):=by intro k;induction k with|zero=>intro _;exact⟨fun j y h1 h2=>o?,fun y h=>by simp[pos]at h⟩|succ k ih=>intro hk;obtain⟨y,hy⟩:=gl (l:=s) (k:=k) o?;rw[pos,hy];simp only;split;rename_i c;obtain⟨h1,h2⟩:=ih o?;refine⟨fun j z hj MK hz=>?_,h2⟩;by_cases e:j=k;subst e;rw[hy]at hz;cases hz;exact c;exact h1 j z hj o? hz;rename_i c;refine⟨fun j z hj MK=>o?,fun z _ hz=>?_⟩;rw[Nat.add_sub_cancel,hy]at hz;cases hz;exact c
theorem Ym(s:List α)(x:α):(sA key s x).Perm (s++[x]):=by unfold sA;refine(List.perm_middle).trans ?_;rw[List.take_append_drop];exact(List.perm_append_singleton x s).symm
theorem tO: ∀(r s:List α),(jd key s r).Perm (s++r):=by intro r;induction r with|nil=>intro s;simp[jd]|cons x r ih=>intro s;have:=ih (sA key s x);simp only[jd,List.foldl_cons]at this |-;refine this.trans ?_;have h1:=(Ym key s x).append_right r;simpa using h1
theorem Yr{a b c:α}(h1:MO key a b)(h2:MO key b c):MO key a c:=by unfold MO cC at*;omega
theorem BX{s:List α}(x:α)(h:s.Pairwise (MO key)):(sA key s x).Pairwise (MO key):=by
 obtain⟨h1,h2⟩:=pos_spec key x s s.length (jv _);have hp:=Hw key x s s.length;unfold sA;generalize pos key x s s.length=p at*;have ht: ∀a∈s.take p,MO key a x:=by intro a ha;by_cases hp0:0<p;(obtain⟨y,hy⟩:=gl (l:=s) (k:=p-1) o?;have hyx:=h2 y hp0 hy;obtain⟨j,hj⟩:=kh ha;have hjp:j<p:=by have:=(qF hj).1;simp at this;omega);rw[List.getElem?_take_of_lt hjp]at hj;by_cases e:j=p-1;subst e;rw[hy]at hj;cases hj;exact hyx;have:=List.pairwise_iff_getElem.1 h j (p-1) o? o? o?;rw[wx o?]at hj hy;cases hj;cases hy;exact Yr key this hyx;have:p=0:=o?;subst this;simp at ha
 have hd: ∀b∈s.drop p,MO key x b:=by intro b hb;obtain⟨j,hj⟩:=kh hb;rw[List.getElem?_drop]at hj;have:=h1 (p+j) b o? (qF hj).1 hj;unfold MO;unfold cC at*;omega
 rw[o!];refine⟨h.sublist (List.take_sublist _ _),J!.2 ⟨hd,h.sublist (List.drop_sublist _ _)⟩,fun a ha b hb=>?_⟩;rcases U?.1 hb with rfl|hb;exact ht a ha;exact Yr key (ht a ha) (hd b hb)
theorem VF: ∀(r s:List α),s.Pairwise (MO key)->(jd key s r).Pairwise (MO key):=by intro r;induction r with|nil=>intro s h;exact h|cons x r ih=>intro s h;exact ih _ (BX key x h)
theorem Ls(s:List α)(x:α)(h: ∀y∈s,¬ cC (key x) (key y)):sA key s x=s++[x]:=by
 have:pos key x s s.length=s.length:=by cases hs:s.length with|zero=>simp[pos]|succ k=>obtain⟨y,hy⟩:=gl (l:=s) (k:=k) o?;rw[pos,hy];simp only;rw[if_neg (h y (z7 hy))]
 unfold sA;rw[this];simp
theorem Yn: ∀(r s:List α),(s++r).Pairwise (MO key)->jd key s r=s++r:=by intro r;induction r with|nil=>intro s _;simp[jd]|cons x r ih=>intro s h;have h1: ∀y∈s,¬ cC (key x) (key y):=fun y hy=>(o!.1 h).2.2 y hy x z?;show jd key (sA key s x) r=_;rw[Ls key s x h1,ih (s++[x]) (by simpa using h)];simp
end
def uL(s:qy):qn:=⟨if s.head<s.anchor then s.head else s.anchor,if s.head>s.anchor then s.head else s.anchor⟩
theorem Jv(s:qy):yY s=some (uL s):=rfl
theorem eG(s:qy):(uL s).qI<=(uL s).to:=by unfold uL;simp only;split<;>split<;>omega
theorem LX(l s:Sl qy)(i:Nat)(x:qy)(hx:l.l[i]? =some x): ∀k,k<=s.l.length->k<2^60->gS (l,s,(i:Int),(k:Int))=some ((pos uL x s.l k:Nat):Int):=by intro k;induction k with|zero=>intro _ _;rw[gS.eq_1,if_neg z?];rfl|succ k ih=>intro hk hb;obtain⟨y,hy⟩:=gl (l:=s.l) (k:=k) o?;rw[gS.eq_1,if_pos (by simp<;>omega),gi hx,show q?.wrap (((k+1:Nat):Int)-1)=(k:Int)from by rw[qG o? o?];omega,gi hy,pos,hy];simp only[zJ,qS,Jv,Hc];by_cases c:cC (uL x) (uL y);rw[if_pos (by simpa using c),if_pos c];exact ih o? o?;rw[if_neg (by simpa using c),if_neg c]
theorem sort6_L2(l s:Sl ql)(i:Nat)(x:ql)(hx:l.l[i]? =some x): ∀k,k<=s.l.length->k<2^60->nq (l,s,(i:Int),(k:Int))=some ((pos (·.span) x s.l k:Nat):Int):=by intro k;induction k with|zero=>intro _ _;rw[nq.eq_1,if_neg z?];rfl|succ k ih=>intro hk hb;obtain⟨y,hy⟩:=gl (l:=s.l) (k:=k) o?;rw[nq.eq_1,if_pos (by simp<;>omega),gi hx,show q?.wrap (((k+1:Nat):Int)-1)=(k:Int)from by rw[qG o? o?];omega,gi hy,pos,hy];simp only[zJ,qS,Hc];by_cases c:cC x.span y.span;rw[if_pos (by simpa using c),if_pos c];exact ih o? o?;rw[if_neg (by simpa using c),if_neg c]
theorem sort5_L2(l s:Sl qn)(i:Nat)(x:qn)(hx:l.l[i]? =some x): ∀k,k<=s.l.length->k<2^60->nk (l,s,(i:Int),(k:Int))=some ((pos id x s.l k:Nat):Int):=by intro k;induction k with|zero=>intro _ _;rw[nk.eq_1,if_neg z?];rfl|succ k ih=>intro hk hb;obtain⟨y,hy⟩:=gl (l:=s.l) (k:=k) o?;rw[nk.eq_1,if_pos (by simp<;>omega),gi hx,show q?.wrap (((k+1:Nat):Int)-1)=(k:Int)from by rw[qG o? o?];omega,gi hy,pos,hy];simp only[zJ,qS,Hc];by_cases c:cC (id x) (id y);rw[if_pos (by simpa using c),if_pos c];exact ih o? o?;rw[if_neg (by simpa using c),if_neg c]
theorem JI{α:Type}(s:List α)(p:Nat)(h:p<=s.length):kQ s (p:Int)=some (s.take p):=by obtain⟨r,h1,h2,_⟩:=qJ.kQ (l:=s) (hi:=(p:Int)) o? o?;rw[h1,h2,c?]
theorem Ot{α:Type}(s:List α)(p:Nat)(h:p<=s.length):mo s (p:Int)=some (s.drop p):=by obtain⟨r,h1,h2,_⟩:=qJ.mo (l:=s) (lo:=(p:Int)) o? o?;rw[h1,h2,c?]
theorem Wd{α:Type}(key:α->qn)(s:List α)(x:α):(sA key s x).length=s.length+1:=by simpa using(Ym key s x).length_eq
theorem LW(l:Sl qy): ∀(r:List qy)(i:Nat)(s:Sl qy),l.l.drop i=r->s.l.length+r.length<=2^20->l.l.length<=2^20->(s.nil=s.l.isEmpty)->
  gR (l,s,(i:Int))=some ⟨(jd uL s.l r).isEmpty,jd uL s.l r⟩:=by
 intro r;induction r with
 |nil=>
  intro i s h _ _ hn;have:=qW h;rw[gR.eq_1,if_neg v?];show some s=some ⟨s.l.isEmpty,s.l⟩;rw[<- hn]
 |cons x r ih=>
  intro i s h hb hl hn;obtain⟨h1,h2,h3⟩:=zl h;simp only[g?]at hb;have hp:=Hw uL x s.l s.l.length;rw[gR.eq_1,if_pos v?,LX l s i x h1 s.l.length (jv _) o?];simp only[zJ,qS];rw[JI _ _ hp];simp only[qS];rw[if_pos (qA v? o?),gi h1];simp only[qS];rw[if_pos (qA v? o?),Ot _ _ hp];simp only[qS];rw[if_pos (qA v? o?),ws o?];have e:s.l.take (pos uL x s.l s.l.length)++[x]++s.l.drop (pos uL x s.l s.l.length)=sA uL s.l x:=by simp[sA]
  rw[e];have:=Wd uL s.l x;exact ih (i+1) ⟨false,sA uL s.l x⟩ h2 u? hl (by cases h7:sA uL s.l x with
   |nil=>rw[h7]at this;simp at this
   |cons _ _=>rfl)
theorem sort6_L0(l:Sl ql): ∀(r:List ql)(i:Nat)(s:Sl ql),l.l.drop i=r->s.l.length+r.length<=2^20->l.l.length<=2^20->(s.nil=s.l.isEmpty)->
  np (l,s,(i:Int))=some ⟨(jd (·.span) s.l r).isEmpty,jd (·.span) s.l r⟩:=by
 intro r;induction r with
 |nil=>
  intro i s h _ _ hn;have:=qW h;rw[np.eq_1,if_neg v?];show some s=some ⟨s.l.isEmpty,s.l⟩;rw[<- hn]
 |cons x r ih=>
  intro i s h hb hl hn;obtain⟨h1,h2,h3⟩:=zl h;simp only[g?]at hb;have hp:=Hw (·.span) x s.l s.l.length;rw[np.eq_1,if_pos v?,sort6_L2 l s i x h1 s.l.length (jv _) o?];simp only[zJ,qS];rw[JI _ _ hp];simp only[qS];rw[if_pos (qA v? o?),gi h1];simp only[qS];rw[if_pos (qA v? o?),Ot _ _ hp];simp only[qS];rw[if_pos (qA v? o?),ws o?];have e:s.l.take (pos (·.span) x s.l s.l.length)++[x]++s.l.drop (pos (·.span) x s.l s.l.length)=sA (·.span) s.l x:=by simp[sA]
  rw[e];have:=Wd (·.span) s.l x;exact ih (i+1) ⟨false,sA (·.span) s.l x⟩ h2 u? hl (by cases h7:sA (·.span) s.l x with
   |nil=>rw[h7]at this;simp at this
   |cons _ _=>rfl)
theorem sort5_L0(l:Sl qn): ∀(r:List qn)(i:Nat)(s:Sl qn),l.l.drop i=r->s.l.length+r.length<=2^20->l.l.length<=2^20->(s.nil=s.l.isEmpty)->
  nj (l,s,(i:Int))=some ⟨(jd id s.l r).isEmpty,jd id s.l r⟩:=by
 intro r;induction r with
 |nil=>
  intro i s h _ _ hn;have:=qW h;rw[nj.eq_1,if_neg v?];show some s=some ⟨s.l.isEmpty,s.l⟩;rw[<- hn]
 |cons x r ih=>
  intro i s h hb hl hn;obtain⟨h1,h2,h3⟩:=zl h;simp only[g?]at hb;have hp:=Hw id x s.l s.l.length;rw[nj.eq_1,if_pos v?,sort5_L2 l s i x h1 s.l.length (jv _) o?];simp only[zJ,qS];rw[JI _ _ hp];simp only[qS];rw[if_pos (qA v? o?),gi h1];simp only[qS];rw[if_pos (qA v? o?),Ot _ _ hp];simp only[qS];rw[if_pos (qA v? o?),ws o?];have e:s.l.take (pos id x s.l s.l.length)++[x]++s.l.drop (pos id x s.l s.l.length)=sA id s.l x:=by simp[sA]
  rw[e];have:=Wd id s.l x;exact ih (i+1) ⟨false,sA id s.l x⟩ h2 u? hl (by cases h7:sA id s.l x with
   |nil=>rw[h7]at this;simp at this
   |cons _ _=>rfl)
theorem Mj(l:Sl ql)(hl:l.l.length<=2^20):dP l=some ⟨(jd (·.span) [] l.l).isEmpty,jd (·.span) [] l.l⟩:=by unfold dP;rw[show (0:Int)=((0:Nat):Int)from rfl,sort6_L0 l l.l 0 ⟨true,[]⟩ rfl (by simpa using hl) hl rfl];rfl
theorem Mi(l:Sl qn)(hl:l.l.length<=2^20):dN l=some ⟨(jd id [] l.l).isEmpty,jd id [] l.l⟩:=by unfold dN;rw[show (0:Int)=((0:Nat):Int)from rfl,sort5_L0 l l.l 0 ⟨true,[]⟩ rfl (by simpa using hl) hl rfl];rfl
end Xr
namespace Xr
def QQ(a b:qn):Prop:=(if b.qI>a.qI then b.qI else a.qI)<=(if b.to<a.to then b.to else a.to)
instance(a b:qn):Decidable (QQ a b):=by unfold QQ;infer_instance
def join(y x:qy):qy:=if y.head<y.anchor then⟨if (uL x).to>(uL y).to then(uL x).to else(uL y).to,(uL y).qI⟩else⟨(uL y).qI,if(uL x).to>(uL y).to then(uL x).to else(uL y).to⟩
theorem join_sp(y x:qy):uL (join y x)=⟨(uL y).qI,if(uL x).to>(uL y).to then(uL x).to else(uL y).to⟩:=by
 have hy:=eG y;have hx:=eG x;generalize hY:uL y=Y at*;generalize hX:uL x=X at*;unfold join;rw[hY,hX];have hM:Y.qI<=(if X.to>Y.to then X.to else Y.to):=by split<;>omega
 generalize (if X.to>Y.to then X.to else Y.to)=M at*;unfold uL;by_cases c:y.head<y.anchor;rw[if_pos c];simp only[qn.mk.injEq];constructor;split<;>omega;split<;>omega;rw[if_neg c];simp only[qn.mk.injEq];constructor;split<;>omega;split<;>omega
def l5(out:List qy)(x:qy):List qy:=
 match out.getLast? with
 |some y=>if QQ (uL y) (uL x)then out.set (out.length-1) (join y x)else out++[x]
 |none=>out++[x]
def SQ(out r:List qy):List qy:=r.foldl l5 out
theorem Nm(out:List qy)(x:qy):(l5 out x).length<=out.length+1/\1<=(l5 out x).length:=by unfold l5;split;(rename_i y hy;have:out≠[]:=fun c=>by rw[c]at hy;simp at hy);have:=q!.2 this;split<;>simp<;>omega;simp
theorem LY(s:Sl qy)(hs:s.l.length<=2^20): ∀(r:List qy)(i:Nat)(out:List qy),s.l.drop i=r->out.length<=i->vh (s,(i:Int),out)=some (SQ out r):=by intro r;induction r with|nil=>intro i out h _;have:=qW h;rw[vh.eq_1,if_neg v?];rfl|cons x r ih=>intro i out h ho;obtain⟨h1,h2,h3⟩:=zl h;rw[vh.eq_1,if_pos v?];have step:=ih (i+1) (l5 out x) h2 (by have:=Nm out x;omega);show _=some (SQ (l5 out x) r);rw[ws o?,<- step];by_cases c:0<out.length;(obtain⟨y,hy⟩:=gl (l:=out) (k:=out.length-1) o?;have hl:out.getLast? =some y:=by rw[List.getLast?_eq_getElem?];exact hy);rw[if_pos v?,show q?.wrap ((out.length:Int)-1)=((out.length-1:Nat):Int)from by rw[qG o? o?];omega,gi hy,gi h1];simp only[zJ,qS,Jv,sQ,c?];unfold l5;rw[hl];simp only;by_cases t:QQ (uL y) (uL x);have t' :=t;unfold QQ at t';rw[if_pos (by simpa using t'),if_pos t];unfold Kd join;by_cases d:y.head<y.anchor<;>simp[d];have t' :=t;unfold QQ at t';rw[if_neg (by simpa using t'),if_neg t,if_pos qA];have e:out=[]:=H_ o?;subst e;rw[if_neg z?,gi h1];simp only[zJ,qS];rw[if_pos (qA z? o?)];rfl
def mm(l:List qy):List qy:=SQ [] (jd uL [] l)
theorem Ni(l:Sl qy)(hl:l.l.length<=2^19):sR l=some ⟨(mm l.l).isEmpty,mm l.l⟩:=by have h1:=(tO uL l.l []).length_eq;unfold sR;rw[show (0:Int)=((0:Nat):Int)from rfl,LW l l.l 0 ⟨true,[]⟩ rfl v? o? rfl];simp only[zJ,qS];rw[LY _ (by simp only[F?]at h1 |-; omega) (jd uL [] l.l) 0 [] rfl z?];rfl
def RV(l:List qy):Prop:=l.Pairwise fun a b=>(uL a).to<(uL b).qI
def Wc(n:Int)(l:List qy):Prop:= ∀x∈l,0<=(uL x).qI/\(uL x).to<=n
theorem mrg_apt(n:Int): ∀(r out:List qy),RV out->Wc n out->r.Pairwise (MO uL)->(∀ y∈out,∀ x∈r,(uL y).qI<=(uL x).qI)->Wc n r->RV (SQ out r)/\Wc n (SQ out r):=by intro r;induction r with|nil=>intro out h1 h2 _ _ _;exact⟨h1,h2⟩|cons x r ih=>(intro out h1 h2 h3 h4 h5;obtain⟨h6,h7⟩:=J!.1 h3;have hxn:=h5 x z?;have hr:Wc n r:=fun z hz=>h5 z (by simp[hz]);have hxr: ∀z∈r,(uL x).qI<=(uL z).qI:=fun z hz=>by have:=h6 z hz;unfold MO cC at this;omega);(have hxx:=eG x;show RV (SQ (l5 out x) r)/\_;have key:RV (l5 out x)/\Wc n (l5 out x)/\ ∀y∈l5 out x,∀ z∈r,(uL y).qI<=(uL z).qI:=by unfold l5;cases hl:out.getLast? with|none=>have:out=[]:=List.getLast?_eq_none_iff.1 hl;subst this;refine⟨by simp[RV],fun z hz=>?_,fun y hy z hz=>?_⟩;simp only[F?,d?]at hz;subst hz;exact hxn;simp only[F?,d?]at hy;subst hy;exact hxr z hz|some y=>(obtain⟨init,rfl⟩: ∃init,out=init++[y]:=by (have jx:out≠[]:=fun c=>by rw[c]at hl;simp at hl);rcases List.eq_nil_or_concat out with h|⟨i0,y0,h⟩;exact absurd h jx;refine⟨i0, ?_⟩;rw[h]at hl |-;simp at hl;subst hl;simp);have hy1:(uL y).qI<=(uL x).qI:=h4 y z? x z?;have hyn:=h2 y z?;have hyy:=eG y;obtain⟨a1,_,a3⟩:=o!.1 h1;simp only;by_cases t:QQ (uL y) (uL x);(rw[if_pos t];have e:(init++[y]).set ((init++[y]).length-1) (join y x)=init++[join y x]:=z?;rw[e];have hj:=join_sp y x;have hjf:(uL (join y x)).qI=(uL y).qI:=by rw[hj]);(have hjt:(uL (join y x)).to<=n:=by rw[hj];simp only;split<;>omega);refine⟨o!.2 ⟨a1,z?,fun a ha b hb=>?_⟩,fun z hz=>?_,fun z hz w hw=>?_⟩;simp only[d?]at hb;subst hb;rw[hjf];exact a3 a ha y z?;rcases m?.1 hz with hz|hz;exact h2 z (by simp[hz]);simp only[d?]at hz;subst hz;omega;rcases m?.1 hz with hz|hz;exact h4 z (by simp[hz]) w (by simp[hw]);simp only[d?]at hz;subst hz;have:=hxr w hw;omega;(rw[if_neg t];have hyx:(uL y).to<(uL x).qI:=by unfold QQ at t;split at t<;>split at t<;>omega);refine⟨o!.2 ⟨h1,z?,fun a ha b hb=>?_⟩,fun z hz=>?_,fun z hz w hw=>?_⟩;simp only[d?]at hb;subst hb;rcases m?.1 ha with ha|ha;have:=a3 a ha y z?;omega;simp only[d?]at ha;subst ha;exact hyx;rcases m?.1 hz with hz|hz;exact h2 z hz;simp only[d?]at hz;subst hz;exact hxn;rcases m?.1 hz with hz|hz;exact h4 z hz w (by simp[hw]);simp only[d?]at hz;subst hz;exact hxr w hw);exact ih (l5 out x) key.1 key.2.1 h7 key.2.2 hr
theorem mrg_len: ∀(r out:List qy),(SQ out r).length<=out.length+r.length/\((out≠[]\/r≠[])->SQ out r≠[]):=by intro r;induction r with|nil=>intro out;exact⟨by simp[SQ],fun h=>by simpa[SQ]using h⟩|cons x r ih=>intro out;have h1:=Nm out x;obtain⟨h2,h3⟩:=ih (l5 out x);refine⟨?_,fun _=>h3 (.inl fun c=>by rw[c]at h1;simp at h1)⟩;show(SQ (l5 out x) r).length<=_;simp only[g?];omega
theorem Zb(n:Int)(l:List qy)(h:Wc n l):RV (mm l)/\Wc n (mm l):=by have hp:=tO uL l [];refine mrg_apt n _ [] (by simp[RV]) (fun x hx=>by simp at hx) (VF uL l [] z?) (fun y hy=>by simp at hy) fun x hx=>?_;exact h x (by simpa using hp.mem_iff.1 hx)
theorem Wn(l:List qy):(mm l).length<=l.length/\(l≠[]->mm l≠[]):=by have hp:=(tO uL l []).length_eq;simp only[F?]at hp;obtain⟨h1,h2⟩:=mrg_len (jd uL [] l) [];refine⟨by unfold mm;simp only[e?]at h1;omega,fun h=>h2 (.inr fun c=>?_)⟩;rw[c]at hp;exact h (H_ (by simpa using hp.symm))
theorem mrg_id: ∀(r out:List qy),RV (out++r)->SQ out r=out++r:=by intro r;induction r with|nil=>intro out _;simp[SQ]|cons x r ih=>(intro out h;have e:l5 out x=out++[x]:=by unfold l5;cases hl:out.getLast? with|none=>rfl|some y=>have hy:y∈out:=List.mem_of_getLast? hl;have h1:=(o!.1 h).2.2 y hy x z?;have:=eG y;have:=eG x;simp only;rw[if_neg];unfold QQ;split<;>split<;>omega);show SQ (l5 out x) r=_;rw[e,ih (out++[x]) (by simpa using h)];simp
theorem Yy(l:List qy)(h:RV l):mm l=l:=by
 have h1:l.Pairwise (MO uL):=h.imp fun{a b} eR=>by have:=eG a;have:=eG b;unfold MO cC;omega
 unfold mm;rw[Yn uL l [] (by simpa using h1)];simp only[F?];rw[mrg_id l [] (by simpa using h)];simp
theorem norm_L0(n:Int)(l:Sl qy)(hl:l.l.length<2^60): ∀(r:List qy)(i:Nat),l.l.drop i=r-> ∃v,nv (n,l,(i:Int))=some v/\((v= .inl (⟨true,[]⟩,3)/\ ¬Wc n r)\/(v= .inr ()/\Wc n r)):=by intro r;induction r with|nil=>intro i h;have:=qW h;rw[nv.eq_1,if_neg v?];exact⟨_,rfl,.inr ⟨rfl,fun x hx=>by simp at hx⟩⟩|cons x r ih=>(intro i h;obtain⟨h1,h2,h3⟩:=zl h;have hx:=eG x;rw[nv.eq_1,if_pos v?,gi h1,ws o?];simp only[zJ,qS,Jv];have hm:rX (uL x) n=some (decide (0<=(uL x).qI/\(uL x).to<=n)):=by unfold rX;by_cases c:0<=(uL x).qI;simp[c,hx];simp[c]);rw[hm];simp only[qS];by_cases c:0<=(uL x).qI/\(uL x).to<=n;rw[if_neg (by simpa using c)];obtain⟨v,g1,g2⟩:=ih (i+1) h2;refine⟨v,g1, ?_⟩;rcases g2 with ⟨g2,g3⟩|⟨g2,g3⟩;exact .inl ⟨g2,fun k=>g3 fun z hz=>k z (by simp[hz])⟩;refine .inr ⟨g2,fun z hz=>?_⟩;rcases U?.1 hz with rfl|hz;exact c;exact g3 z hz;rw[if_pos (by simp only[Bool.not_eq_true',decide_eq_false_iff_not];exact c)];exact⟨_,rfl,.inl ⟨rfl,fun k=>c (k x z?)⟩⟩
theorem SU(n:Int)(l:Sl qy)(hl:l.l.length<2^60): ∃(q:Sl qy)(c:Int),bt n l=some (q,c)/\((c=0/\l.l≠[]/\l.l.length<=64/\Wc n l.l/\q=⟨(mm l.l).isEmpty,mm l.l⟩)\/(c≠0/\q=⟨true,[]⟩/\ ¬(l.l≠[]/\l.l.length<=64/\Wc n l.l))):=by unfold bt;by_cases c1:l.l=[];rw[if_pos (by simp[c1])];exact⟨_,_,rfl,.inr ⟨by decide,rfl,fun k=>k.1 c1⟩⟩;have hp:=q!.2 c1;rw[if_neg v?];by_cases c2:l.l.length<=64;rw[if_neg v?];obtain⟨v,g1,g2⟩:=norm_L0 n l hl l.l 0 rfl;rw[show ((0:Nat):Int)=0 from rfl]at g1;rw[g1];rcases g2 with ⟨rfl,g2⟩|⟨rfl,g2⟩;exact⟨_,_,rfl,.inr ⟨by decide,rfl,fun k=>g2 k.2.2⟩⟩;simp only[zJ,qS,Ni l o?];exact⟨_,_,rfl,.inl ⟨rfl,c1,c2,g2,rfl⟩⟩;rw[if_pos v?];exact⟨_,_,rfl,.inr ⟨by decide,rfl,fun k=>c2 k.2.1⟩⟩
end Xr
namespace Xr
structure S2 (P:qr->Prop) (b:qa) (q:Sl qy) (ss:List qb) (fl:Sl (Sl (Sl Int))):Prop where
 blen:b.length<=2^39
 ne:q.l≠[]
 VJ:q.l.length<=64
 S7:RV q.l
 K7:Wc b.length q.l
 di:ss.length<=16
 small: ∀s∈ss,xD s
 may: ∀s∈ss,mC s.insts.l b.length
 KV:fl.l.length=ss.length
 fnn:ss≠[]->fl.nil=false
 each: ∀(i:Nat) s f,ss[i]? =some s->fl.l[i]? =some f->so s.insts.l f
 stop: ∀s∈ss,∀ i∈s.insts.l,∀ x∈i.stops.l,P x
def Cored(P:qr->Prop):Prop:= ∀x y,core x=core y->P y->P x
def Ix(e:ql)(s:qb)(a k:Int):Prop:=(a= -1/\k= -1)\/ ∃(a' k' :Nat)(i:qk)(x:qr),a=a' /\k=k' /\s.insts.l[a']? =some i/\i.stops.l[k']? =some x/\xl e.span x.span
theorem Q7(a:qn):xl a a:=⟨u! _,u! _⟩
theorem oK{a b c:qn}(h1:xl a b)(h2:xl b c):xl a c:=by unfold xl at *; omega
section
variable {e:ql} (mark:Bool) (w:qa) (w2:Sl qy) (ss:List qb) (fl:Sl (Sl (Sl Int)))
theorem lay_L0(top inst stop:Int)(hs:ss.length<=16): ∀(d i:Nat)(is ks:List Int),i+d=ss.length->is.length=ss.length->ks.length=ss.length->(∀ j,j<i->is[j]? =some (-1)/\ks[j]? =some (-1))->
  ∃MM Fu,kD (top,inst,stop,mark,(i:Int),w,w2,ss,fl,e,is,ks)=some (MM,Fu)/\MM.length=ss.length/\Fu.length=ss.length/\ ∀j,j<ss.length->MM[j]? =some (-1)/\Fu[j]? =some (-1):=by intro d;induction d with|zero=>intro i is ks h h1 h2 H;rw[kD.eq_1,if_neg v?];exact⟨is,ks,rfl,h1,h2,fun j hj=>H j o?⟩|succ d ih=>intro i is ks h h1 h2 H;obtain⟨x,hx⟩:=gl (l:=is) (k:=i) o?;obtain⟨y,hy⟩:=gl (l:=ks) (k:=i) o?;rw[kD.eq_1,if_pos v?,gi hx,gi hy,ws o?];simp only[zJ,qS,c?];refine ih (i+1) _ _ o? (by simp[h1]) (by simp[h2]) fun j hj=>?_;rw[zm,zm];by_cases c:i=j;subst c;rw[if_pos ⟨rfl,o?⟩,if_pos ⟨rfl,o?⟩];exact⟨rfl,rfl⟩;rw[if_neg o?,if_neg o?];exact H j o?
def o0(e:ql)(ss:List qb)(is ks:List Int):Prop:=is.length=ss.length/\ks.length=ss.length/\ ∀(j:Nat) s,ss[j]? =some s-> ∃a k,is[j]? =some a/\ks[j]? =some k/\Ix e s a k
theorem lay_L2(top:Int)(dF: ∀s∈ss,xD s)(T3: ∀s∈ss,∃ n,mC s.insts.l n): ∀(k:Nat)(is ks:List Int)(qo:qn),k<=ss.length->k<2^60->xl e.span qo->o0 e ss is ks->
  ∃MM Fu at',jC (top,mark,(k:Int)-1,w,w2,ss,fl,e,is,ks,qo)=some (MM,Fu,at')/\o0 e ss MM Fu/\ ∀j,k<=j->MM[j]? =is[j]? :=by intro k;induction k with|zero=>intro is ks qo _ _ _ H;rw[jC.eq_1,if_neg z?];exact⟨is,ks,qo,rfl,H,fun j _=>rfl⟩|succ k ih=>(intro is ks qo hk hb hw H;obtain⟨s,hs⟩:=gl (l:=ss) (k:=k) o?;have sx:=z7 hs;obtain⟨h1,h2,h3⟩:=H;obtain⟨x,hx⟩:=gl (l:=is) (k:=k) o?;obtain⟨y,hy⟩:=gl (l:=ks) (k:=k) o?;obtain⟨v,hv,hq⟩:=XW s qo (dF s sx);rw[show ((k+1:Nat):Int)-1=(k:Int) by omega,jC.eq_1,if_pos z?,gi hs];simp only[zJ,qS];rw[hv];simp only[qS];rw[gi hx,gi hy,show q?.wrap ((k:Int)-1)=(k:Int)-1 from qG o? o?];simp only[qS,c?];have upd: ∀a c:Int,Ix e s a c->o0 e ss (is.set k a) (ks.set k c):=by intro a c hac;refine⟨by simp[h1],by simp[h2],fun j s' oM=>?_⟩;rw[zm,zm];by_cases cc:k=j;subst cc;rw[hs]at oM;cases oM;rw[if_pos ⟨rfl,o?⟩,if_pos ⟨rfl,o?⟩];exact⟨a,c,rfl,rfl,hac⟩;rw[if_neg o?,if_neg o?];exact h3 j s' oM);(have sb: ∀(L:List Int)(a:Int)(j:Nat),k+1<=j->(L.set k a)[j]? =L[j]? :=by intro L a j hj;rw[zm,if_neg o?]);rcases hq with rfl|⟨a',k',i,z,g1,g2,g3,g4,_,_,g5⟩;rw[if_neg z?];obtain⟨MM,Fu,at',q1,q2,q3⟩:=ih (is.set k (-1)) (ks.set k (-1)) qo o? o? hw (upd _ _ (.inl ⟨rfl,rfl⟩));exact⟨MM,Fu,at',q1,q2,fun j hj=>by rw[q3 j o?,sb _ _ j hj]⟩;obtain⟨va,vk⟩:=v;simp only at g1 g2 |-;subst g1 g2;rw[if_pos z?,gi g3];simp only[qS];obtain⟨n,hn⟩:=T3 s sx;have dE:=(hn.may a' i g3).inside k' z g4;have hz:xl e.span z.span:=oK hw g5;obtain⟨MM,Fu,at',q1,q2,q3⟩:=ih (is.set k (a' :Int)) (ks.set k (k' :Int)) i.span o? o? (oK hz ⟨dE.1,dE.2⟩) (upd _ _ (.inr ⟨a',k',i,z,rfl,rfl,g3,g4,hz⟩));exact⟨MM,Fu,at',q1,q2,fun j hj=>by rw[q3 j o?,sb _ _ j hj]⟩
structure Laid (e:ql) (n:Int) (aD:List qb) (is:List Int) (i:Nat) (ss:List qb) (fl:Sl (Sl (Sl Int))):Prop where
 len:ss.length=aD.length
 KV:fl.l.length=aD.length
 fnn:aD≠[]->fl.nil=false
 done: ∀(j:Nat) s,j<i->aD[j]? =some s-> ∃s' f a,ss[j]? =some s' /\fl.l[j]? =some f/\is[j]? =some a/\Up e n s a s' f
 todo: ∀(j:Nat) s,i<=j->aD[j]? =some s->ss[j]? =some s/\ ∃f,fl.l[j]? =some f/\so s.insts.l f
theorem N8(n:Int)(he:wv e n)(aD:List qb)(dF: ∀s∈aD,xD s)(T3: ∀s∈aD,mC s.insts.l n)(is ks:List Int)(ho:o0 e aD is ks)(i:Nat)(hi:i<aD.length)(fl:Sl (Sl (Sl Int)))(ss:List qb)(H:Laid e n aD is i ss fl):
  ∃s a k f,ss[i]? =some s/\is[i]? =some a/\ks[i]? =some k/\fl.l[i]? =some f/\fl.nil=false/\ ∀deep mark,∃ s' g,kJ s a k e deep mark f=some (s',f,g)/\Laid e n aD is (i+1) (ss.set i s') ⟨false,fl.l.set i ⟨g.nil,g.l⟩⟩:=by
 obtain⟨s,hs⟩:=gl (l:=aD) (k:=i) hi;have sx:=z7 hs;obtain⟨t1,f,t2,t3⟩:=H.todo i s (jv _) hs;obtain⟨a,k,o1,o2,o3⟩:=ho.2.2 i s hs;have jx:aD≠[]:=fun c=>by rw[c]at hi;simp at hi
 refine⟨s,a,k,f,t1,o1,o2,t2,H.fnn jx,fun deep mark=>?_⟩;obtain⟨s',g,g1,g2⟩:=shift_ok e n he mark s (dF s sx) (T3 s sx) deep e.span (Q7 _) a k (by
  rcases o3 with o3|o3
  ·exact .inl o3
  exact .inr (.inr o3)) f t3
 refine⟨s',g,g1,⟨by simp[H.len],by simp[H.KV],fun _=>rfl, ?_, ?_⟩⟩;intro j s1 hj nH;by_cases c:i=j;subst c;rw[hs]at nH;cases nH;refine⟨s',g,a, ?_, ?_,o1,g2⟩;rw[zm,if_pos ⟨rfl,by rw[H.len];exact hi⟩];rw[zm,if_pos ⟨rfl,by rw[H.KV];exact hi⟩];obtain⟨s2,f2,a2,k1,k2,k3,k4⟩:=H.done j s1 o? nH;refine⟨s2,f2,a2, ?_, ?_,k3,k4⟩;rw[zm,if_neg o?];exact k1;rw[zm,if_neg o?];exact k2;intro j s1 hj nH;obtain⟨k1,f2,k2,k3⟩:=H.todo j s1 o? nH;refine⟨?_,f2, ?_,k3⟩;rw[zm,if_neg o?];exact k1;rw[zm,if_neg o?];exact k2
theorem lay_L4(n:Int)(he:wv e n)(aD:List qb)(hs16:aD.length<=16)(dF: ∀s∈aD,xD s)(T3: ∀s∈aD,mC s.insts.l n)(is ks:List Int)(ho:o0 e aD is ks)(top:Int)(qo:qn): ∀(d i:Nat)(fl:Sl (Sl (Sl Int)))(ss:List qb),i+d=aD.length->Laid e n aD is i ss fl->
  ∃ss' UI,jD (top,mark,(i:Int),w,w2,ss,fl,e,is,ks,qo)=some (ss',UI)/\Laid e n aD is aD.length ss' UI:=by intro d;induction d with|zero=>intro i fl ss h H;have:=H.len;obtain rfl:i=aD.length:=o?;rw[jD.eq_1,if_neg v?];exact⟨ss,fl,rfl,H⟩|succ d ih=>intro i fl ss h H;have hl:=H.len;obtain⟨s,a,k,f,g1,g2,g3,g4,g5,g6⟩:=N8 n he aD dF T3 is ks ho i o? fl ss H;rw[jD.eq_1,if_pos v?,g5,if_neg z?,gi g4];simp only[zJ,qS];rw[gi g1,gi g2,gi g3,ws o?];simp only[qS,c?];cases mark with|true=>obtain⟨s',g,q1,q2⟩:=g6 true true;rw[if_pos rfl,q1];exact ih (i+1) _ _ o? q2|false=>obtain⟨s',g,q1,q2⟩:=g6 ((i:Int) != top) false;rw[if_neg z?,q1];exact ih (i+1) _ _ o? q2
theorem lay_L42(n:Int)(he:wv e n)(aD:List qb)(hs16:aD.length<=16)(dF: ∀s∈aD,xD s)(T3: ∀s∈aD,mC s.insts.l n)(is ks:List Int)(ho:o0 e aD is ks)(top:Int): ∀(d i:Nat)(fl:Sl (Sl (Sl Int)))(ss:List qb),i+d=aD.length->Laid e n aD is i ss fl->
  ∃ss' UI,j8 (top,mark,(i:Int),w,w2,ss,fl,e,is,ks)=some (ss',UI)/\Laid e n aD is aD.length ss' UI:=by intro d;induction d with|zero=>intro i fl ss h H;have:=H.len;obtain rfl:i=aD.length:=o?;rw[j8.eq_1,if_neg v?];exact⟨ss,fl,rfl,H⟩|succ d ih=>intro i fl ss h H;have hl:=H.len;obtain⟨s,a,k,f,g1,g2,g3,g4,g5,g6⟩:=N8 n he aD dF T3 is ks ho i o? fl ss H;rw[j8.eq_1,if_pos v?,g5,if_neg z?,gi g4];simp only[zJ,qS];rw[gi g1,gi g2,gi g3,ws o?];simp only[qS,c?];cases mark with|true=>obtain⟨s',g,q1,q2⟩:=g6 true true;rw[if_pos rfl,q1];exact ih (i+1) _ _ o? q2|false=>obtain⟨s',g,q1,q2⟩:=g6 ((i:Int) != top) false;rw[if_neg z?,q1];exact ih (i+1) _ _ o? q2
end
def QK(e:ql)(s:qy):qy:=⟨mv e.span.qI e.span.to e.text.length true s.anchor,mv e.span.qI e.span.to e.text.length true s.head⟩
theorem move6(e:ql)(n:Int)(he:wv e n)(p:Int)(h0:0<=p)(h1:p<=n):dO p true ⟨false,[e]⟩=some (mv e.span.qI e.span.to e.text.length true p):=by unfold dO;rw[Mj _ z?,Yn _ [e] [] z?];simp only[F?,zJ,qS];rw[show q?.wrap ((([e]:List ql).length:Int)-1)=((0:Nat):Int) by(rw [show (([e]:List ql).length:Int)=1 from rfl];decide),pw.eq_1,if_pos z?,gi (l:=[e]) (k:=0) rfl];simp only[zJ,qS,TF e n he p h0 h1];rw[show q?.wrap (((0:Nat):Int)-1)= -1 by decide,pw.eq_1,if_neg z?];rfl
theorem q02(e:ql)(n:Int)(he:wv e n)(p:Int)(h0:0<=p)(h1:p<=n):0<=mv e.span.qI e.span.to e.text.length true p/\mv e.span.qI e.span.to e.text.length true p<=n+(e.text.length-(e.span.to-e.span.qI)):=by have:=he.a0;have:=he.ab;have:=he.bn;unfold mv;split;omega;split;omega;simp only[if_true];omega
theorem Q2(s:qy):(uL s).qI<=s.anchor/\(uL s).qI<=s.head/\s.anchor<=(uL s).to/\s.head<=(uL s).to:=by unfold uL;simp only;refine⟨?_, ?_, ?_, ?_⟩<;>split<;>omega
theorem q00(e:ql)(n:Int)(he:wv e n)(q:Sl qy)(hq:q.l.length<=2^19)(hn:Wc n q.l): ∀(r:List qy)(i:Nat)(out:List qy),q.l.drop i=r->out.length=i->nu (q,⟨false,[e]⟩,(i:Int),out)=some (out++r.map (QK e)):=by intro r;induction r with|nil=>intro i out h _;have:=qW h;rw[nu.eq_1,if_neg v?];simp|cons x r ih=>intro i out h ho;obtain⟨h1,h2,h3⟩:=zl h;have hx:=hn x (z7 h1);have hs:=Q2 x;rw[nu.eq_1,if_pos v?,gi h1,ws o?];simp only[zJ,qS];rw[move6 e n he x.anchor o? o?,move6 e n he x.head o? o?];simp only[qS];rw[if_pos qA];have:=ih (i+1) (out++[QK e x]) h2 v?;rw[show qy.mk (mv e.span.qI e.span.to e.text.length true x.anchor) (mv e.span.qI e.span.to e.text.length true x.head)=QK e x from rfl,this];simp
theorem Nj(e:ql)(n:Int)(he:wv e n)(q:Sl qy)(hq:q.l.length<=2^19)(hn:Wc n q.l):dQ q [e]=some ⟨(mm (q.l.map (QK e))).isEmpty,mm (q.l.map (QK e))⟩/\Wc (n+(e.text.length-(e.span.to-e.span.qI))) (q.l.map (QK e)):=by constructor;unfold dQ;rw[show (0:Int)=((0:Nat):Int)from rfl,q00 e n he q hq hn q.l 0 [] rfl rfl];simp only[zJ,qS,F?];rw[Ni _ (by simpa using hq)];rfl;intro y hy;obtain⟨x,hx,rfl⟩:=N?.1 hy;have h1:=hn x hx;have h2:=Q2 x;have h3:=q02 e n he x.anchor o? o?;have h4:=q02 e n he x.head o? o?;unfold uL QK;simp only;constructor;split<;>omega;split<;>omega
end Xr
end Go.Proofs.YtoflcafolmmaaaaGreat
