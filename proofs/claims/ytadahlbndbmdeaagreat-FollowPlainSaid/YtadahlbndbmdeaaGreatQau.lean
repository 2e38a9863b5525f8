/-
  A regular expression, read from a text.
-/
import Derived.Test.YtadahlbndbmdeaaGreatQat
open Bool renaming true->N,false->K
open Go.Gm renaming Sl->J,qM->D,qa->B
open Go.Proofs.YtadahlbndbmdeaaGreat renaming qL->I,qm->F
open Go.Proofs.YtadahlbndbmdeaaGreat.Xr renaming gi->E
open Option renaming some->T
open _root_ renaming Int->Z,List->V,if_pos->U,if_neg->R,Nat->Q,Bool->C,UInt8->u
open Go.IntKind renaming i64->q?
open Int renaming toNat_natCast->X?,le_refl->y!
open List renaming map->y?,length_cons->b?,length_append->p?,mem_append->t?,length_nil->A,getElem?_append_left->c?,mem_singleton->d?,replicate->f?,map_cons->e?,getElem?_cons_zero->i?,getElem?_cons_succ->Q?,getElem?_append_right->J?,mem_cons->K?,mem_map->B?,nil_append->M?,pairwise_cons->C?,length_pos_iff->I?,map_nil->k!,pairwise_append->n!,take_append_drop->H!,ne_nil_of_length_pos->R!,eq_nil_of_length_eq_zero->q_,map_append->z_
open Nat renaming strongRecOn->s?,add_zero->a!
set_option linter.unusedSimpArgs false
set_option linter.unusedVariables false
namespace Go.Proofs.YtadahlbndbmdeaaGreat
open Go Go.Gm
namespace Xr
abbrev NI(e:qf)(a:V Z):=rk e.span.qG e.span.to e.text.length (JV a)
def core(x:qu):Z×C×C×zG×J B:=(x.n,x.first,x.qR,x.qZ,x.opts)
theorem WW(i:qr)(is:V qr)(a:Q):zO (i::is) (a+1)=1+i.stops.l.length+zO is a:=by simp[zO]
theorem row_at: ∀(is:V qr)(b a:Q)(i:qr),is[a]? =T i-> ∀r,r<1+i.stops.l.length->(mA b is)[zO is a+r]? =(oJ (b+zO is a) i)[r]? :=by intro is;induction is with|nil=>intro b a i h;simp at h|cons i0 is c=>intro b a i h r d;have e:=QK b i0;cases a with|zero=>(simp only[i?,wO]at h;subst h;have:zO (i0::is) 0=0:=by simp[zO]);rw[this,mA,Q.zero_add,c? o?,a!]|succ a=>simp only[Q?]at h;rw[WW,mA,J? o?,e,show 1+i0.stops.l.length+zO is a+r-(1+i0.stops.l.length)=zO is a+r by omega,c (b+1+i0.stops.l.length) a i h r d];rw[show b+1+i0.stops.l.length+zO is a=b+(1+i0.stops.l.length+zO is a) by omega]
section
variable (e:qf) (n:Z) (he:uX e n) (mark:C) (sd:V Z) (s:qb) (bR:qb) (cur:Z)
include he in
theorem shift_L0(hs:jY s)(hm:eE s.insts.l n)(X:sd.length<=2^30)
  (H: ∀(b:Q)(i:qr),i∈s.insts.l->(∀ r x,(oJ b i)[r]? =T x->(mA 0 s.insts.l)[b+r]? =T x)-> ∀(k:Q)(x:qu),i.stops.l[k]? =T x-> -1<=x.up/\ ∀p:Q,x.up=p->p<k/\(JV sd (b+1+k)≠1->JV sd (b+1+p)≠1))
  (fl:J (J Z)) (Kv:e9 s.insts.l fl):
  ∀(r:V qr)(a b:Q)(flags:J (J Z))(out:V qr),s.insts.l.drop a=r->(∀ q x,(mA b r)[q]? =T x->(mA 0 s.insts.l)[b+q]? =T x)->b+(mA b r).length=sd.length->e9 out flags->out.length<=a->
  ∃Nr,yT (mark,⟨K,sd⟩,(b:Z),(a:Z),fl,s,e,bR,cur,flags,out)=T (fl,Nr,out++NI e sd b r)/\e9 (out++NI e sd b r) Nr:=by
 intro r;have tv:=hs.1;induction r with
  |nil=>intro a b flags out h _ _ f _;have:=zd h;rw[yT.eq_1,R v?];exact⟨flags,by simp[rk],by simpa[rk]using f⟩
  |cons i r ih=>
   (intro a b flags out h lH hlen f ho;obtain⟨M,h2,h3⟩:=zx h;have fq:=zj M;have hi:=hs.2 i fq;have o:=hm.may a i M;have m:=o.W2;have hL:=QK b i;have kN:s.insts.l≠[]:=λc=>by rw[c]at h3;simp at h3);(have Y: ∀q x,(oJ b i)[q]? =T x->(mA 0 s.insts.l)[b+q]? =T x:=by intro q x v;have hq:=(qK v).1;exact lH q x (by rw[mA,c? o?];exact v));(have z: ∀q x,(mA (b+1+i.stops.l.length) r)[q]? =T x->(mA 0 s.insts.l)[b+1+i.stops.l.length+q]? =T x:=by intro q x v;have:=lH (1+i.stops.l.length+q) x (by rw[mA,J? o?,hL,show 1+i.stops.l.length+q-(1+i.stops.l.length)=q by omega];exact v);rwa[show b+(1+i.stops.l.length+q)=b+1+i.stops.l.length+q by omega]at this);(have d:b+1+i.stops.l.length+(mA (b+1+i.stops.l.length) r).length=sd.length:=by rw[mA,p?,hL]at hlen;omega);(obtain⟨sv,y⟩:=gl (l:=sd) (k:=b) o?;have g:JV sd b=sv:=by simp[JV,y]);obtain⟨f0,L⟩:=gl (l:=fl.l) (k:=a) (by rw[Kv.len];omega);obtain⟨k1,k2,k3⟩:=Kv.each a i f0 M L;rw[yT.eq_1,U v?,E M];simp only[zl,D];rw[E y];simp only[D];rw[Rl e n he i.span m.1 m.2.1 m.2.2 sv];simp only[D];rw[U z?,U (qC v? o?),ws (k:=b) o?,ws (k:=a) o?];have e8: ∀x∈i.stops.l,0<=x.span.qG/\x.span.qG<=x.span.to/\x.span.to<=n:=by intro x v;obtain⟨k,hk⟩:=kS v;have:=o.inside k x hk;have:=o.le k x hk;omega
   obtain⟨pl',P,g1,g2,g3⟩:=shift_L2 e n he mark sd s bR cur flags out (Dz e.span.qG e.span.to e.text.length sv i.span).qG (Dz e.span.qG e.span.to e.text.length sv i.span).to a b (sv != 1) i M o? X hi e8 (H b i fq Y) f0 k1 k2 k3
    i.stops.l 0 fl (f? i.stops.l.length 0) [] [] rfl o? L (Kv.nn kN) z? (λj hj=>o?) (by simp[XU]) z? z? z?
   simp only[X?];rw[show ((b+1+0:Q):Z)=((b+1:Q):Z)from rfl,show((0:Q):Z)=0 from rfl]at g1;rw[g1];simp only[D];by_cases W:sv=1;(rw[R (by simpa using W)];have e1:NI e sd b (i::r)=NI e sd (b+1+i.stops.l.length) r:=by show rk _ _ _ _ _ (i::r)=_;rw[rk,U (by rw[g];exact W)]);rw[e1];exact ih (a+1) (b+1+i.stops.l.length) flags out h2 z d f o?;(rw[U (by simpa using W),U qC,U (qC (by have:=f.len;omega) o?)];have e1:NI e sd b (i::r)=Wy e.span.qG e.span.to e.text.length (JV sd) b i::NI e sd (b+1+i.stops.l.length) r:=by show rk _ _ _ _ _ (i::r)=_;rw[rk,R (by rw[g];exact W)]);have e2:qr.mk (Dz e.span.qG e.span.to e.text.length sv i.span) (⟨([]++NS e sd (b+1) 0 i.stops.l).isEmpty,[]++NS e sd (b+1) 0 i.stops.l⟩:J qu)=Wy e.span.qG e.span.to e.text.length (JV sd) b i:=by unfold Wy;rw[g,M?]
   rw[e2,e1];obtain⟨Nr,q1,q2⟩:=ih (a+1) (b+1+i.stops.l.length) ⟨K,flags.l++[⟨P.isEmpty,P⟩]⟩ (out++[Wy e.span.qG e.span.to e.text.length (JV sd) b i]) h2 z d (by
    refine⟨by simp[f.len],λ_=>rfl, ?_⟩
    intro a' i' f'' t w
    by_cases c:a' <out.length
    ·rw[c? c]at t
     rw[c? (by rw[f.len];exact c)]at w
     exact f.each a' i' f'' t w
    rw[J? o?]at t
    rw[J? (by have:=f.len;simp only at *; omega)]at w
    have hz:a' -out.length=0:=by
     have:=(qK t).1
     simp at this
     omega
    rw[hz]at t
    rw[f.len,hz]at w
    simp only[i?,wO]at t w
    subst t w
    have TO:P.length=(NS e sd (b+1) 0 i.stops.l).length:=by simpa using g2
    refine⟨TO,λc=>?_,g3⟩
    have:(NS e sd (b+1) 0 i.stops.l)≠[]:=c
    cases NC:P with
    |nil=>
     rw[NC]at TO
     exact absurd (V.length_eq_zero_iff.1 TO.symm) this
    |cons _ _=>rfl) v?
   refine⟨Nr,by rw[q1];simp,by simpa using q2⟩
theorem L6(a b c:Z)(f:Q->Z): ∀(is:V qr)(d:Q),(∀ k i,is[k]? =T i->f (d+zO is k)≠1)->(rk a b c f d is).length=is.length:=by
 intro is;induction is with
 |nil=>intro d _;rfl
 |cons i is m=>
  intro d h;have g:=h 0 i rfl;rw[show zO (i::is) 0=0 by simp[zO],a!]at g;rw[rk,R g,b?,b?,m (d+1+i.stops.l.length) (λk j o=>by
   have:=h (k+1) j (by simpa using o)
   rw[WW]at this
   rwa[show d+1+i.stops.l.length+zO is k=d+(1+i.stops.l.length+zO is k) by omega])]
theorem Dw(a b c:Z)(f:Q->Z){l:V J5}(is:V qr)(d:Q)(hl: ∀(r:Q)(x:J5),(mA d is)[r]? =T x->l[d+r]? =T x): ∀y∈rk a b c f d is,∃ i∈is,y.stops.l.length<=i.stops.l.length/\ ∀z∈y.stops.l,∃ x∈i.stops.l,core z=core x:=by intro y h;obtain⟨j,o⟩:=kS h;obtain⟨k,i,b1,p,_,_,rfl,_⟩:=Wz is d hl j y o;refine⟨i,zj p,L8 _ _ _,λz g=>?_⟩;obtain⟨x,m,k,rfl⟩:=L9 _ _ _ z g;exact⟨x,m,rfl⟩
theorem newIs_le(a b c:Z)(f:Q->Z): ∀(is:V qr)(d:Q),(rk a b c f d is).length<=is.length:=by intro is;induction is with|nil=>intro d;simp[rk]|cons i is g=>intro d;have:=g (d+1+i.stops.l.length);rw[rk];split<;>simp<;>omega
structure N4 (e:qf) (n:Z) (s:qb) (a:Z) (s' :qb) (flags:J (J Z)):Prop where
 cur:s'.cur=s.cur
 may:eE s'.insts.l (n+(e.text.length-(e.span.to-e.span.qG)))
 fl:e9 s'.insts.l flags
 len:s'.insts.l.length<=s.insts.l.length
 core: ∀y∈s'.insts.l,∃ i∈s.insts.l,y.stops.l.length<=i.stops.l.length/\ ∀z∈y.stops.l,∃ x∈i.stops.l,core z=core x
 all:a≠ -1->s'.insts.l.length=s.insts.l.length
structure ShX (e:qf) (n:Z) (s:qb) (deep:C) (a k:Z) (L:V TS) (h:V C) (sd:V Z) (last o:Z):Prop where
 rows:L.map strOf=mA 0 s.insts.l
 row:RowL L n
 hl:h.length=L.length
 sl:sd.length=L.length
 small:L.length<=2^25
 hold:PB (L.map strOf).length (FL L) (TL L) (UL L) (λy=>h[y]? =T N) e.span.qG e.span.to
 side:Side (L.map strOf).length (FL L) (TL L) (UL L) (λy=>h[y]? =T N) e.span.qG e.span.to last (JV sd)
 own:(a= -1/\k= -1/\o= -1/\ ∀y:Q,h[y]? ≠T N)\/ ∃(a' k' :Q)(i:qr)(x:qu),a=a' /\k=k' /\o=((zO s.insts.l a' +1+k' :Q):Z)/\s.insts.l[a']? =T i/\i.stops.l[k']? =T x/\xK e.span x.span
 has: ∀o' :Q,o=o' ->h[o']? =T N
 ex:deep=N-> ∀o' :Q,o=o' ->HE L.length (FL L) (TL L) (UL L) e.span.qG e.span.to o' (λy=>h[y]? =T N)
theorem at_S{L:V TS}(h:L.map strOf=mA 0 s.insts.l): ∀(a b :Q)(i:qr)(x:qu),s.insts.l[a]? =T i->i.stops.l[b]? =T x->zO s.insts.l a +1+b <L.length/\FL L (zO s.insts.l a +1+b)=x.span.qG/\TL L (zO s.insts.l a +1+b)=x.span.to/\UL L (zO s.insts.l a +1+b)=zO s.insts.l a +1+x.up:=by intro a b i x g f;have s9:=(qK f).1;have d:=row_at s.insts.l 0 a i g (b +1) o?;rw[show (oJ (0+zO s.insts.l a) i)[b +1]? =T (x.span.qG,x.span.to,((0+zO s.insts.l a :Q):Z)+1+x.up) by simp[oJ,f],<- h]at d;rw[show zO s.insts.l a +1+b =zO s.insts.l a +(b +1) by omega];have c:=lM d;exact⟨by have:=(qK d).1;simpa using this,c.1,c.2.1,by show Iv _ _=_;rw[c.2.2];simp⟩
theorem at_I{L:V TS}(d:L.map strOf=mA 0 s.insts.l): ∀(j:Q)(y:qr),s.insts.l[j]? =T y->zO s.insts.l j<L.length/\FL L (zO s.insts.l j)=y.span.qG/\TL L (zO s.insts.l j)=y.span.to/\UL L (zO s.insts.l j)= -1:=by intro j y c;have b:=row_at s.insts.l 0 j y c 0 o?;rw[show (oJ (0+zO s.insts.l j) y)[0]? =T (y.span.qG,y.span.to,-1) by simp[oJ],<- d,a!]at b;have a:=lM b;exact⟨by have:=(qK b).1;simpa using this,a.1,a.2.1,a.2.2⟩
include he in
theorem shift_ex(hs:jY s)(hm:eE s.insts.l n)(deep:Bool)(qp:qg)(Ox:xK e.span qp)(a k:Int)(ho:(a= -1/\k= -1)\/Yo s qp a k\/ ∃(a' k' :Nat)(i:qr)(x:qu),a=a' /\k=k' /\s.insts.l[a']? =some i/\i.stops.l[k']? =some x/\xK e.span x.span)(fl:Sl (Sl Int))(Kv:e9 s.insts.l fl):
  ∃L h sd last o flags,gy s a k e deep mark fl=some (⟨s.cur,⟨(NI e sd 0 s.insts.l).isEmpty,NI e sd 0 s.insts.l⟩⟩,fl,flags)/\ShX e n s deep a k L h sd last o/\e9 (NI e sd 0 s.insts.l) flags:=by
 have fZ:=he.ab;have hms: ∀i∈s.insts.l,∀ x∈i.stops.l,-1<=x.up/\x.up<=2^20:=by intro i hi x hx;obtain⟨a,ha⟩:=kS hi;obtain⟨k,hk⟩:=kS hx;have h1:=(hm.may a i ha).up k x hk;have h2:=(qK hk).1;have h3:=hs.2 i hi;omega
 obtain⟨L,hL1,Az⟩:=row_ok s hs hms;have hB:=rowS_ok n s.insts.l 0 0 hm (λa i hi=>(hm.may a i hi).W2.1);have hR:RowL L n:=by have:=hB.row;rw[<- Az]at this;exact this
 have h4:=XT hs.2;have h5:s.insts.l.length*2^12<=2^12*2^12:=Nat.mul_le_mul hs.1 (ke _);have tv:=hs.1;have rl: ∀(is:List qr)(b:Nat),(mA b is).length=is.length+many is:=by intro is;induction is with|nil=>intro b;simp[mA,many]|cons i is ih=>intro b;have:=QK b i;have:=ih (b+1+i.stops.l.length);simp only[mA,many,List.length_append,List.map_cons,List.sum_cons,List.length_cons]at*;omega
 have hLn:L.length=s.insts.l.length+many s.insts.l:=by rw[<- rl s.insts.l 0,<- Az];simp
 have TQ: ∃o:Int,rQ s a k=some o/\((a= -1/\k= -1/\o= -1)\/ ∃(a' k' :Nat)(i:qr)(x:qu),a=a' /\k=k' /\o=((zO s.insts.l a' +1+k' :Nat):Int)/\s.insts.l[a']? =some i/\i.stops.l[k']? =some x/\xK e.span x.span):=by
  rcases ho with ⟨rfl,rfl⟩|ho|⟨a',k',i,x,rfl,rfl,h1,h2,h3⟩;obtain⟨o,g1,g2⟩:=Rx s hs qp (-1) (-1) (.inl ⟨rfl,rfl⟩);refine⟨o,g1, ?_⟩;rcases g2 with g2|⟨a',k',g2,_⟩;exact .inl ⟨g2.1,rfl,g2.2⟩;omega;obtain⟨o,g1,g2⟩:=Rx s hs qp a k (.inr ho);refine⟨o,g1, ?_⟩;obtain⟨a',k',i,x,rfl,rfl,h1,h2,_,_,h3⟩:=ho;rcases g2 with ⟨g2,_⟩|⟨a'',k'',g2,g3,g4⟩;omega;obtain rfl:a' =a'' :=o?;obtain rfl:k' =k'' :=o?;refine .inr ⟨a',k',i,x,rfl,rfl,g4,h1,h2, ?_⟩;unfold xK at*;omega;have h7:Yo ⟨x.n,s.insts⟩ x.span a' k' \/x.qR=true:=by cases ht:x.qR with|true=>exact .inr rfl|false=>exact .inl ⟨a',k',i,x,rfl,rfl,h1,h2,rfl,ht,by unfold xK;omega⟩
  have GQ:=(qK h1).1;have s9:=(qK h2).1;have D9:=hs.2 i (zj h1);refine⟨((zO s.insts.l a' +1+k' :Nat):Int), ?_,.inr ⟨a',k',i,x,rfl,rfl,rfl,h1,h2,h3⟩⟩;unfold rQ;rw[if_neg v?,gi h1];simp only[zl,qM];rw[if_neg v?,ws o?,show(0:Int)=((0:Nat):Int)from rfl,Rw s hs a' o? a' 0 (k' +1) o? (by
   have:a' *(2^12+1)<=2^12*(2^12+1):=Nat.mul_le_mul o? (ke _)
   omega)]
  (have:zO s.insts.l 0=0:=by simp[zO]);rw[this,show k' +1+(zO s.insts.l a' -0)=zO s.insts.l a' +1+k' by omega];rfl
 obtain⟨o,ho1,ho2⟩:=TQ;have at_o:=at_S s Az;obtain⟨h,hh1,hh2,hh3,hh4,hh5,hh6⟩:=hold_ok L e hR o? he L.isEmpty deep o (by
  rcases ho2 with ⟨_,_,rfl⟩|⟨a',k',i,x,_,_,rfl,h1,h2,h3⟩
  ·exact .inl rfl
  obtain⟨q1,q2,q3,_⟩:=at_o a' k' i x h1 h2
  refine .inr ⟨_,rfl,q1, ?_⟩
  unfold xK at h3
  omega)
 obtain⟨sd,last,hd1,Oz,hd3⟩:=sides_ok L e hR L.isEmpty h hh2 o?;have hpar: ∀(b0:Nat)(i:qr),i∈s.insts.l->(∀ r x,(oJ b0 i)[r]? =some x->(mA 0 s.insts.l)[b0+r]? =some x)-> ∀(k:Nat)(x:qu),i.stops.l[k]? =some x-> -1<=x.up/\ ∀p:Nat,x.up=p->p<k/\(JV sd (b0+1+k)≠1->JV sd (b0+1+p)≠1):=by intro b0 i hi lH k x hx;obtain⟨a',ha'⟩:=kS hi;have hu:=(hm.may a' i ha').up k x hx;refine⟨hu.1,λp hp=>⟨o?,λkN=>?_⟩⟩;have h3:=lH (k+1) (x.span.qG,x.span.to,b0+1+x.up) (by simp[oJ,hx]);rw[<- Az,show b0+(k+1)=b0+1+k by omega]at h3;have h4:=lM h3;have h5:=(qK h3).1;exact ie hR hh3 hd3 h5 kN (p:=b0+1+p) (by show Iv _ _=_;rw[h4.2.2];simp only;omega)
 have hz:e9 [] ⟨true,[]⟩:=⟨rfl,λc=>absurd rfl c,λa i f hi=>by simp at hi⟩;obtain⟨flags,hs5,hs6⟩:=shift_L0 e n he mark sd s (qb.mk 0 ⟨true,[]⟩) s.cur hs hm o? hpar fl Kv s.insts.l 0 0 ⟨true,[]⟩ [] rfl (λq x hx=>by rw[Nat.zero_add];exact hx) (by rw[rl];omega) hz z?;refine⟨L,h,sd,last,o,flags, ?_,⟨Az,hR,hh2,Oz,o?,hh3,hd3, ?_,hh4,hh6⟩,by simpa using hs6⟩;unfold gy;simp only[hL1,ho1,hh1,hd1,zl,qM];rw[show ((0:Nat):Int)=0 from rfl]at hs5;rw[hs5];simp;exact ho2.imp (λh=>⟨h.1,h.2.1,h.2.2,hh5 h.2.2⟩) id
include he in
theorem shift_ok(hs:jY s)(hm:eE s.insts.l n)(deep:Bool)(qp:qg)(Ox:xK e.span qp)(a k:Int)(ho:(a= -1/\k= -1)\/Yo s qp a k\/ ∃(a' k' :Nat)(i:qr)(x:qu),a=a' /\k=k' /\s.insts.l[a']? =some i/\i.stops.l[k']? =some x/\xK e.span x.span)(fl:Sl (Sl Int))(Kv:e9 s.insts.l fl):
  ∃s' flags,gy s a k e deep mark fl=some (s',fl,flags)/\N4 e n s a s' flags:=by
 have fZ:=he.ab;obtain⟨L,h,sd,last,o,flags,h1,X,hs6⟩:=shift_ex e n he mark s hs hm deep qp Ox a k ho fl Kv;refine⟨_,flags,h1, ?_⟩;have Az:=X.rows;have hR:=X.row;have hh3:=X.hold;have hd3:=X.side;refine⟨rfl, ?_,hs6,newIs_le _ _ _ _ _ _, ?_, ?_⟩;have:=L7 (c:=(e.text.length:Int)) hR hh3 hd3 he.a0 fZ he.bn (Int.natCast_nonneg _) Az hm;exact this;exact Dw _ _ _ _ s.insts.l 0 (l:=mA 0 s.insts.l) (λr x hx=>by rw[Nat.zero_add];exact hx);intro hna;refine L6 _ _ _ _ s.insts.l 0 λj y hy=>?_;rw[Nat.zero_add];intro hgone;rcases X.own with ⟨h7,_⟩|⟨a',k',i,x,h6,_,h7,h8,h9,h10⟩;exact hna h7;have OO:=(hm.may a' i h8).inside k' x h9;have hxl:=(hm.may a' i h8).le k' x h9;obtain⟨r1',r2,r3,r4⟩:=at_I s Az j y hy;have r1:zO s.insts.l j<(L.map strOf).length:=by simpa using r1'
 have hnoH: ¬h[zO s.insts.l j]? =some true:=λc=>by have:=hd3.holds _ r1 c;have h11:sd.getD (zO s.insts.l j) 0=1:=hgone;omega
 have hyr:=(hm.may j y hy).W2;rcases rV hR hd3 r1 with ⟨c,_⟩|⟨c,c2⟩|⟨c,c2⟩|⟨c,c2⟩;exact hnoH c;by_cases cut:y.span.qG<e.span.to/\e.span.qG<y.span.to;unfold xK at h10;rcases Nat.lt_trichotomy j a' with q|q|q;have:=hm.Fq j a' y i q hy h8;omega;(subst q;rw[hy]at h8;cases h8;have hoo:=X.has _ h7;obtain⟨q1,_,_,_⟩:=at_S s Az j k' y x hy h9;have W1:lY (UL L) (zO s.insts.l j+1+k') (zO s.insts.l j):=by (have gen: ∀(k:Nat)(x:qu),y.stops.l[k]? =some x->lY (UL L) (zO s.insts.l j+1+k) (zO s.insts.l j):=by intro k;induction k using Nat.strongRecOn with|_ k ih=>intro x hx;have hu:=(hm.may j y hy).up k x hx;have s9:=(qK hx).1;have h4:=(at_S s Az j k y x hy hx).2.2.2;by_cases c:x.up= -1;exact .up _ _ .self o?;obtain⟨p,hp⟩: ∃p:Nat,x.up=p:=⟨x.up.toNat,o?⟩;have ee:y.stops.l[p]? =some y.stops.l[p]:=yc o?;exact Gq (p:=zO s.insts.l j+1+p) o? (ih p o? _ ee));exact gen k' x h9);(have: ∀q,lY (UL L) (zO s.insts.l j+1+k') q->q<(L.map strOf).length/\h[q]? =some true:=by intro q hq;induction hq with|self=>exact⟨by simpa using q1,hoo⟩|up x p _ hp ih=>have:=hR.up x ih.1;exact⟨o?,hh3.up x ih.1 ih.2 p hp⟩);exact hnoH (this _ W1).2;have:=hm.Fq a' j i y q h8 hy;omega;by_cases z:TL L (zO s.insts.l j)<e.span.qG\/TL L (zO s.insts.l j)=e.span.qG/\(FL L (zO s.insts.l j)<TL L (zO s.insts.l j)\/((zO s.insts.l j:Nat):Int)<last\/last<0);have:=hd3.left _ r1 c (λp hp=>o?) (by rw[r2,r3];exact cut) z;omega;have:=hd3.right _ r1 c (λp hp=>o?) (by rw[r2,r3];exact cut) z;omega;have h11:sd.getD (zO s.insts.l j) 0=1:=hgone;omega;have h11:sd.getD (zO s.insts.l j) 0=1:=hgone;omega
end
end Xr
namespace Xr
def dS(a b:qg):Prop:=a.qG<b.qG\/a.qG=b.qG/\a.to<b.to
instance(a b:qg):Decidable (dS a b):=by unfold dS;infer_instance
theorem NR(a b:qg):fO a b=T (decide (dS a b)):=by unfold fO dS;by_cases h:a.qG<b.qG;simp[h];by_cases c:a.qG=b.qG<;>simp[h,c]
section
variable {α:Type} (key:α->qg)
def pos(x:α)(s:V α):Q->Q
 |0=>0
 |k+1=>match s[k]? with
  |some y=>if dS (key x) (key y)then pos x s k else k+1
  |none=>k+1
def fu(s:V α)(x:α):V α:=s.take (pos key x s s.length)++x::s.drop (pos key x s s.length)
def k8(s r:V α):V α:=r.foldl (fu key) s
theorem Mk(x:α)(s:V α): ∀k,pos key x s k<=k:=by intro k;induction k with|zero=>simp[pos]|succ k ih=>rw[pos];split;split<;>omega;omega
def NM(a b:α):Prop:= ¬dS (key b) (key a)
theorem pos_spec(x:α)(s:V α): ∀k,k<=s.length->(∀ j y,pos key x s k<=j->j<k->s[j]? =T y->dS (key x) (key y))/\(∀ y,0<pos key x s k->s[pos key x s k-1]? =T y-> ¬dS (key x) (key y)):=by intro k;induction k with|zero=>intro _;exact⟨λj y g f=>o?,λy h=>by simp[pos]at h⟩|succ k i=>intro hk;obtain⟨y,b⟩:=gl (l:=s) (k:=k) o?;rw[pos,b];simp only;split;rename_i c;obtain⟨g,f⟩:=i o?;refine⟨λj z d m a=>?_,f⟩;by_cases e:j=k;subst e;rw[b]at a;cases a;exact c;exact g j z d o? a;rename_i c;refine⟨λj z d m=>o?,λz _ a=>?_⟩;rw[Q.add_sub_cancel,b]at a;cases a;exact c
theorem GX(s:V α)(x:α):(fu key s x).Perm (s++[x]):=by unfold fu;refine(V.perm_middle).trans ?_;rw[H!];exact(V.perm_append_singleton x s).symm
theorem cL: ∀(r s:V α),(k8 key s r).Perm (s++r):=by intro r;induction r with|nil=>intro s;simp[k8]|cons x r a=>intro s;have:=a (fu key s x);simp only[k8,V.foldl_cons]at this |-;refine this.trans ?_;have b:=(GX key s x).append_right r;simpa using b
theorem B4{a b c:α}(h1:NM key a b)(h2:NM key b c):NM key a c:=by unfold NM dS at*;omega
theorem TX{s:V α}(x:α)(h:s.Pairwise (NM key)):(fu key s x).Pairwise (NM key):=by
 obtain⟨r,q⟩:=pos_spec key x s s.length (ke _);have hp:=Mk key x s s.length;unfold fu;generalize pos key x s s.length=p at*;have n: ∀a∈s.take p,NM key a x:=by intro a f;by_cases i:0<p;(obtain⟨y,g⟩:=gl (l:=s) (k:=p-1) o?;have d:=q y i g;obtain⟨j,c⟩:=kS f;have m:j<p:=by have:=(qK c).1;simp at this;omega);rw[V.getElem?_take_of_lt m]at c;by_cases e:j=p-1;subst e;rw[g]at c;cases c;exact d;have:=V.pairwise_iff_getElem.1 h j (p-1) o? o? o?;rw[yc o?]at c g;cases c;cases g;exact B4 key this d;have:p=0:=o?;subst this;simp at f
 have o: ∀b∈s.drop p,NM key x b:=by intro b hb;obtain⟨j,c⟩:=kS hb;rw[V.getElem?_drop]at c;have:=r (p+j) b o? (qK c).1 c;unfold NM;unfold dS at*;omega
 rw[n!];refine⟨h.sublist (V.take_sublist _ _),C?.2 ⟨o,h.sublist (V.drop_sublist _ _)⟩,λa f b hb=>?_⟩;rcases K?.1 hb with rfl|hb;exact n a f;exact B4 key (n a f) (o b hb)
theorem HZ: ∀(r s:V α),s.Pairwise (NM key)->(k8 key s r).Pairwise (NM key):=by intro r;induction r with|nil=>intro s h;exact h|cons x r a=>intro s h;exact a _ (TX key x h)
theorem ins1_end(s:V α)(x:α)(h: ∀y∈s,¬ dS (key x) (key y)):fu key s x=s++[x]:=by
 have:pos key x s s.length=s.length:=by cases hs:s.length with|zero=>simp[pos]|succ k=>obtain⟨y,a⟩:=gl (l:=s) (k:=k) o?;rw[pos,a];simp only;rw[R (h y (zj a))]
 unfold fu;rw[this];simp
theorem GY: ∀(r s:V α),(s++r).Pairwise (NM key)->k8 key s r=s++r:=by intro r;induction r with|nil=>intro s _;simp[k8]|cons x r a=>intro s h;have c: ∀y∈s,¬ dS (key x) (key y):=λy b=>(n!.1 h).2.2 y b x z?;show k8 key (fu key s x) r=_;rw[ins1_end key s x c,a (s++[x]) (by simpa using h)];simp
end
def vA(s:F):qg:=⟨if s.head<s.anchor then s.head else s.anchor,if s.head>s.anchor then s.head else s.anchor⟩
theorem Vq(s:F):gM s=T (vA s):=rfl
theorem sK(s:F):(vA s).qG<=(vA s).to:=by unfold vA;simp only;split<;>split<;>omega
theorem merge_L2(l s:J F)(i:Q)(x:F)(d:l.l[i]? =T x): ∀k,k<=s.l.length->k<2^60->mn (l,s,(i:Z),(k:Z))=T ((pos vA x s.l k:Q):Z):=by intro k;induction k with|zero=>intro _ _;rw[mn.eq_1,R z?];rfl|succ k b=>intro hk hb;obtain⟨y,a⟩:=gl (l:=s.l) (k:=k) o?;rw[mn.eq_1,U (by simp<;>omega),E d,show q?.wrap (((k+1:Q):Z)-1)=(k:Z)from by rw[qy o? o?];omega,E a,pos,a];simp only[zl,D,Vq,NR];by_cases c:dS (vA x) (vA y);rw[U (by simpa using c),U c];exact b o? o?;rw[R (by simpa using c),R c]
theorem sort6_L2(l s:J qf)(i:Q)(x:qf)(d:l.l[i]? =T x): ∀k,k<=s.l.length->k<2^60->pU (l,s,(i:Z),(k:Z))=T ((pos (·.span) x s.l k:Q):Z):=by intro k;induction k with|zero=>intro _ _;rw[pU.eq_1,R z?];rfl|succ k b=>intro hk hb;obtain⟨y,a⟩:=gl (l:=s.l) (k:=k) o?;rw[pU.eq_1,U (by simp<;>omega),E d,show q?.wrap (((k+1:Q):Z)-1)=(k:Z)from by rw[qy o? o?];omega,E a,pos,a];simp only[zl,D,NR];by_cases c:dS x.span y.span;rw[U (by simpa using c),U c];exact b o? o?;rw[R (by simpa using c),R c]
theorem sort5_L2(l s:J qg)(i:Q)(x:qg)(d:l.l[i]? =T x): ∀k,k<=s.l.length->k<2^60->pS (l,s,(i:Z),(k:Z))=T ((pos id x s.l k:Q):Z):=by intro k;induction k with|zero=>intro _ _;rw[pS.eq_1,R z?];rfl|succ k b=>intro hk hb;obtain⟨y,a⟩:=gl (l:=s.l) (k:=k) o?;rw[pS.eq_1,U (by simp<;>omega),E d,show q?.wrap (((k+1:Q):Z)-1)=(k:Z)from by rw[qy o? o?];omega,E a,pos,a];simp only[zl,D,NR];by_cases c:dS (id x) (id y);rw[U (by simpa using c),U c];exact b o? o?;rw[R (by simpa using c),R c]
theorem VC{α:Type}(s:V α)(p:Q)(h:p<=s.length):wo s (p:Z)=T (s.take p):=by obtain⟨r,b,a,_⟩:=I.wo (l:=s) (hi:=(p:Z)) o? o?;rw[b,a,X?]
theorem cutF{α:Type}(s:V α)(p:Q)(h:p<=s.length):nR s (p:Z)=T (s.drop p):=by obtain⟨r,b,a,_⟩:=I.nR (l:=s) (lo:=(p:Z)) o? o?;rw[b,a,X?]
theorem Ui{α:Type}(key:α->qg)(s:V α)(x:α):(fu key s x).length=s.length+1:=by simpa using(GX key s x).length_eq
theorem merge_L0(l:J F): ∀(r:V F)(i:Q)(s:J F),l.l.drop i=r->s.l.length+r.length<=2^20->l.l.length<=2^20->(s.nil=s.l.isEmpty)->
  mm (l,s,(i:Z))=T ⟨(k8 vA s.l r).isEmpty,k8 vA s.l r⟩:=by
 intro r;induction r with
 |nil=>
  intro i s h _ _ hn;have:=zd h;rw[mm.eq_1,R v?];show T s=T ⟨s.l.isEmpty,s.l⟩;rw[<- hn]
 |cons x r c=>
  intro i s h d hl hn;obtain⟨b,g,h3⟩:=zx h;simp only[b?]at d;have a:=Mk vA x s.l s.l.length;rw[mm.eq_1,U v?,merge_L2 l s i x b s.l.length (ke _) o?];simp only[zl,D];rw[VC _ _ a];simp only[D];rw[U (qC v? o?),E b];simp only[D];rw[U (qC v? o?),cutF _ _ a];simp only[D];rw[U (qC v? o?),ws o?];have e:s.l.take (pos vA x s.l s.l.length)++[x]++s.l.drop (pos vA x s.l s.l.length)=fu vA s.l x:=by simp[fu]
  rw[e];have:=Ui vA s.l x;exact c (i+1) ⟨K,fu vA s.l x⟩ g u? hl (by cases f:fu vA s.l x with
   |nil=>rw[f]at this;simp at this
   |cons _ _=>rfl)
theorem sort6_L0(l:J qf): ∀(r:V qf)(i:Q)(s:J qf),l.l.drop i=r->s.l.length+r.length<=2^20->l.l.length<=2^20->(s.nil=s.l.isEmpty)->
  pT (l,s,(i:Z))=T ⟨(k8 (·.span) s.l r).isEmpty,k8 (·.span) s.l r⟩:=by
 intro r;induction r with
 |nil=>
  intro i s h _ _ hn;have:=zd h;rw[pT.eq_1,R v?];show T s=T ⟨s.l.isEmpty,s.l⟩;rw[<- hn]
 |cons x r c=>
  intro i s h d hl hn;obtain⟨b,g,h3⟩:=zx h;simp only[b?]at d;have a:=Mk (·.span) x s.l s.l.length;rw[pT.eq_1,U v?,sort6_L2 l s i x b s.l.length (ke _) o?];simp only[zl,D];rw[VC _ _ a];simp only[D];rw[U (qC v? o?),E b];simp only[D];rw[U (qC v? o?),cutF _ _ a];simp only[D];rw[U (qC v? o?),ws o?];have e:s.l.take (pos (·.span) x s.l s.l.length)++[x]++s.l.drop (pos (·.span) x s.l s.l.length)=fu (·.span) s.l x:=by simp[fu]
  rw[e];have:=Ui (·.span) s.l x;exact c (i+1) ⟨K,fu (·.span) s.l x⟩ g u? hl (by cases f:fu (·.span) s.l x with
   |nil=>rw[f]at this;simp at this
   |cons _ _=>rfl)
theorem sort5_L0(l:J qg): ∀(r:V qg)(i:Q)(s:J qg),l.l.drop i=r->s.l.length+r.length<=2^20->l.l.length<=2^20->(s.nil=s.l.isEmpty)->
  pR (l,s,(i:Z))=T ⟨(k8 id s.l r).isEmpty,k8 id s.l r⟩:=by
 intro r;induction r with
 |nil=>
  intro i s h _ _ hn;have:=zd h;rw[pR.eq_1,R v?];show T s=T ⟨s.l.isEmpty,s.l⟩;rw[<- hn]
 |cons x r c=>
  intro i s h d hl hn;obtain⟨b,g,h3⟩:=zx h;simp only[b?]at d;have a:=Mk id x s.l s.l.length;rw[pR.eq_1,U v?,sort5_L2 l s i x b s.l.length (ke _) o?];simp only[zl,D];rw[VC _ _ a];simp only[D];rw[U (qC v? o?),E b];simp only[D];rw[U (qC v? o?),cutF _ _ a];simp only[D];rw[U (qC v? o?),ws o?];have e:s.l.take (pos id x s.l s.l.length)++[x]++s.l.drop (pos id x s.l s.l.length)=fu id s.l x:=by simp[fu]
  rw[e];have:=Ui id s.l x;exact c (i+1) ⟨K,fu id s.l x⟩ g u? hl (by cases f:fu id s.l x with
   |nil=>rw[f]at this;simp at this
   |cons _ _=>rfl)
theorem Sf(l:J qf)(hl:l.l.length<=2^20):i4 l=T ⟨(k8 (·.span) [] l.l).isEmpty,k8 (·.span) [] l.l⟩:=by unfold i4;rw[show (0:Z)=((0:Q):Z)from rfl,sort6_L0 l l.l 0 ⟨N,[]⟩ rfl (by simpa using hl) hl rfl];rfl
theorem Se(l:J qg)(hl:l.l.length<=2^20):eY l=T ⟨(k8 id [] l.l).isEmpty,k8 id [] l.l⟩:=by unfold eY;rw[show (0:Z)=((0:Q):Z)from rfl,sort5_L0 l l.l 0 ⟨N,[]⟩ rfl (by simpa using hl) hl rfl];rfl
end Xr
namespace Xr
def QU(a b:qg):Prop:=(if b.qG>a.qG then b.qG else a.qG)<=(if b.to<a.to then b.to else a.to)
instance(a b:qg):Decidable (QU a b):=by unfold QU;infer_instance
def join(y x:F):F:=if y.head<y.anchor then⟨if (vA x).to>(vA y).to then(vA x).to else(vA y).to,(vA y).qG⟩else⟨(vA y).qG,if(vA x).to>(vA y).to then(vA x).to else(vA y).to⟩
theorem join_sp(y x:F):vA (join y x)=⟨(vA y).qG,if(vA x).to>(vA y).to then(vA x).to else(vA y).to⟩:=by
 have hy:=sK y;have hx:=sK x;generalize a:vA y=Y at*;generalize b:vA x=X at*;unfold join;rw[a,b];have hM:Y.qG<=(if X.to>Y.to then X.to else Y.to):=by split<;>omega
 generalize (if X.to>Y.to then X.to else Y.to)=M at*;unfold vA;by_cases c:y.head<y.anchor;rw[U c];simp only[qg.mk.injEq];constructor;split<;>omega;split<;>omega;rw[R c];simp only[qg.mk.injEq];constructor;split<;>omega;split<;>omega
def lL(out:V F)(x:F):V F:=
 match out.getLast? with
 |some y=>if QU (vA y) (vA x)then out.set (out.length-1) (join y x)else out++[x]
 |none=>out++[x]
def NX(out r:V F):V F:=r.foldl lL out
theorem Ux(out:V F)(x:F):(lL out x).length<=out.length+1/\1<=(lL out x).length:=by unfold lL;split;(rename_i y a;have:out≠[]:=λc=>by rw[c]at a;simp at a);have:=I?.2 this;split<;>simp<;>omega;simp
theorem merge_L4(s:J F)(hs:s.l.length<=2^20): ∀(r:V F)(i:Q)(out:V F),s.l.drop i=r->out.length<=i->yK (s,(i:Z),out)=T (NX out r):=by intro r;induction r with|nil=>intro i out h _;have:=zd h;rw[yK.eq_1,R v?];rfl|cons x r g=>intro i out h ho;obtain⟨f,j,h3⟩:=zx h;rw[yK.eq_1,U v?];have step:=g (i+1) (lL out x) j (by have:=Ux out x;omega);show _=T (NX (lL out x) r);rw[ws o?,<- step];by_cases c:0<out.length;(obtain⟨y,b⟩:=gl (l:=out) (k:=out.length-1) o?;have hl:out.getLast? =T y:=by rw[V.getLast?_eq_getElem?];exact b);rw[U v?,show q?.wrap ((out.length:Z)-1)=((out.length-1:Q):Z)from by rw[qy o? o?];omega,E b,E f];simp only[zl,D,Vq,fP,X?];unfold lL;rw[hl];simp only;by_cases t:QU (vA y) (vA x);have a :=t;unfold QU at a;rw[U (by simpa using a),U t];unfold Yg join;by_cases d:y.head<y.anchor<;>simp[d];have a :=t;unfold QU at a;rw[R (by simpa using a),R t,U qC];have e:out=[]:=q_ o?;subst e;rw[R z?,E f];simp only[zl,D];rw[U (qC z? o?)];rfl
def rf(l:V F):V F:=NX [] (k8 vA [] l)
theorem Rh(l:J F)(hl:l.l.length<=2^19):fQ l=T ⟨(rf l.l).isEmpty,rf l.l⟩:=by have a:=(cL vA l.l []).length_eq;unfold fQ;rw[show (0:Z)=((0:Q):Z)from rfl,merge_L0 l l.l 0 ⟨N,[]⟩ rfl v? o? rfl];simp only[zl,D];rw[merge_L4 _ (by simp only[M?]at a |-; omega) (k8 vA [] l.l) 0 [] rfl z?];rfl
def Hs(l:V F):Prop:=l.Pairwise λa b=>(vA a).to<(vA b).qG
def Jb(n:Z)(l:V F):Prop:= ∀x∈l,0<=(vA x).qG/\(vA x).to<=n
theorem NY(n:Z): ∀(r out:V F),Hs out->Jb n out->r.Pairwise (NM vA)->(∀ y∈out,∀ x∈r,(vA y).qG<=(vA x).qG)->Jb n r->Hs (NX out r)/\Jb n (NX out r):=by intro r;induction r with|nil=>intro out k j _ _ _;exact⟨k,j⟩|cons x r H=>(intro out k j W o s;obtain⟨P,M⟩:=C?.1 W;have f:=s x z?;have L:Jb n r:=λz hz=>s z (by simp[hz]);have d: ∀z∈r,(vA x).qG<=(vA z).qG:=λz hz=>by have:=P z hz;unfold NM dS at this;omega);(have hxx:=sK x;show Hs (NX (lL out x) r)/\_;have key:Hs (lL out x)/\Jb n (lL out x)/\ ∀y∈lL out x,∀ z∈r,(vA y).qG<=(vA z).qG:=by unfold lL;cases hl:out.getLast? with|none=>have:out=[]:=V.getLast?_eq_none_iff.1 hl;subst this;refine⟨by simp[Hs],λz hz=>?_,λy p z hz=>?_⟩;simp only[M?,d?]at hz;subst hz;exact f;simp only[M?,d?]at p;subst p;exact d z hz|some y=>(obtain⟨init,rfl⟩: ∃init,out=init++[y]:=by (have v:out≠[]:=λc=>by rw[c]at hl;simp at hl);rcases List.eq_nil_or_concat out with h|⟨i0,y0,h⟩;exact absurd h v;refine⟨i0, ?_⟩;rw[h]at hl |-;simp at hl;subst hl;simp);have hy1:(vA y).qG<=(vA x).qG:=o y z? x z?;have hyn:=j y z?;have hyy:=sK y;obtain⟨X,_,a3⟩:=n!.1 k;simp only;by_cases t:QU (vA y) (vA x);(rw[U t];have e:(init++[y]).set ((init++[y]).length-1) (join y x)=init++[join y x]:=z?;rw[e];have q:=join_sp y x;have m:(vA (join y x)).qG=(vA y).qG:=by rw[q]);(have hjt:(vA (join y x)).to<=n:=by rw[q];simp only;split<;>omega);refine⟨n!.2 ⟨X,z?,λa ha b i=>?_⟩,λz hz=>?_,λz hz w g=>?_⟩;simp only[d?]at i;subst i;rw[m];exact a3 a ha y z?;rcases t?.1 hz with hz|hz;exact j z (by simp[hz]);simp only[d?]at hz;subst hz;omega;rcases t?.1 hz with hz|hz;exact o z (by simp[hz]) w (by simp[g]);simp only[d?]at hz;subst hz;have:=d w g;omega;(rw[R t];have l:(vA y).to<(vA x).qG:=by unfold QU at t;split at t<;>split at t<;>omega);refine⟨n!.2 ⟨k,z?,λa ha b i=>?_⟩,λz hz=>?_,λz hz w g=>?_⟩;simp only[d?]at i;subst i;rcases t?.1 ha with ha|ha;have:=a3 a ha y z?;omega;simp only[d?]at ha;subst ha;exact l;rcases t?.1 hz with hz|hz;exact j z hz;simp only[d?]at hz;subst hz;exact f;rcases t?.1 hz with hz|hz;exact o z hz w (by simp[g]);simp only[d?]at hz;subst hz;exact d w g);exact H (lL out x) key.1 key.2.1 M key.2.2 L
theorem NZ: ∀(r out:V F),(NX out r).length<=out.length+r.length/\((out≠[]\/r≠[])->NX out r≠[]):=by intro r;induction r with|nil=>intro out;exact⟨by simp[NX],λh=>by simpa[NX]using h⟩|cons x r b=>intro out;have a:=Ux out x;obtain⟨h2,d⟩:=b (lL out x);refine⟨?_,λ_=>d (.inl λc=>by rw[c]at a;simp at a)⟩;show(NX (lL out x) r).length<=_;simp only[b?];omega
theorem JM(n:Z)(l:V F)(h:Jb n l):Hs (rf l)/\Jb n (rf l):=by have c:=cL vA l [];refine NY n _ [] (by simp[Hs]) (λx a=>by simp at a) (HZ vA l [] z?) (λy b=>by simp at b) λx a=>?_;exact h x (by simpa using c.mem_iff.1 a)
theorem Uv(l:V F):(rf l).length<=l.length/\(l≠[]->rf l≠[]):=by have a:=(cL vA l []).length_eq;simp only[M?]at a;obtain⟨d,b⟩:=NZ (k8 vA [] l) [];refine⟨by unfold rf;simp only[A]at d;omega,λh=>b (.inr λc=>?_)⟩;rw[c]at a;exact h (q_ (by simpa using a.symm))
theorem mrg_id: ∀(r out:V F),Hs (out++r)->NX out r=out++r:=by intro r;induction r with|nil=>intro out _;simp[NX]|cons x r a=>(intro out h;have e:lL out x=out++[x]:=by unfold lL;cases hl:out.getLast? with|none=>rfl|some y=>have b:y∈out:=V.mem_of_getLast? hl;have h1:=(n!.1 h).2.2 y b x z?;have:=sK y;have:=sK x;simp only;rw[R];unfold QU;split<;>split<;>omega);show NX (lL out x) r=_;rw[e,a (out++[x]) (by simpa using h)];simp
theorem Bc(l:V F)(h:Hs l):rf l=l:=by
 have c:l.Pairwise (NM vA):=h.imp λ{a b} fZ=>by have:=sK a;have:=sK b;unfold NM dS;omega
 unfold rf;rw[GY vA l [] (by simpa using c)];simp only[M?];rw[mrg_id l [] (by simpa using h)];simp
theorem M1{α:Type}{l:V α}(h:l≠[]):l.isEmpty=K:=by cases l with|nil=>exact absurd rfl h|cons _ _=>rfl
theorem norm_L0(n:Z)(l:J F)(hl:l.l.length<2^60): ∀(r:V F)(i:Q),l.l.drop i=r-> ∃v,pW (n,l,(i:Z))=T v/\((v= .inl (⟨N,[]⟩,3)/\ ¬Jb n r)\/(v= .inr ()/\Jb n r)):=by intro r;induction r with|nil=>intro i h;have:=zd h;rw[pW.eq_1,R v?];exact⟨_,rfl,.inr ⟨rfl,λx a=>by simp at a⟩⟩|cons x r b=>(intro i h;obtain⟨f,e,h3⟩:=zx h;have a:=sK x;rw[pW.eq_1,U v?,E f,ws o?];simp only[zl,D,Vq];have d:cd (vA x) n=T (decide (0<=(vA x).qG/\(vA x).to<=n)):=by unfold cd;by_cases c:0<=(vA x).qG;simp[c,a];simp[c]);rw[d];simp only[D];by_cases c:0<=(vA x).qG/\(vA x).to<=n;rw[R (by simpa using c)];obtain⟨v,g1,g2⟩:=b (i+1) e;refine⟨v,g1, ?_⟩;rcases g2 with ⟨g2,g3⟩|⟨g2,g3⟩;exact .inl ⟨g2,λk=>g3 λz hz=>k z (by simp[hz])⟩;refine .inr ⟨g2,λz hz=>?_⟩;rcases K?.1 hz with rfl|hz;exact c;exact g3 z hz;rw[U (by simp only[C.not_eq_true',decide_eq_false_iff_not];exact c)];exact⟨_,rfl,.inl ⟨rfl,λk=>c (k x z?)⟩⟩
theorem E8(n:Z)(l:J F)(hl:l.l.length<2^60): ∃(q:J F)(c:Z),mU n l=T (q,c)/\((c=0/\l.l≠[]/\l.l.length<=64/\Jb n l.l/\q=⟨(rf l.l).isEmpty,rf l.l⟩)\/(c≠0/\q=⟨N,[]⟩/\ ¬(l.l≠[]/\l.l.length<=64/\Jb n l.l))):=by unfold mU;by_cases a:l.l=[];rw[U (by simp[a])];exact⟨_,_,rfl,.inr ⟨by decide,rfl,λk=>k.1 a⟩⟩;have hp:=I?.2 a;rw[R v?];by_cases b:l.l.length<=64;rw[R v?];obtain⟨v,g1,g2⟩:=norm_L0 n l hl l.l 0 rfl;rw[show ((0:Q):Z)=0 from rfl]at g1;rw[g1];rcases g2 with ⟨rfl,g2⟩|⟨rfl,g2⟩;exact⟨_,_,rfl,.inr ⟨by decide,rfl,λk=>g2 k.2.2⟩⟩;simp only[zl,D,Rh l o?];exact⟨_,_,rfl,.inl ⟨rfl,a,b,g2,rfl⟩⟩;rw[U v?];exact⟨_,_,rfl,.inr ⟨by decide,rfl,λk=>b k.2.1⟩⟩
end Xr
namespace Xr
structure Af (P:qu->Prop) (b:B) (q:J F) (ss:V qb) (fl:J (J (J Z))):Prop where
 blen:b.length<=2^39
 ne:q.l≠[]
 qn:q.nil=K
 Kb:q.l.length<=64
 Gr:Hs q.l
 Zj:Jb b.length q.l
 dJ:ss.length<=16
 small: ∀s∈ss,jY s
 may: ∀s∈ss,eE s.insts.l b.length
 U0:fl.l.length=ss.length
 fnn:ss≠[]->fl.nil=K
 each: ∀(i:Q) s f,ss[i]? =T s->fl.l[i]? =T f->e9 s.insts.l f
 stop: ∀s∈ss,∀ i∈s.insts.l,∀ x∈i.stops.l,P x
def Cored(P:qu->Prop):Prop:= ∀x y,core x=core y->P y->P x
def OwnE(e:qf)(s:qb)(a k:Z):Prop:=(a= -1/\k= -1)\/ ∃(c b :Q)(i:qr)(x:qu),a=c /\k=b /\s.insts.l[c]? =T i/\i.stops.l[b]? =T x/\xK e.span x.span
theorem Vt(a:qg):xK a a:=⟨y! _,y! _⟩
theorem Zz{a b c:qg}(h1:xK a b)(h2:xK b c):xK a c:=by unfold xK at *; omega
section
variable {e:qf} (mark:C) (w:B) (w2:J F) (ss:V qb) (fl:J (J (J Z)))
theorem lay_L0(top inst stop:Z)(hs:ss.length<=16): ∀(d i:Q)(is ks:V Z),i+d=ss.length->is.length=ss.length->ks.length=ss.length->(∀ j,j<i->is[j]? =T (-1)/\ks[j]? =T (-1))->
  ∃f g,wU (top,inst,stop,mark,(i:Z),w,w2,ss,fl,e,is,ks)=T (f,g)/\f.length=ss.length/\g.length=ss.length/\ ∀j,j<ss.length->f[j]? =T (-1)/\g[j]? =T (-1):=by intro d;induction d with|zero=>intro i is ks h b a H;rw[wU.eq_1,R v?];exact⟨is,ks,rfl,b,a,λj p=>H j o?⟩|succ d m=>intro i is ks h b a H;obtain⟨x,o⟩:=gl (l:=is) (k:=i) o?;obtain⟨y,n⟩:=gl (l:=ks) (k:=i) o?;rw[wU.eq_1,U v?,E o,E n,ws o?];simp only[zl,D,X?];refine m (i+1) _ _ o? (by simp[b]) (by simp[a]) λj p=>?_;rw[jo,jo];by_cases c:i=j;subst c;rw[U ⟨rfl,o?⟩,U ⟨rfl,o?⟩];exact⟨rfl,rfl⟩;rw[R o?,R o?];exact H j o?
def Z3(e:qf)(ss:V qb)(is ks:V Z):Prop:=is.length=ss.length/\ks.length=ss.length/\ ∀(j:Q) s,ss[j]? =T s-> ∃a k,is[j]? =T a/\ks[j]? =T k/\OwnE e s a k
theorem lay_L2(top:Z)(JI: ∀s∈ss,jY s)(D5: ∀s∈ss,∃ n,eE s.insts.l n): ∀(k:Q)(is ks:V Z)(qp:qg),k<=ss.length->k<2^60->xK e.span qp->Z3 e ss is ks->
  ∃d f b,kG (top,mark,(k:Z)-1,w,w2,ss,fl,e,is,ks,qp)=T (d,f,b)/\Z3 e ss d f/\ ∀j,k<=j->d[j]? =is[j]? :=by intro k;induction k with|zero=>intro is ks qp _ _ _ H;rw[kG.eq_1,R z?];exact⟨is,ks,qp,rfl,H,λj _=>rfl⟩|succ k P=>(intro is ks qp hk hb X H;obtain⟨s,hs⟩:=gl (l:=ss) (k:=k) o?;have Y:=zj hs;obtain⟨h1,h2,h3⟩:=H;obtain⟨x,hx⟩:=gl (l:=is) (k:=k) o?;obtain⟨y,hy⟩:=gl (l:=ks) (k:=k) o?;obtain⟨v,hv,hq⟩:=WI s qp (JI s Y);rw[show ((k+1:Q):Z)-1=(k:Z) by omega,kG.eq_1,U z?,E hs];simp only[zl,D];rw[hv];simp only[D];rw[E hx,E hy,show q?.wrap ((k:Z)-1)=(k:Z)-1 from qy o? o?];simp only[D,X?];have g: ∀a c:Z,OwnE e s a c->Z3 e ss (is.set k a) (ks.set k c):=by intro a c r;refine⟨by simp[h1],by simp[h2],λj s' M=>?_⟩;rw[jo,jo];by_cases cc:k=j;subst cc;rw[hs]at M;cases M;rw[U ⟨rfl,o?⟩,U ⟨rfl,o?⟩];exact⟨a,c,rfl,rfl,r⟩;rw[R o?,R o?];exact h3 j s' M);(have dP: ∀(L:V Z)(a:Z)(j:Q),k+1<=j->(L.set k a)[j]? =L[j]? :=by intro L a j h;rw[jo,R o?]);rcases hq with rfl|⟨t,q,i,z,g1,g2,g3,g4,_,_,g5⟩;rw[R z?];obtain⟨d,f,b,p,o,m⟩:=P (is.set k (-1)) (ks.set k (-1)) qp o? o? X (g _ _ (.inl ⟨rfl,rfl⟩));exact⟨d,f,b,p,o,λj h=>by rw[m j o?,dP _ _ j h]⟩;obtain⟨va,vk⟩:=v;simp only at g1 g2 |-;subst g1 g2;rw[U z?,E g3];simp only[D];obtain⟨n,hn⟩:=D5 s Y;have e8:=(hn.may t i g3).inside q z g4;have W:xK e.span z.span:=Zz X g5;obtain⟨d,f,b,p,o,m⟩:=P (is.set k (t :Z)) (ks.set k (q :Z)) i.span o? o? (Zz W ⟨e8.1,e8.2⟩) (g _ _ (.inr ⟨t,q,i,z,rfl,rfl,g3,g4,W⟩));exact⟨d,f,b,p,o,λj h=>by rw[m j o?,dP _ _ j h]⟩
structure Laid (e:qf) (n:Z) (oL:V qb) (is:V Z) (i:Q) (ss:V qb) (fl:J (J (J Z))):Prop where
 len:ss.length=oL.length
 U0:fl.l.length=oL.length
 fnn:oL≠[]->fl.nil=K
 done: ∀(j:Q) s,j<i->oL[j]? =T s-> ∃s' f a,ss[j]? =T s' /\fl.l[j]? =T f/\is[j]? =T a/\N4 e n s a s' f
 todo: ∀(j:Q) s,i<=j->oL[j]? =T s->ss[j]? =T s/\ ∃f,fl.l[j]? =T f/\e9 s.insts.l f
theorem R7(n:Z)(P:uX e n)(b:V qb)(W: ∀s∈b,jY s)(X: ∀s∈b,eE s.insts.l n)(is ks:V Z)(L:Z3 e b is ks)(i:Q)(hi:i<b.length)(fl:J (J (J Z)))(ss:V qb)(H:Laid e n b is i ss fl):
  ∃s a k f,ss[i]? =T s/\is[i]? =T a/\ks[i]? =T k/\fl.l[i]? =T f/\fl.nil=K/\ ∀deep mark,∃ h g,gy s a k e deep mark f=T (h,f,g)/\Laid e n b is (i+1) (ss.set i h) ⟨K,fl.l.set i ⟨g.nil,g.l⟩⟩:=by
 obtain⟨s,hs⟩:=gl (l:=b) (k:=i) hi;have t:=zj hs;obtain⟨t1,f,t2,t3⟩:=H.todo i s (ke _) hs;obtain⟨a,k,r,x,o3⟩:=L.2.2 i s hs;have y:b≠[]:=λc=>by rw[c]at hi;simp at hi
 refine⟨s,a,k,f,t1,r,x,t2,H.fnn y,λdeep mark=>?_⟩;obtain⟨h,g,g1,g2⟩:=shift_ok e n P mark s (W s t) (X s t) deep e.span (Vt _) a k (by
  rcases o3 with o3|o3
  ·exact .inl o3
  exact .inr (.inr o3)) f t3
 refine⟨h,g,g1,⟨by simp[H.len],by simp[H.U0],λ_=>rfl, ?_, ?_⟩⟩;intro j m M d;by_cases c:i=j;subst c;rw[hs]at d;cases d;refine⟨h,g,a, ?_, ?_,r,g2⟩;rw[jo,U ⟨rfl,by rw[H.len];exact hi⟩];rw[jo,U ⟨rfl,by rw[H.U0];exact hi⟩];obtain⟨v,f2,a2,q,p,o,z⟩:=H.done j m o? d;refine⟨v,f2,a2, ?_, ?_,o,z⟩;rw[jo,R o?];exact q;rw[jo,R o?];exact p;intro j m M d;obtain⟨q,f2,p,o⟩:=H.todo j m o? d;refine⟨?_,f2, ?_,o⟩;rw[jo,R o?];exact q;rw[jo,R o?];exact p
theorem lay_L4(n:Z)(r:uX e n)(b:V qb)(hs16:b.length<=16)(t: ∀s∈b,jY s)(v: ∀s∈b,eE s.insts.l n)(is ks:V Z)(q:Z3 e b is ks)(top:Z)(qp:qg): ∀(d i:Q)(fl:J (J (J Z)))(ss:V qb),i+d=b.length->Laid e n b is i ss fl->
  ∃c Nq,kH (top,mark,(i:Z),w,w2,ss,fl,e,is,ks,qp)=T (c,Nq)/\Laid e n b is b.length c Nq:=by intro d;induction d with|zero=>intro i fl ss h H;have:=H.len;obtain rfl:i=b.length:=o?;rw[kH.eq_1,R v?];exact⟨ss,fl,rfl,H⟩|succ d o=>intro i fl ss h H;have hl:=H.len;obtain⟨s,a,k,f,g1,g2,g3,g4,g5,g6⟩:=R7 n r b t v is ks q i o? fl ss H;rw[kH.eq_1,U v?,g5,R z?,E g4];simp only[zl,D];rw[E g1,E g2,E g3,ws o?];simp only[D,X?];cases mark with|true=>obtain⟨p,g,m,j⟩:=g6 N N;rw[U rfl,m];exact o (i+1) _ _ o? j|false=>obtain⟨p,g,m,j⟩:=g6 ((i:Z) != top) K;rw[R z?,m];exact o (i+1) _ _ o? j
theorem lay_L42(n:Z)(r:uX e n)(b:V qb)(hs16:b.length<=16)(t: ∀s∈b,jY s)(v: ∀s∈b,eE s.insts.l n)(is ks:V Z)(q:Z3 e b is ks)(top:Z): ∀(d i:Q)(fl:J (J (J Z)))(ss:V qb),i+d=b.length->Laid e n b is i ss fl->
  ∃c Nq,jS (top,mark,(i:Z),w,w2,ss,fl,e,is,ks)=T (c,Nq)/\Laid e n b is b.length c Nq:=by intro d;induction d with|zero=>intro i fl ss h H;have:=H.len;obtain rfl:i=b.length:=o?;rw[jS.eq_1,R v?];exact⟨ss,fl,rfl,H⟩|succ d o=>intro i fl ss h H;have hl:=H.len;obtain⟨s,a,k,f,g1,g2,g3,g4,g5,g6⟩:=R7 n r b t v is ks q i o? fl ss H;rw[jS.eq_1,U v?,g5,R z?,E g4];simp only[zl,D];rw[E g1,E g2,E g3,ws o?];simp only[D,X?];cases mark with|true=>obtain⟨p,g,m,j⟩:=g6 N N;rw[U rfl,m];exact o (i+1) _ _ o? j|false=>obtain⟨p,g,m,j⟩:=g6 ((i:Z) != top) K;rw[R z?,m];exact o (i+1) _ _ o? j
end
def sT(e:qf)(s:F):F:=⟨mv e.span.qG e.span.to e.text.length N s.anchor,mv e.span.qG e.span.to e.text.length N s.head⟩
theorem move6(e:qf)(n:Z)(a:uX e n)(p:Z)(c:0<=p)(b:p<=n):eZ p N ⟨K,[e]⟩=T (mv e.span.qG e.span.to e.text.length N p):=by unfold eZ;rw[Sf _ z?,GY _ [e] [] z?];simp only[M?,zl,D];rw[show q?.wrap ((([e]:V qf).length:Z)-1)=((0:Q):Z) by(rw [show (([e]:V qf).length:Z)=1 from rfl];decide),sc.eq_1,U z?,E (l:=[e]) (k:=0) rfl];simp only[zl,D,DI e n a p c b];rw[show q?.wrap (((0:Q):Z)-1)= -1 by decide,sc.eq_1,R z?];rfl
theorem M0(e:qf)(n:Z)(a:uX e n)(p:Z)(h0:0<=p)(h1:p<=n):0<=mv e.span.qG e.span.to e.text.length N p/\mv e.span.qG e.span.to e.text.length N p<=n+(e.text.length-(e.span.to-e.span.qG)):=by have:=a.a0;have:=a.ab;have:=a.bn;unfold mv;split;omega;split;omega;simp only[if_true];omega
theorem QQ(s:F):(vA s).qG<=s.anchor/\(vA s).qG<=s.head/\s.anchor<=(vA s).to/\s.head<=(vA s).to:=by unfold vA;simp only;refine⟨?_, ?_, ?_, ?_⟩<;>split<;>omega
theorem move8_L0(e:qf)(n:Z)(a:uX e n)(q:J F)(hq:q.l.length<=2^19)(hn:Jb n q.l): ∀(r:V F)(i:Q)(out:V F),q.l.drop i=r->out.length=i->pV (q,⟨K,[e]⟩,(i:Z),out)=T (out++r.map (sT e)):=by intro r;induction r with|nil=>intro i out h _;have:=zd h;rw[pV.eq_1,R v?];simp|cons x r c=>intro i out h ho;obtain⟨b,d,h3⟩:=zx h;have hx:=hn x (zj b);have hs:=QQ x;rw[pV.eq_1,U v?,E b,ws o?];simp only[zl,D];rw[move6 e n a x.anchor o? o?,move6 e n a x.head o? o?];simp only[D];rw[U qC];have:=c (i+1) (out++[sT e x]) d v?;rw[show F.mk (mv e.span.qG e.span.to e.text.length N x.anchor) (mv e.span.qG e.span.to e.text.length N x.head)=sT e x from rfl,this];simp
theorem Rk(e:qf)(n:Z)(a:uX e n)(q:J F)(b:q.l.length<=2^19)(hn:Jb n q.l):i5 q [e]=T ⟨(rf (q.l.map (sT e))).isEmpty,rf (q.l.map (sT e))⟩/\Jb (n+(e.text.length-(e.span.to-e.span.qG))) (q.l.map (sT e)):=by constructor;unfold i5;rw[show (0:Z)=((0:Q):Z)from rfl,move8_L0 e n a q b hn q.l 0 [] rfl rfl];simp only[zl,D,M?];rw[Rh _ (by simpa using b)];rfl;intro y c;obtain⟨x,d,rfl⟩:=B?.1 c;have h1:=hn x d;have h2:=QQ x;have h3:=M0 e n a x.anchor o? o?;have h4:=M0 e n a x.head o? o?;unfold vA sT;simp only;constructor;split<;>omega;split<;>omega
end Xr
namespace Xr
def newText(b:B)(e:qf):B:=b.take e.span.qG.toNat++e.text++b.drop e.span.to.toNat
theorem Xp(b:B)(e:qf)(a:uX e b.length):((newText b e).length:Z)=b.length+(e.text.length-(e.span.to-e.span.qG)):=by have:=a.a0;have:=a.ab;have:=a.bn;unfold newText;simp only[p?,V.length_take,V.length_drop];omega
structure LaidOK (P:qu->Prop) (b:B) (e:qf) (ss:V qb) (top inst:Z) (v:B×J F×V qb×J (J (J Z))):Prop where
 text:v.1=newText b e
 ok:Af P v.1 v.2.1 v.2.2.1 v.2.2.2
 len:v.2.2.1.length=ss.length
 cur: ∀(j:Q) s,ss[j]? =T s-> ∃s',v.2.2.1[j]? =T s' /\s'.cur=s.cur
 top: ∀(t:Q) s,top=t->inst≠ -1->ss[t]? =T s-> ∃s',v.2.2.1[t]? =T s' /\s'.insts.l.length=s.insts.l.length
section
variable {P:qu->Prop} (hP:Cored P) {b:B} {q:J F} {ss:V qb} {fl:J (J (J Z))}
include hP in
theorem E0(W:Af P b q ss fl){e:qf}(M:uX e b.length)(hB:b.length+e.text.length<=2^39)(is ks:V Z)(ho:Z3 e ss is ks)(top inst:Z)(w: ∀(t:Q),top=t->inst≠ -1-> ∀a,is[t]? =T a->a≠ -1)
  {p :V qb} {Y:J (J (J Z))} (H:Laid e b.length ss is ss.length p Y):
  LaidOK P b e ss top inst (newText b e,⟨(rf (q.l.map (sT e))).isEmpty,rf (q.l.map (sT e))⟩,p,Y):=by
 have hl:=Xp b e M;have hn:=(Rk e b.length M q (by have:=W.Kb;omega) W.Zj).2;rw[<- hl]at hn;have y:=JM _ _ hn;have X:=Uv (q.l.map (sT e));have fZ:=M.ab;have z: ∀(j:Q) d,p[j]? =T d -> ∃s f a,ss[j]? =T s/\Y.l[j]? =T f/\is[j]? =T a/\N4 e b.length s a d f:=by intro j d m;have v:=(qK m).1;obtain⟨s,hs⟩:=gl (l:=ss) (k:=j) (by have:=H.len;omega);obtain⟨s2,f,a,h,n,o,g⟩:=H.done j s (by have:=H.len;omega) hs;rw[m]at h;cases h;exact⟨s,f,a,hs,n,o,g⟩
 refine⟨rfl, ?_,H.len, ?_, ?_⟩;refine⟨u?,X.2 (by simpa using W.ne),M1 (X.2 (by simpa using W.ne)),by have:=W.Kb;have:=X.1;simp only[V.length_map]at this;simp only;omega,y.1,y.2,by rw[H.len];exact W.dJ, ?_, ?_,by rw[H.U0,H.len], ?_, ?_, ?_⟩;intro d m;obtain⟨j,v⟩:=kS m;obtain⟨s,f,a,h,n,o,g⟩:=z j d v;have JI:=W.small s (zj h);refine⟨by have:=g.len;have:=JI.1;omega,λi hi=>?_⟩;obtain⟨i0,r,h1,_⟩:=g.core i hi;have:=JI.2 i0 r;omega;intro d m;obtain⟨j,v⟩:=kS m;obtain⟨s,f,a,h,n,o,g⟩:=z j d v;rw[hl];exact g.may;intro kN;refine H.fnn λc=>?_;have:=H.len;rw[c]at this;exact kN (q_ (by simpa using this));intro j d f m hf;obtain⟨s,f2,a,h,n,o,g⟩:=z j d m;rw[hf]at n;cases n;exact g.fl;intro d m i hi x hx;obtain⟨j,v⟩:=kS m;obtain⟨s,f,a,h,n,o,g⟩:=z j d v;obtain⟨i0,r,_,h2⟩:=g.core i hi;obtain⟨x0,L,h3⟩:=h2 x hx;exact hP x x0 h3 (W.stop s (zj h) i0 r x0 L);intro j s hs;obtain⟨d,f,a,h,n,o,g⟩:=H.done j s (qK hs).1 hs;exact⟨d,h,g.cur⟩;intro t s ht e8 hs;obtain⟨d,f,a,h,n,o,g⟩:=H.done t s (qK hs).1 hs;exact⟨d,h,g.all (w t ht e8 a o)⟩
include hP in
theorem Dh(W:Af P b q ss fl){e:qf}(m:uX e b.length)(hB:b.length+e.text.length<=2^39)(top inst stop:Z)(mark:C)
  (ho:(inst= -1/\stop= -1)\/ ∃(t:Q)(s:qb),top=t/\ss[t]? =T s/\inst≠ -1/\OwnE e s inst stop):
  ∃v,kQ top inst stop e mark b q ss fl=T v/\LaidOK P b e ss top inst v:=by
 have Ay:=W.dJ;have fZ:=m.ab;have ha0:=m.a0;have hbn:=m.bn;obtain⟨d,ks0,g1,g2,g3,g4⟩:=lay_L0 mark b q ss fl (e:=e) top inst stop Ay ss.length 0 (f? ss.length 0) (f? ss.length 0) o? z? z? (λj L=>o?);have p:Z3 e ss d ks0:=by refine⟨g2,g3,λj s hs=>?_⟩;have L:=g4 j (qK hs).1;exact⟨-1,-1,L.1,L.2,.inl ⟨rfl,rfl⟩⟩
 have L0: ∀is:V Z,Laid e b.length ss is 0 ss fl:=by intro is;refine⟨rfl,W.U0,W.fnn,λj s L=>o?,λj s _ hs=>?_⟩;obtain⟨f,hf⟩:=gl (l:=fl.l) (k:=j) (by rw[W.U0];exact(qK hs).1);exact⟨hs,f,hf,W.each j s f hs hf⟩
 have y:=(Rk e b.length m q (by have:=W.Kb;omega) W.Zj).1;have c1:wo b e.span.qG=T (b.take e.span.qG.toNat):=by obtain⟨r,o,n,_⟩:=I.wo (l:=b) ha0 o?;rw[o,n]
 have c2:nR b e.span.to=T (b.drop e.span.to.toNat):=by obtain⟨r,o,n,_⟩:=I.nR (l:=b) (lo:=e.span.to) o? o?;rw[o,n]
 have hbl:=W.blen;have r1:(b.take e.span.qG.toNat).length+e.text.length<=2^62:=v?;have r2:(b.take e.span.qG.toNat++e.text).length+(b.drop e.span.to.toNat).length<=2^62:=v?;unfold kQ;rw[U z?,U (qC v? o?),U z?,U (qC v? o?)];simp only[X?];rw[show (0:Z)=((0:Q):Z)from rfl,show f? ss.length ((0:Q):Z)=f? ss.length 0 from rfl,g1];simp only[zl,D];rcases ho with ⟨rfl,rfl⟩|⟨t,s,rfl,hs,e8,X⟩;rw[R z?];obtain⟨M,Nq,o,n⟩:=lay_L42 mark b q b.length m ss Ay W.small W.may d ks0 p top ss.length 0 fl ss o? (L0 d);rw[o];simp only[D,c1,c2,y];rw[U r1,U r2];exact⟨_,rfl,E0 hP W m hB d ks0 p top (-1) (λt _ h=>absurd rfl h) n⟩;rcases X with ⟨h,_⟩|⟨z,H,i,x,rfl,rfl,h1,h2,h3⟩;exact absurd h e8;have w:=(qK hs).1;rw[U z?,E (g4 t w).1,E (g4 t w).2,E hs];simp only[D];rw[E h1];simp only[D,X?];have fq:=zj hs;have g :=(W.may s fq).may z i h1 |>.inside H x h2;have Y:Z3 e ss (d.set t (z :Z)) (ks0.set t (H :Z)):=by refine⟨by simp[g2],by simp[g3],λj s' ZC=>?_⟩;rw[jo,jo];by_cases c:t=j;subst c;rw[hs]at ZC;cases ZC;rw[U ⟨rfl,o?⟩,U ⟨rfl,o?⟩];exact⟨_,_,rfl,rfl,.inr ⟨z,H,i,x,rfl,rfl,h1,h2,h3⟩⟩;rw[R o?,R o?];exact p.2.2 j s' ZC
 obtain⟨SL,OU,at',m1,m2,m3⟩:=lay_L2 mark b q ss fl (t:Z) W.small (λs hs=>⟨_,W.may s hs⟩) t (d.set t (z :Z)) (ks0.set t (H :Z)) i.span o? o? (Zz h3 ⟨g.1,g.2⟩) Y;rw[show q?.wrap ((t:Z)-1)=(t:Z)-1 from qy o? o?,m1];simp only[D];obtain⟨M,Nq,o,n⟩:=lay_L4 mark b q b.length m ss Ay W.small W.may SL OU m2 (t:Z) at' ss.length 0 fl ss o? (L0 SL);rw[o];simp only[D,c1,c2,y];rw[U r1,U r2];refine⟨_,rfl,E0 hP W m hB SL OU m2 (t:Z) (z :Z) (λt' ht' _ a ha=>?_) n⟩;obtain rfl:t=t' :=o?;rw[m3 t (ke _),jo,U ⟨rfl,o?⟩]at ha;cases ha;omega
end
end Xr
namespace Xr
theorem Wb(n:Z)(l:V Z)(hl:l.length<2^60):I (rP n l) (λ_=>True):=by
 have loop: ∀(d k:Q),k+d=l.length->I (bt (n,(k:Z),l)) (λ_=>True):=by intro d;induction d with|zero=>intro k h;rw[bt.eq_1,R v?];exact .ret trivial|succ d a=>intro k h;obtain⟨x,b⟩:=gl (l:=l) (k:=k) o?;rw[bt.eq_1,U v?,ws o?];refine .go (E b) ?_;split;exact .ret trivial;exact a (k+1) o?
 unfold rP;refine .bind (loop l.length 0 o?) λv _=>?_;rcases v with v|v<;>exact .ret trivial
theorem in_tot(l:J qu)(b:Z): ∀(m:Q)(a:Z),m=(a+1).toNat->I (sZ l a b) (λ_=>True):=by
 have loop: ∀(m:Q)(a:Z),m=(a+1).toNat->I (wZ (l,a,b)) (λ_=>True):=by intro m;induction m using s? with|_ m e=>intro a d;rw[wZ.eq_1];by_cases c:0<=a/\a<(l.l.length:Z);obtain⟨k,rfl⟩: ∃k:Q,a=k:=⟨a.toNat,o?⟩;obtain⟨x,f⟩:=gl (l:=l.l) (k:=k) o?;rw[U v?];refine .go (E f) ?_;refine .ite (λh=>?_) λ_=> .ret trivial;refine .ite (λg=>?_) λ_=> .ret trivial;refine .ite (λ_=> .ret trivial) λ_=>?_;simp only[decide_eq_true_eq]at h g;exact e (x.up+1).toNat o? x.up rfl;rw[R (by simp only[xn,decide_eq_true_eq];omega)];exact .ret trivial
 intro m a d;unfold sZ;refine .bind (loop m a d) λv _=>?_;rcases v with v|v<;>exact .ret trivial
theorem free_tot(l:J qu)(n:Z)(e:V Z)(hl:l.l.length<2^60)(g:e.length<2^60):I (iX l n e) (λ_=>True):=by
 have b: ∀(a:Z)(d k:Q),k+d=l.l.length->I (gv (l,n,a,(k:Z),e)) (λ_=>True):=by intro a d;induction d with|zero=>intro k h;rw[gv.eq_1,R v?];exact .ret trivial|succ d c=>intro k h;obtain⟨x,f⟩:=gl (l:=l.l) (k:=k) o?;rw[gv.eq_1,U v?,ws o?];refine .go (E f) ?_;refine .ite (λ_=>?_) λ_=>c (k+1) o?;refine .bind (in_tot l _ _ a rfl) λv _=>?_;exact .ite (λ_=> .ret trivial) λ_=>c (k+1) o?
 have loop: ∀(d k:Q),k+d=l.l.length->I (yJ (l,n,(k:Z),e)) (λ_=>True):=by intro d;induction d with|zero=>intro k h;rw[yJ.eq_1,R v?];exact .ret trivial|succ d c=>intro k h;obtain⟨x,f⟩:=gl (l:=l.l) (k:=k) o?;rw[yJ.eq_1,U v?,ws o?];refine .go (E f) ?_;refine .ite (λ_=>c (k+1) o?) λ_=>?_;refine .bind (Wb x.n e g) λv _=>?_;refine .ite (λ_=>c (k+1) o?) λ_=>?_;refine .bind (b (k:Z) l.l.length 0 o?) λw _=>?_;rcases w with w|w;exact .ret trivial;exact c (k+1) o?
 unfold iX;refine .bind (loop l.l.length 0 o?) λv _=>?_;rcases v with v|v<;>exact .ret trivial
theorem Ei(ns:J Z)(n:Z)(hl:ns.l.length<=2^28):I (cO ns n) (λr=>r.l.length<=ns.l.length+1/\(∀ x∈r.l,x=n\/x∈ns.l)/\n∈r.l/\ ∀x∈ns.l,x∈r.l):=by
 have loop: ∀(d k:Q),k+d=ns.l.length->I (pK (ns,n,(k:Z))) (λv=> ∃j:Q,v=j/\j<=ns.l.length):=by intro d;induction d with|zero=>intro k h;rw[pK.eq_1,R v?];exact .ret ⟨k,rfl,o?⟩|succ d o=>intro k h;obtain⟨x,hx⟩:=gl (l:=ns.l) (k:=k) o?;rw[pK.eq_1,U v?,ws o?];refine .go (E hx) ?_;exact .ite (λ_=>o (k+1) o?) λ_=> .ret ⟨k,rfl,o?⟩
 unfold cO;refine .bind (loop ns.l.length 0 o?) λv p=>?_;obtain⟨j,rfl,b⟩:=p;have a:(ns.l.take j++[n]++ns.l.drop j).length<=ns.l.length+1/\(∀ x∈ns.l.take j++[n]++ns.l.drop j,x=n\/x∈ns.l)/\n∈ns.l.take j++[n]++ns.l.drop j/\ ∀x∈ns.l,x∈ns.l.take j++[n]++ns.l.drop j:=by refine⟨v?,λx hx=>?_,z?,λx hx=>?_⟩;simp only[t?,d?]at hx;rcases hx with (hx|hx)|hx;exact .inr (V.mem_of_mem_take hx);exact .inl hx;exact .inr (V.mem_of_mem_drop hx);rw[<- H! j ns.l]at hx;simp only[t?,d?]at hx |-;rcases hx with hx|hx;exact .inl (.inl hx);exact .inr hx
 have i:ql (ns.l.take j).length 8=N:=qC v? o?;have g:ql ((ns.l.take j).length+1) 8=N:=qC v? o?;have f:ql ((ns.l.take j++[n]).length+(ns.l.drop j).length) 8=N:=qC v? o?;refine .ite (λc=>?_) λ_=>?_;obtain⟨x,hx⟩:=gl (l:=ns.l) (k:=j) (by simp at c;omega);refine .go (E hx) ?_;refine .ite (λm=>?_) λ_=>?_;refine .ret ⟨o?,λy e=> .inr e, ?_,λy e=>e⟩;have:=zj hx;simp only[beq_iff_eq]at m;rw[<- m];exact this;refine .go (VC _ _ b) ?_;refine .zY i (I.zY g ?_);refine .go (cutF _ _ b) ?_;exact .zY f (.ret a);refine .go (VC _ _ b) ?_;refine .zY i (I.zY g ?_);refine .go (cutF _ _ b) ?_;exact .zY f (.ret a)
theorem Le(i:qr)(hl:i.stops.l.length<=2^12):I (aL i) (λr=>r.l.length<=2^12):=by
 have m: ∀(d k:Q)(a:J Z),k+d=i.stops.l.length->a.l.length<=k->I (bo (a,(k:Z),i)) (λr=>r.l.length<=i.stops.l.length):=by intro d;induction d with|zero=>intro k a h o;rw[bo.eq_1,R v?];exact .ret o?|succ d c=>intro k a h o;obtain⟨x,p⟩:=gl (l:=i.stops.l) (k:=k) o?;rw[bo.eq_1,U v?,ws o?];refine .go (E p) ?_;refine .bind (Ei a x.n o?) λv s=>?_;exact c (k+1) v o? o?
 have g: ∀(a:J Z)(b:V Z),a.l.length<=2^12->b.length<=2^12-> ∀(d k:Q)(next:Z)(f:C),k+d=a.l.length->I (vP (a,next,f,(k:Z),i,b)) (λ_=>True):=by intro a b o t d;induction d with|zero=>intro k next f h;rw[vP.eq_1,R v?];exact .ret trivial|succ d c=>(intro k next f h);obtain⟨x,p⟩:=gl (l:=a.l) (k:=k) o?;rw[vP.eq_1,ws o?];refine .ite (λ_=>?_) λ_=> .ret trivial;refine .go (E p) ?_;refine .bind (Wb x b o?) λv _=>?_;refine .ite (λ_=>?_) λ_=>c (k+1) _ _ o?;refine .bind (free_tot i.stops x b o? o?) λw _=>?_;exact .ite (λ_=>c (k+1) _ _ o?) λ_=>c (k+1) _ _ o?
 have e: ∀(a:J Z)(b:V Z),a.l.length<=2^12->b.length<=2^12-> ∀(d k:Q)(next:Z)(f:C),k+d=a.l.length->I (yR (a,next,f,(k:Z),i,b)) (λ_=>True):=by intro a b o t d;induction d with|zero=>intro k next f h;rw[yR.eq_1,R v?];exact .ret trivial|succ d c=>(intro k next f h);obtain⟨x,p⟩:=gl (l:=a.l) (k:=k) o?;rw[yR.eq_1,ws o?];refine .ite (λ_=>?_) λ_=> .ret trivial;refine .go (E p) ?_;refine .bind (Wb x b o?) λv _=>?_;exact .ite (λ_=>c (k+1) _ _ o?) λ_=>c (k+1) _ _ o?
 have j: ∀(a:J Z),a.l.length<=2^12-> ∀(d:Q)(b:V Z),b.length+d=a.l.length->I (bp (a,i,b)) (λr=>r.length<=2^12):=by intro a o d;induction d with|zero=>intro b h;rw[bp.eq_1,R v?];exact .ret o?|succ d c=>intro b h;rw[bp.eq_1,U v?];refine .bind (g a b o o? a.l.length 0 _ _ o?) λv _=>?_;refine .bind (e a b o o? a.l.length 0 _ _ o?) λw _=>?_;refine .zY qC ?_;exact c _ v?
 unfold aL;refine .bind (m i.stops.l.length 0 ⟨N,[]⟩ o? z?) λv s=>?_;refine .bind (j v o? v.l.length [] z?) λw q=>?_;exact .ret q
def Cd(m:Q)(r:Z):Prop:=r<0\/ ∃j:Q,r=j/\j<m
def SrcQ(m:Q)(v:(Z×Z×Z)⊕(Z×Z)):Prop:=match v with| .inl w=>Cd m w.1| .inr w=>Cd m w.1/\Cd m w.2
theorem FE(i:qr)(n:Z)(held:J C)(hl:i.stops.l.length<2^60):I (dB i n held) (λr=>r<0\/ ∃(k:Q)(x:qu),r=k/\i.stops.l[k]? =T x):=by
 have ok: ∀(r:Z),Cd i.stops.l.length r->(r<0\/ ∃(k:Q)(x:qu),r=k/\i.stops.l[k]? =T x):=by intro r h;rcases h with h|⟨k,w,t⟩;exact .inl h;obtain⟨x,o⟩:=gl t;exact .inr ⟨k,x,w,o⟩
 have loop: ∀(d k:Q)(f a:Z),k+d=i.stops.l.length->Cd i.stops.l.length f->Cd i.stops.l.length a->
   I (xw (n,held,f,a,(k:Z),i)) (SrcQ i.stops.l.length):=by
  intro d;induction d with
  |zero=>intro k f a h j m;rw[xw.eq_1,R v?];exact .ret (show SrcQ _ (.inr (f,a))from⟨j,m⟩)
  |succ d y=>
   intro k f a h j m;obtain⟨x,o⟩:=gl (l:=i.stops.l) (k:=k) o?;have q:Cd i.stops.l.length (k:Z):= .inr ⟨k,rfl,o?⟩;rw[xw.eq_1,U v?,ws o?];refine .go (E o) ?_;refine .ite (λ_=>y (k+1) f a o? j m) λ_=>?_;have rest: ∀(b g :Z),(b =f\/b =k)->(g =a\/g =k)->I (xw (n,held,b,g,((k+1:Q):Z),i)) (SrcQ i.stops.l.length):=λb g w t=>
    y (k+1) b g o? (w.elim (λe=>e ▸ j) (λe=>e ▸ q)) (t.elim (λe=>e ▸ m) (λe=>e ▸ q))
   refine .ite (λc=>?_) λ_=>?_
   ·obtain⟨hb,s⟩:=gl (l:=held.l) (k:=k) (by simp at c;omega);refine .go (E s) ?_;refine .ite (λ_=> .ret (show SrcQ _ (.inl _)from q)) λ_=>?_;refine .ite (λ_=>?_) λ_=>?_
    ·exact .ite (λ_=>rest _ _ (.inr rfl) (.inr rfl)) λ_=>rest _ _ (.inr rfl) (.inl rfl)
    exact .ite (λ_=>rest _ _ (.inl rfl) (.inr rfl)) λ_=>rest _ _ (.inl rfl) (.inl rfl)
   refine .ite (λ_=>?_) λ_=>?_
   ·exact .ite (λ_=>rest _ _ (.inr rfl) (.inr rfl)) λ_=>rest _ _ (.inr rfl) (.inl rfl)
   exact .ite (λ_=>rest _ _ (.inl rfl) (.inr rfl)) λ_=>rest _ _ (.inl rfl) (.inl rfl)
 unfold dB;refine .bind (loop i.stops.l.length 0 (-1) (-1) o? (.inl o?) (.inl o?)) λv p=>?_;rcases v with v|v;exact .ret (ok _ p);exact .ite (λ_=> .ret (ok _ p.1)) λ_=> .ret (ok _ p.2)
end Xr
set_option maxHeartbeats 1000000
def Jt{α:Type}(s:J α):Q:=if s.nil=s.l.isEmpty then 0 else 1000000000000000000
theorem eN{α:Type}:Jt (⟨N,[]⟩:J α)=0:=rfl
theorem JX{α:Type}(x:α)(l:V α):Jt (⟨K,x::l⟩:J α)=0:=rfl
theorem VY{α:Type}(l:V α):Jt (⟨l.isEmpty,l⟩:J α)=0:=by simp[Jt]
def qS:V Q->Q
 |[]=>0
 |a::r=>a+qS r
theorem pj: ∀a b:V Q,qS (a++b)=qS a+qS b
 |[],b=>by simp[qS]
 |x::a,b=>by simp only[V.cons_append,qS,pj a b];omega
theorem Sq: ∀{l:V Q}{x:Q},x∈l->x<=qS l
 |y::l,x,h=>by simp only[qS];rcases K?.1 h with rfl|h;omega;have:=Sq h;omega
theorem xP{α:Type}{f:α->Q}(b: ∀a,1<=f a): ∀l:V α,l.length<=qS (l.map f)
 |[]=>by simp[qS]
 |a::l=>by have:=xP b l;have:=b a;simp only[e?,qS,b?];omega
theorem wB{α:Type}(f:α->Q)(l:V α)(a:α):qS ((l++[a]).map f)=qS (l.map f)+f a:=by rw[z_,pj];simp[qS]
theorem jF{α:Type}{f:α->Q}{l:V α}{a:α}(h:a∈l):f a<=qS (l.map f):=Sq (B?.2 ⟨a,h,rfl⟩)
theorem XB{α:Type}(f:α->Q): ∀(l:V α)(i:Q)(a x:α),l[i]? =T x->qS ((l.set i a).map f)+f x=qS (l.map f)+f a
 |y::l,0,a,x,h=>by simp only[i?,wO]at h;subst h;simp only[V.set_cons_zero,e?,qS];omega
 |y::l,i+1,a,x,h=>by simp only[Q?]at h;have:=XB f l i a x h;simp only[V.set_cons_succ,e?,qS];omega
def Zf(f:zQ):Q:=1+f.ZV.length+f.J8.length
theorem Kr(x:zQ):1<=Zf x:=by unfold Zf;omega
theorem Uy(w:Z):I (fH w) (λr=>r.length<=20):=by unfold fH;repeat' (first|(refine .tI ?_ ?_<;>intro hT)|exact .ret (by decide))
theorem Rz(s:B)(hs:s.length<=BN)(e:Z)(h0:0<=e)(h1:e+1<s.length)(t f:zQ): ∀(m:Q)(w:Z),m=(6-w).toNat->1<=w->
  I (mb (s,e,w,t,f)) (λr=> ∀y,r= .inl y->e<y.1/\y.1<=s.length/\Zf y.2.2.1=Zf f/\y.2.1=N):=by unfold BN at hs;intro m;induction m using s? with|_ m ih=>intro w hm h2;rw[mb.eq_1];have:= @Uy;exact tW
theorem YE(s:B)(hs:s.length<=BN)(qp:Z)(h0:0<=qp)(h1:qp<s.length)(c:C):I (cC s qp c) (λr=>r=N->qp+1<s.length):=by unfold BN at hs;unfold cC;exact tW
theorem NG(s:B)(hs:s.length<=BN)(stop:u): ∀(m:Q)(qp:Z)(b:V u),m=(s.length-qp).toNat->0<=qp->qp<=s.length->b.length<=BN->(b.length:Z)<=qp->
  I (ba (s,qp,stop,b)) (λr=>qp<=r.1/\r.1<=s.length/\(r.2.length:Z)+qp<=b.length+r.1):=by unfold BN at hs;intro m;induction m using s? with|_ m ih=>intro qp b hm h0 h1 hb hb2;rw[ba.eq_1];have:= @YE;exact tW
theorem Q5(s:B)(hs:s.length<=BN)(qp:Z)(h0:0<=qp)(h1:qp<=s.length)(stop:u):
  I (nD s qp stop) (λr=>r.2.2=N->qp<=r.2.1/\r.2.1<s.length/\(r.1.length:Z)+qp<=r.2.1):=by unfold nD;have:= @NG;exact tW
set_option maxHeartbeats 2000000 in
theorem DK(s:B)(hs:s.length<=BN)(qp:Z)(h0:0<=qp)(h1:qp<s.length):
  I (iL s qp) (λr=>r.2.2=N->qp+1<r.2.1/\r.2.1<=s.length/\(Zf r.1:Z)+qp+1<=r.2.1):=by have hB:s.length<=8192:=hs;unfold iL;(repeat (first|(rw [qy];rotate_left;omega;omega)|(rw [jy];rotate_left;omega;omega)));refine .bind (ix s hs (qp+1) o? o?) λv g=>?_;refine .tI ?_ ?_<;>intro a;have d:=a;have:=g.2.2 d;exact .ret λ_=>⟨u?,u?,by simp only[Zf,A];omega⟩;refine .tI ?_ ?_<;>intro a;exact .ret z?;refine .bind .get λb hb=>?_;refine .tI ?_ ?_<;>intro a;exact .ret z?;refine .bind (ix s hs (qp+2) o? o?) λw f=>?_;refine .tI ?_ ?_<;>intro a;exact .ret z?;have d:=a;have P9:=f.2.2 (by simpa using d.1);refine .bind .get λb2 hb2=>?_;(repeat (first|(rw [qy];rotate_left;omega;omega)|(rw [jy];rotate_left;omega;omega)));refine .tI ?_ ?_<;>intro a;exact .ret λ_=>⟨u?,u?,by simp only[Zf,A];omega⟩;refine .tI ?_ ?_<;>intro a;exact .ret z?;refine .bind .get λb3 hb3=>?_;refine .tI ?_ ?_<;>intro a;refine .bind (Rz s hs w.2.1 o? o? _ _ _ 1 rfl o?) λy c=>?_;rcases y with y|y;obtain⟨g1,g2,g3,g4⟩:=c y rfl;refine .ret λ_=>?_;simp only[Zf,A]at g3 |-;omega;exact .ret z?;(repeat (first|(rw [qy];rotate_left;omega;omega)|(rw [jy];rotate_left;omega;omega)));refine .tI ?_ ?_<;>intro a;{refine .bind (Q5 s hs (w.2.1+2) o? o? 125) λy c=>?_;refine .tI ?_ ?_<;>intro a;exact .ret z?;have d:=a;have c:=c d;(repeat (first|(rw [qy];rotate_left;omega;omega)|(rw [jy];rotate_left;omega;omega)));refine .ret λ_=>?_;simp only[Zf,A];omega};refine .tI ?_ ?_<;>intro a;{refine .bind (Q5 s hs (w.2.1+2) o? o? 58) λy c=>?_;refine .tI ?_ ?_<;>intro a;{have d:=a;have c:=c d;(repeat (first|(rw [qy];rotate_left;omega;omega)|(rw [jy];rotate_left;omega;omega)));refine .bind (Q5 s hs (y.2.1+1) o? o? 125) λz e=>?_;refine .tI ?_ ?_<;>intro a;exact .ret z?;have d:=a;have e:=e d;(repeat (first|(rw [qy];rotate_left;omega;omega)|(rw [jy];rotate_left;omega;omega)));refine .ret λ_=>?_;simp only[Zf];omega};exact .ret z?};refine .tI ?_ ?_<;>intro a;{refine .bind (Q5 s hs (w.2.1+2) o? o? 125) λy c=>?_;refine .tI ?_ ?_<;>intro a;exact .ret z?;have d:=a;have c:=c d;(repeat (first|(rw [qy];rotate_left;omega;omega)|(rw [jy];rotate_left;omega;omega)));refine .ret λ_=>?_;simp only[Zf,A];omega};refine .bind (Q5 s hs (w.2.1+1) o? o? 125) λy c=>?_;refine .tI ?_ ?_<;>intro a;exact .ret z?;have d:=a;have c:=c d;(repeat (first|(rw [qy];rotate_left;omega;omega)|(rw [jy];rotate_left;omega;omega)));refine .ret λ_=>?_;simp only[Zf,A];omega
theorem last_eq{α:Type}(l:V α)(a:α):(((l++[a]).length:Z)-1).toNat=l.length:=z?
theorem set_snoc{α:Type}(l:V α)(a b:α):(l++[a]).set l.length b=l++[b]:=z?
theorem FW(c:u)(a:V zQ)(g:qS (a.map Zf)<=4*BN):
  I (rM c a) (λr=>qS (r.map Zf)<=qS (a.map Zf)+2):=by
 unfold BN at g;have hl:=xP Kr a;have key: ∀z:zQ,z.ZV=[]->z.J8=[]->I (qk (a++[z]) (q?.wrap (((a++[z]).length:Z)-1))) (λx=>x=z):=by (intro z l k;have:q?.wrap (((a++[z]).length:Z)-1)=(a.length:Z):=by rw[qy (by simp only[p?,b?,A];omega) (by simp only[p?,b?,A];omega)];simp);rw[this];refine(I.get o? (by simp only[p?,b?,A];omega)).mono λx b=>?_;have:=b.1;simp at this;exact this.symm
 have d: ∀(z y:zQ),z.ZV=[]->z.J8=[]->y.ZV=[c]->y.J8=[]->qS (((a++[z]).set (q?.wrap (((a++[z]).length:Z)-1)).toNat y).map Zf)<=qS (a.map Zf)+2:=by intro z y l k j i;rw[qy (by simp only[p?,b?,A];omega) (by simp only[p?,b?,A];omega),last_eq,set_snoc,wB];simp[Zf,j,i]
 unfold rM;refine .tI ?_ ?_<;>intro h;refine .zY qC ?_;refine .bind (key _ rfl rfl) λx b=>?_;subst b;refine .zY z? ?_;exact .ret (d _ _ rfl rfl z? rfl);have e1:q?.wrap ((a.length:Z)-1)=(a.length:Z)-1:=qy o? o?;rw[e1];refine .bind .get λx b=>?_;have e:=jF (f:=Zf) b.2;refine .tI ?_ ?_<;>intro h;refine .zY qC ?_;refine .bind (key _ rfl rfl) λx b=>?_;subst b;refine .zY z? ?_;exact .ret (d _ _ rfl rfl z? rfl);refine .zY (by simp only[Zf]at e;simp;omega) ?_;refine .ret ?_;have:=XB Zf a ((a.length:Z)-1).toNat (zQ.mk x.kind x.n x.Gt (x.ZV++[c]) x.J8) x b.1;simp only[Zf,p?,b?,A]at this |-;have e2:qS (y? (λf=>1+f.ZV.length+f.J8.length) (a.set ((a.length:Z)-1).toNat (zQ.mk x.kind x.n x.Gt (x.ZV++[c]) x.J8)))=qS (y? Zf (a.set ((a.length:Z)-1).toNat (zQ.mk x.kind x.n x.Gt (x.ZV++[c]) x.J8))):=rfl;omega
theorem G4(s:B)(hs:s.length<=BN): ∀(m:Q)(qp:Z)(a:V zQ),m=(s.length-qp).toNat->0<=qp->qp<=s.length->(qS (a.map Zf):Z)<=2*qp->
  I (vD (s,qp,a)) (λr=>qp<=r.1/\r.1<=s.length/\(qS (r.2.map Zf):Z)+2*qp<=qS (a.map Zf)+2*r.1):=by have hB:s.length<=8192:=hs;intro m;induction m using s? with|_ m ih=>intro qp a hm h0 h1 hw;have hl:=xP Kr a;rw[vD.eq_1];have:= @FW;have:= @DK;have:= @wB;have:= @YE;exact tW
theorem DX(s:B)(hs:s.length<=BN)(qp:Z):
  I (iK s qp) (λr=>r.2.2=N->0<=qp/\qp<=r.2.1/\r.2.1<s.length/\(qS (r.1.l.map Zf):Z)+Jt r.1<=2*(r.2.1-qp)):=by unfold iK;refine .tI ?_ ?_<;>intro b;exact .ret z?;refine .bind (G4 s hs _ qp [] rfl o? o? (by simp[qS];omega)) λv a=>?_;refine .tI ?_ ?_<;>intro b;exact .ret z?;refine .ret λ_=>?_;simp only[k!,qS,VY]at a |-;omega
def nL(r:zf):Q:=1+r.qG.length+r.to.length
theorem dH(r:zf):1<=nL r:=by unfold nL;omega
mutual
def cW:qI->Q
 |⟨_,c,_,rows,_,_,_,qB⟩=>1+c.length+qS (rows.l.map nL)+Jt rows+rxWS qB
def rxWS:J qI->Q
 |⟨z,l⟩=>rxWL l+Jt (⟨z,l⟩:J qI)
def rxWL:V qI->Q
 |[]=>0
 |x::r=>cW x+rxWL r
end
theorem S4: ∀l:V qI,rxWL l=qS (l.map cW)
 |[]=>by simp[rxWL,qS]
 |x::r=>by simp[rxWL,qS,S4 r]
theorem uR(x:qI):cW x=1+x.char.length+qS (x.rows.l.map nL)+qS (x.qB.l.map cW)+(Jt x.rows+Jt x.qB):=by cases x with|mk a b c d e f g h=>cases h;simp[cW,rxWS,S4];omega
theorem lq(x:qI):1<=cW x:=by rw[uR];omega
theorem az(b:u):I (ur b) (λ_=>True):=by unfold ur;repeat' (first|(refine .tI ?_ ?_<;>intro hT)|exact .ret trivial)
theorem MK(s:qa)(hs:s.length<=BN): ∀(m:Nat)(f i:Int)(l:List qa),m=(s.length+1-i).toNat->0<=f->f<i->i<=s.length+1->(l.length:Int)<=f->(∀ c∈l,c.length<=s.length)->
  qL (xp (s,f,i,l)) (λr=>r.length<=s.length+1/\ ∀c∈r,c.length<=s.length):=by have hB:s.length<=8192:=hs;intro m;induction m using Nat.strongRecOn with|_ m ih=>(intro f i l hm h0 h1 h2 h3 h4;rw[xp.eq_1];have more:i<=s.length-> ∀r:qa,(r.length:Int)=i-f-> ∀c∈l++[r],c.length<=s.length:=by intro hi r hr c hc;rcases List.mem_append.1 hc with hc|hc;exact h4 c hc;(have:c=r:=by simpa using hc);subst this;omega);refine .tI ?_ ?_<;>intro hT;{refine .tI ?_ ?_<;>intro hT;exact tW;refine .bind .get λb hb=>?_;refine .bind (az b) λv hv=>?_;refine .tI ?_ ?_<;>intro hT;exact tW;(repeat (first|(rw [qy];rotate_left;omega;omega)|(rw [jy];rotate_left;omega;omega)));exact ih _ o? f (i+1) _ rfl o? o? o? o? h4};exact .ret ⟨by show l.length<=_;omega,h4⟩
theorem BV(s:B)(hs:s.length<=BN):I (gn s) (λr=>r.l.length<=s.length+1/\ ∀c∈r.l,c.length<=s.length):=by unfold gn;have:= @xp.eq_1;have:= @MK;exact tW
theorem JO(c:B)(hc:c.length<=BN):I (kr c) (λ_=>True):=by unfold kr;refine .tI ?_ ?_<;>intro hT;refine .bind .get λb hb=>?_;refine .bind (az b) λv hv=>?_;have:= @BV;exact tW;exact .ret trivial
theorem Tz: ∀(m:Q)(i:Z)(b:V u),m=(b.length-i).toNat->0<=i->b.length<=BN->I (vC (i,b)) (λr=>r.length=b.length):=by intro m;induction m using s? with|_ m ih=>intro i b hm h0 a;have hB:b.length<=8192:=a;rw[vC.eq_1];exact tW
theorem fold_tot(s:B)(hs:s.length<=BN):I (m9 s) (λr=>r.length=s.length):=by unfold m9;have:= @Tz;exact tW
theorem Be(c:u):I (cM c) (λr=>qS (r.1.l.map nL)+Jt r.1<=12):=by unfold cM;repeat' (first|(refine .tI ?_ ?_<;>intro hT)|exact .ret (by decide))
theorem YV(c:B):I (yG c) (λr=>r.1.length<=c.length+1/\(r.2=N->0<c.length)):=by
 unfold yG;refine .tI ?_ ?_<;>intro a;exact .ret z?;have e:=a;have d:0<c.length:=I?.2 e;repeat' (first|(refine .tI ?_ ?_<;>intro a)|exact .ret ⟨by simp,λ_=>d⟩)
 refine .bind .get λb hb=>?_;refine .bind (cA b) λv hv=>?_;refine .tI ?_ ?_<;>intro a;exact .ret z?;refine .bind (tR b) λw hw=>?_;refine .tI ?_ ?_<;>intro a;exact .ret z?;exact .ret ⟨z?,λ_=>d⟩
structure Kc (cs:J B):Prop where
 many:cs.l.length<=257
 each: ∀c∈cs.l,c.length<=256
theorem eM{cs:J B}(c:Kc cs)(b:qd)(h:b.cs=cs)(d:0<=b.qp):
  I (jc b) (λr=>r.length<=256/\(r≠[]->b.qp<cs.l.length)):=by unfold jc;rw[h];refine .tI ?_ ?_<;>intro hT;exact .ret z?;refine .bind (I.get d o?) λx a=>?_;exact .ret ⟨c.each x a.2,λ_=>o?⟩
theorem Ha{cs:J B}(a:Kc cs)(c:B)(b:qd)(h:b.cs=cs)(h0:0<=b.qp):
  I (qO c b) (λr=>r.2.cs=cs/\(r.1=N->r.2.qp=b.qp+1/\b.qp<cs.l.length)/\(r.1=K->r.2=b)):=by have hm:=a.many;unfold qO;exact tW
def sD(rows:V zf):Prop:= ∀r∈rows,r.qG.length<=300/\r.to.length<=300
theorem sD.app{a b:V zf}(d:sD a)(c:sD b):sD (a++b):=by intro r hr;rcases t?.1 hr with hr|hr;exact d r hr;exact c r hr
theorem sD.one{f t:B}(c:f.length<=300)(b:t.length<=300):sD [zf.mk f t]:=by
 intro r a;have:r=zf.mk f t:=by simpa using a
 subst this;exact⟨c,b⟩
theorem sD.light{rows:V zf}(h:qS (rows.map nL)<=300):sD rows:=by intro r a;have:=jF (f:=nL) a;simp only[nL]at this;exact tW
section
variable {cs:J B} (hc:Kc cs)
include hc
theorem TZ(b:qd)(h:b.cs=cs)(f:0<=b.qp)(h1:b.qp<=cs.l.length):
  I (ui b) (λr=>r.2.2.2.cs=cs/\0<=r.2.2.2.qp/\(r.2.2.1=N->b.qp<r.2.2.2.qp/\r.2.2.2.qp<=cs.l.length/\qS (r.1.l.map nL)<=12/\r.2.1.length<=257)):=by
 have hm:=hc.many;unfold ui;refine .bind (eM hc b h f) λv j=>?_;refine .tI ?_ ?_<;>intro e;exact .ret ⟨h,f,z?⟩;have k:=e;have h3:=j.2 k.1;(repeat (first|(rw [qy];rotate_left;omega;omega)|(rw [jy];rotate_left;omega;omega)));refine .tI ?_ ?_<;>intro e;exact .ret ⟨h,u?,λ_=>⟨u?,u?,by simp[qS],u?⟩⟩;refine .bind (eM hc (qd.mk b.cs (b.qp+1)) h u?) λw d=>?_;simp only at d;(repeat (first|(rw [qy];rotate_left;omega;omega)|(rw [jy];rotate_left;omega;omega)))
 have esc:I (yG w>>=λc=>
   T ((⟨N,([]:V zf)⟩:J zf),c.1,c.2,(qd.mk b.cs (b.qp+1+1))))
   (λr=>r.2.2.2.cs=cs/\0<=r.2.2.2.qp/\(r.2.2.1=N->b.qp<r.2.2.2.qp/\r.2.2.2.qp<=cs.l.length/\qS (r.1.l.map nL)<=12/\r.2.1.length<=257)):=by
  refine .bind (YV w) λy i=>?_;refine .ret ⟨h,u?,λg=>?_⟩;simp only at g |-;have a:=i.2 g;have P9:=d.2 (R! a);exact⟨o?,o?,by simp[qS],o?⟩
 have:= @Be;exact tW
theorem Nl(t:qI)(x:qI)(a0:Z): ∀(m:Q)(b:qd)(rows:V zf),m=(cs.l.length-b.qp).toNat->b.cs=cs->0<=a0->a0<=b.qp->b.qp<=cs.l.length->(qS (rows.map nL):Z)<=600*(b.qp-a0)->sD rows->
  I (zX (b,t,x,rows)) (λr=>(∀ y,r= .inl y->y.1≠0/\y.2.1.cs=cs)/\
   ∀y,r= .inr y->y.1.cs=cs/\b.qp<y.1.qp/\y.1.qp<=cs.l.length/\(qS (y.2.map nL):Z)<=600*(y.1.qp-a0)/\sD y.2):=by
 have hm:=hc.many;intro m;induction m using s? with
  |_ m M=>
   intro b rows hmm h n h0 P hw d;have hl:=xP dH rows;rw[zX.eq_1];refine .bind (Ha hc _ b h o?) λv k=>?_;have next: ∀(b2:qd)(i:V zf),b2.cs=cs->b.qp<b2.qp->b2.qp<=cs.l.length->(qS (i.map nL):Z)<=600*(b2.qp-a0)->sD i->
     I (zX (b2,t,x,i)) (λr=>(∀ y,r= .inl y->y.1≠0/\y.2.1.cs=cs)/\
      ∀y,r= .inr y->y.1.cs=cs/\b.qp<y.1.qp/\y.1.qp<=cs.l.length/\(qS (y.2.map nL):Z)<=600*(y.1.qp-a0)/\sD y.2):=by
    intro b2 i g1 g2 g3 g4 g5;refine(M _ o? b2 i rfl g1 n o? g3 g4 g5).mono λr q=>⟨q.1,λy a=>?_⟩;have:=q.2 y a;exact⟨this.1,o?,this.2.2.1,this.2.2.2⟩
   refine .tI ?_ ?_<;>intro f
   ·have o:=f;have e:=k.2.2 o;rw[e];refine .bind (TZ hc b h o? P) λw s=>?_;refine .tI ?_ ?_<;>intro f;refine .ret ⟨λy a=>?_,λy a=>by cases a⟩;cases a;exact⟨z?,s.1⟩;have W:=f;obtain⟨g1,g2,g3⟩:=s;obtain⟨g3,g4,g5,g6⟩:=g3 W;have TO:=xP dH w.1.l;refine .tI ?_ ?_<;>intro f;{refine .tI ?_ ?_<;>intro f;{exact next _ _ g1 g3 g4 o? d};refine .zY qC ?_;exact next _ _ g1 g3 g4 (by rw[z_,pj];omega) (d.app (sD.light o?))}
    refine .bind (eM hc w.2.2.2 g1 g2) λy a=>?_;have one:I (if ql (rows.length+1) 32=N then zX (w.2.2.2,t,x,(rows++[(zf.mk w.2.1 w.2.1)]))else none)
      (λr=>(∀ y,r= .inl y->y.1≠0/\y.2.1.cs=cs)/\
       ∀y,r= .inr y->y.1.cs=cs/\b.qp<y.1.qp/\y.1.qp<=cs.l.length/\(qS (y.2.map nL):Z)<=600*(y.1.qp-a0)/\sD y.2):=by
     refine .zY qC ?_;exact next _ _ g1 g3 g4 (by rw[wB];simp only[nL];omega) (d.app (sD.one o? o?))
    rw[g1];refine .tI ?_ ?_<;>intro f;{(repeat (first|(rw [qy];rotate_left;omega;omega)|(rw [jy];rotate_left;omega;omega)));refine .bind .get λc Hj=>?_;refine .tI ?_ ?_<;>intro f;{refine .bind (TZ hc (qd.mk cs (w.2.2.2.qp+1)) rfl u? u?) λz j=>?_;simp only at j;refine .tI ?_ ?_<;>intro f;refine .ret ⟨λy a=>?_,λy a=>by cases a⟩;cases a;exact⟨z?,j.1⟩;have g:=f;obtain⟨L,k2,p⟩:=j;obtain⟨p,H,k5,k6⟩:=p g.1;refine .zY qC ?_;exact next _ _ L o? H (by rw[wB];simp only[nL];omega) (d.app (sD.one o? o?))};exact one};exact one
   have o:=f;obtain⟨g1,g2⟩:=k.2.1 o;refine .ret ⟨λy a=>(by cases a),λy a=>?_⟩;cases a;exact⟨k.1,u?,u?,u?,d⟩
end
theorem MS(rows s:J zf)(i:Z)(x:zf)(hs:s.l.length<=1000000): ∀(m:Q)(k:Z),m=k.toNat->0<=k->k<=s.l.length->I (gX (rows,s,i,k,x)) (λr=>0<=r/\r<=s.l.length):=by intro m;induction m using s? with|_ m ih=>intro k hm h0 h1;rw[gX.eq_1];exact tW
theorem MR(rows:J zf)(hw:qS (rows.l.map nL)<=1000000)(n: ∀r∈rows.l,r.qG.length<=BN/\r.to.length<=BN): ∀(r:V zf)(k:Q)(s:J zf),rows.l.drop k=r->qS (s.l.map nL)+qS (r.map nL)<=qS (rows.l.map nL)->
  I (vI (rows,s,(k:Z))) (λt=>qS (t.l.map nL)<=qS (rows.l.map nL)):=by have hl:=xP dH rows.l;intro r;induction r with|nil=>intro k s e hs;rw[vI.eq_1];have:=u9 e;refine .tI ?_ ?_<;>intro f;omega;exact .ret (by simp[qS]at hs;exact hs)|cons x r d=>intro k s e hs;obtain⟨j,g,i⟩:=drop_cons e;have h:=n x (zj j);have TO:=xP dH s.l;simp only[e?,qS]at hs;rw[vI.eq_1];have e1:q?.wrap ((k:Z)+1)=((k+1:Q):Z):=sj o?;rw[e1];refine .tI ?_ ?_<;>intro f;refine .bind (P:=λy=>y=x) ⟨x,by rw[xQ i];simpa[yc i]using j,rfl⟩ λy m=>?_;subst m;refine .bind (JO _ h.1) λv hv=>?_;refine .tI ?_ ?_<;>intro f;exact d (k+1) s g o?;refine .bind (JO _ h.2) λw P9=>?_;refine .tI ?_ ?_<;>intro f;exact d (k+1) s g o?;(refine .bind (MS rows s k y o? _ _ rfl o? o?) λz c=>?_;refine .bind (I.wo c.1 c.2) λa p=>?_;refine .zY qC ?_;refine .zY qC ?_;refine .bind (I.nR c.1 c.2) λb o=>?_;refine .zY (qC v? o?) ?_;refine d (k+1) _ g ?_;have e2:qS (s.l.map nL)=qS (a.map nL)+qS (b.map nL):=by rw[<- pj,<- z_,p.1,o.1,H!]);simp only[z_,pj,e?,k!,qS];omega;omega
theorem MT(s:J zf)(hw:qS (s.l.map nL)<=1000000): ∀(r:V zf)(k:Q)(out:V zf),s.l.drop k=r->qS (out.map nL)+qS (r.map nL)<=qS (s.l.map nL)->
  I (vJ (s,(k:Z),out)) (λt=>qS (t.map nL)<=qS (s.l.map nL)):=by have hl:=xP dH s.l;intro r;induction r with|nil=>intro k out c hs;rw[vJ.eq_1];have:=u9 c;refine .tI ?_ ?_<;>intro d;omega;exact .ret (by simp[qS]at hs;exact hs)|cons x r a=>intro k out c hs;obtain⟨i,e,g⟩:=drop_cons c;have TO:=xP dH out;simp only[e?,qS]at hs;rw[vJ.eq_1];have e1:q?.wrap ((k:Z)+1)=((k+1:Q):Z):=sj o?;rw[e1];have f:I (qk s.l (k:Z)) (λy=>y=x):=⟨x,by rw[xQ g];simpa[yc g]using i,rfl⟩;refine .tI ?_ ?_<;>intro d;refine .tI ?_ ?_<;>intro d;refine .bind f λy b=>?_;subst b;have e2:q?.wrap ((out.length:Z)-1)=(out.length:Z)-1:=qy o? o?;rw[e2];refine .bind .get λz h=>?_;refine .tI ?_ ?_<;>intro d;(refine a (k+1) _ e ?_;have:=XB nL out ((out.length:Z)-1).toNat (zf.mk z.qG (if wu z.to y.to=N then y.to else z.to)) z h.1;have e3:nL (zf.mk z.qG (if wu z.to y.to=N then y.to else z.to))<=nL z+nL y:=by simp only[nL];split<;>omega);omega;refine .zY qC ?_;exact a (k+1) _ e (by rw[wB];omega);refine .bind f λy b=>?_;subst b;refine .zY qC ?_;exact a (k+1) _ e (by rw[wB];omega);omega
theorem WQ(rows:J zf)(a:qS (rows.l.map nL)<=1000000)(b: ∀r∈rows.l,r.qG.length<=BN/\r.to.length<=BN):I (aE rows) (λt=>qS (t.l.map nL)+Jt t<=qS (rows.l.map nL)):=by unfold aE;have h:=MR rows a b rows.l 0 (⟨N,[]⟩:J zf) rfl (by simp[qS]);rw[show ((0:Q):Z)=0 from rfl]at h;refine .bind h λv hv=>?_;exact .bind (MT v o? v.l 0 [] rfl (by simp[qS])) λw a=> .ret (by rw[VY];simp only;omega)
section
variable {cs:J B} (hc:Kc cs)
include hc
theorem IZ(b:qd)(h:b.cs=cs)(e:0<=b.qp)(h1:b.qp<=cs.l.length):
  I (gZ b) (λr=>r.2.2.cs=cs/\(r.2.1=0->b.qp<r.2.2.qp/\r.2.2.qp<=cs.l.length/\(cW r.1:Z)<=600*(r.2.2.qp-b.qp)+1)):=by
 have hm:=hc.many;unfold gZ;refine .bind (Ha hc _ b h e) λv a=>?_;have d:b.qp<=v.2.qp/\v.2.qp<=cs.l.length:=by cases f:v.1;rw[a.2.2 f];omega;have:=a.2.1 f;omega
 refine .bind (Nl hc _ _ b.qp _ v.2 [] rfl a.1 e d.1 d.2 (by simp[qS];omega) (by intro r c;cases c)) λw i=>?_;rcases w with y|y;exact tW;obtain⟨g1,g2,g3,g4,g5⟩:=i.2 y rfl;refine .bind (WQ (⟨y.2.isEmpty,y.2⟩:J zf) u? (λr c=>by have:=g5 r c;unfold BN;omega)) λz g=>?_;refine .ret ⟨g1,λ_=>⟨u?,g3, ?_⟩⟩;simp only[uR,eN,JX,VY,A,k!,qS]at g |-;omega
theorem Cs(b:qd)(h:b.cs=cs)(k:0<=b.qp)(h1:b.qp<=cs.l.length):
  I (nC b) (λr=>r.2.2.cs=cs/\(r.2.1=0->b.qp<r.2.2.qp/\r.2.2.qp<=cs.l.length/\cW r.1<=300)):=by
 have hm:=hc.many;unfold nC;refine .bind (eM hc b h k) λv j=>?_;refine .bind (fold_tot v (by unfold BN;omega)) λw hw=>?_;(repeat (first|(rw [qy];rotate_left;omega;omega)|(rw [jy];rotate_left;omega;omega)))
 have a:I (yG v>>=λg=>
   if(!g.2)then
    T ((qI.mk (0:Z) ([]:B) K (⟨N,([]:V zf)⟩:(J zf)) (0:Z) (0:Z) K (⟨N,([]:V qI)⟩:(J qI))),(10:Z),b)
   else
    T ((qI.mk (2:Z) g.1 K (⟨N,([]:V zf)⟩:(J zf)) (0:Z) (0:Z) K (⟨N,([]:V qI)⟩:(J qI))),(0:Z),(qd.mk b.cs (b.qp+1))))
   (λr=>r.2.2.cs=cs/\(r.2.1=0->b.qp<r.2.2.qp/\r.2.2.qp<=cs.l.length/\cW r.1<=300)):=by
  refine .bind (YV v) λy i=>?_;refine .tI ?_ ?_<;>intro f
  ·exact .ret ⟨h,z?⟩
  have d:=f;have m:=i.2 d;have e:=j.2 (R! m);refine .ret ⟨h,λ_=>⟨u?,u?, ?_⟩⟩;simp only[uR,eN,JX,VY,k!,qS];omega
 refine .tI ?_ ?_<;>intro f;refine .bind .get λc Hj=>?_;refine .bind (Be c) λy i=>?_;refine .tI ?_ ?_<;>intro f;have e:=j.2 (R! o?);refine .ret ⟨h,λ_=>⟨u?,u?, ?_⟩⟩;simp only[uR,eN,JX,VY,A,k!,qS];omega;exact a;exact a
theorem VT: ∀(m:Q)(n k:Z)(b:qd),m=(3-k).toNat->0<=k->b.cs=cs->0<=b.qp->b.qp<=cs.l.length->0<=n->(k=0/\n<1\/k=1/\n<10\/k=2/\n<100\/k=3/\n<1000)->
  I (kZ (n,k,b)) (λr=>0<=r.1/\r.1<1000/\k<=r.2.1/\r.2.2.cs=cs/\b.qp<=r.2.2.qp/\r.2.2.qp<=cs.l.length):=by have hm:=hc.many;intro m;induction m using s? with|_ m f=>intro n k b hmm hk h j e hn hkn;rw[kZ.eq_1];refine .tI ?_ ?_<;>intro d;{refine .bind (eM hc b h j) λv i=>?_;refine .tI ?_ ?_<;>intro d;{have hv2:=i.2 (R! o?);refine .bind .get λc Hj=>?_;refine .bind (tR c) λw g=>?_;refine .tI ?_ ?_<;>intro d;{have o:=d;have P9:=g o;(try simp(disch:=omega) only[qy,jy]);exact(f _ o? _ (k+1) (qd.mk b.cs (b.qp+1)) rfl o? h u? u? o? o?).mono λr a=>by simp only at a;exact⟨a.1,a.2.1,o?,a.2.2.2.1,o?,a.2.2.2.2.2⟩};exact .ret ⟨hn,u?,z?,h,z?,e⟩};exact .ret ⟨hn,u?,z?,h,z?,e⟩};exact .ret ⟨hn,u?,z?,h,z?,e⟩
theorem KH(b:qd)(h:b.cs=cs)(h0:0<=b.qp)(h1:b.qp<=cs.l.length):
  I (vU b) (λr=>0<=r.1/\r.1<1000/\r.2.2.cs=cs/\b.qp<=r.2.2.qp/\r.2.2.qp<=cs.l.length):=by unfold vU;have:= @VT;exact tW
end
theorem rep_W(x:qI)(a b:Z)(l:C):cW (qI.mk (7:Z) ([]:B) K (⟨N,[]⟩:(J zf)) a b l (⟨K,[x]⟩:(J qI)))=1+cW x:=by rw[uR];simp[qS,eN,JX]
theorem R3(kind:Z)(a:J qI)(hw:qS (a.l.map cW)<=1000000): ∀(r:V qI)(k:Q)(l:V qI),a.l.drop k=r->qS (l.map cW)+qS (r.map cW)<=qS (a.l.map cW)->
  I (yF (kind,a,(k:Z),l)) (λt=>qS (t.map cW)<=qS (a.l.map cW)):=by have hl:=xP lq a.l;intro r;induction r with|nil=>intro k l b hs;rw[yF.eq_1];have:=u9 b;exact tW|cons x r ih=>intro k l b hs;obtain⟨h1,h2,h3⟩:=drop_cons b;have TO:=xP lq l;have hl3:=xP lq x.qB.l;have hx:=uR x;simp only[e?,qS]at hs;rw[yF.eq_1];have:= @pj;have:= @wB;exact tW
theorem R5(kind:Z)(a:J qI)(b:qS (a.l.map cW)<=1000000):I (fE kind a) (λt=>qS (t.l.map cW)+Jt t<=qS (a.l.map cW)):=by unfold fE;exact .bind (R3 kind a b a.l 0 [] rfl (by simp[qS])) λw b=> .ret (by rw[VY];simp only;omega)
theorem seq_tot(a:J qI)(b:qS (a.l.map cW)<=1000000):I (Qo a) (λt=>cW t<=1+qS (a.l.map cW)):=by unfold Qo;refine .bind (R5 0 a b) λv hv=>?_;refine .tI ?_ ?_<;>intro hT;have:= @jF;exact tW;refine .ret ?_;simp only[uR,eN,JX,VY,A,k!,qS];omega
theorem alt_tot(a:J qI)(b:qS (a.l.map cW)<=1000000):I (Qm a) (λt=>cW t<=1+qS (a.l.map cW)):=by unfold Qm;refine .bind (R5 1 a b) λv hv=>?_;refine .tI ?_ ?_<;>intro c;refine .ret ?_;simp only[uR,eN,JX,VY,A,k!,qS];omega;refine .tI ?_ ?_<;>intro c;have:= @jF;exact tW;refine .ret ?_;simp only[uR,eN,JX,VY,A,k!,qS];omega
section
variable {cs:J B} (hc:Kc cs)
include hc
theorem wb(c:B)(b:qd)(h:b.cs=cs)(a:0<=b.qp)(h1:b.qp<=cs.l.length):
  I (qO c b) (λr=>r.2.cs=cs/\b.qp<=r.2.qp/\r.2.qp<=cs.l.length/\(r.1=N->r.2.qp=b.qp+1)/\(r.1=K->r.2.qp=b.qp)):=by refine(Ha hc c b h a).mono λr hr=>?_;cases h2:r.1;exact tW;exact tW
def TimesQ(cs:J B)(x:qI)(a:Z)(r:qI×Z×qd):Prop:=
 r.2.2.cs=cs/\(r.2.1=0->a<=r.2.2.qp/\r.2.2.qp<=cs.l.length/\(cW r.1:Z)<=cW x+(r.2.2.qp-a))
theorem q0B(x:qI)(b:qd)(h:b.cs=cs)(t:0<=b.qp)(r:b.qp<=cs.l.length):
  I (wP x b) (TimesQ cs x b.qp):=by
 have last: ∀(w:qd)(p q:Z),w.cs=cs->b.qp<w.qp->w.qp<=cs.l.length->I (qO ([63]:B) w>>=λv5=>
   T ((qI.mk (7:Z) ([]:B) K (⟨N,[]⟩:(J zf)) p q v5.1 (⟨K,[x]⟩:(J qI))),(0:Z),v5.2)) (TimesQ cs x b.qp):=by
  intro w p q g1 g2 g3;refine .bind (wb hc _ w g1 o? g3) λz d=>?_;refine .ret ⟨d.1,λ_=>⟨u?,u?, ?_⟩⟩;simp only[rep_W];omega
 unfold wP;refine .bind (wb hc _ b h t r) λv i=>?_;refine .tI ?_ ?_<;>intro a;exact last _ _ _ i.1 (by have g:=a;have:=i.2.2.2.1 g;omega) o?;have g1:=a;have Kz:=i.2.2.2.2 g1;refine .bind (wb hc _ v.2 i.1 o? o?) λw f=>?_;refine .tI ?_ ?_<;>intro a;exact last _ _ _ f.1 (by have g:=a;have:=f.2.2.2.1 g;omega) o?;have g2:=a;have VP:=f.2.2.2.2 g2;refine .bind (wb hc _ w.2 f.1 o? o?) λy e=>?_;refine .tI ?_ ?_<;>intro a;exact last _ _ _ e.1 (by have g:=a;have:=e.2.2.2.1 g;omega) o?;have g3:=a;have hy1:=e.2.2.2.2 g3;refine .bind (wb hc _ y.2 e.1 o? o?) λz d=>?_;refine .tI ?_ ?_<;>intro a;have g4:=a;have m:=d.2.2.2.1 g4;refine .bind (KH hc z.2 d.1 o? o?) λn hn=>?_;refine .tI ?_ ?_<;>intro a;exact .ret ⟨hn.2.2.1,z?⟩;refine .bind (wb hc _ n.2.2 hn.2.2.1 o? o?) λk j=>?_;refine .tI ?_ ?_<;>intro a;refine .bind (eM hc k.2 j.1 o?) λs hs=>?_;refine .tI ?_ ?_<;>intro a;refine .bind (KH hc k.2 j.1 o? o?) λq o=>?_;refine .tI ?_ ?_<;>intro a;exact .ret ⟨o.2.2.1,z?⟩;refine .bind (wb hc _ q.2.2 o.2.2.1 o? o?) λp c=>?_;refine .tI ?_ ?_<;>intro a;exact .ret ⟨c.1,z?⟩;exact last _ _ _ c.1 o? o?;refine .bind (wb hc _ k.2 j.1 o? o?) λp c=>?_;refine .tI ?_ ?_<;>intro a;exact .ret ⟨c.1,z?⟩;exact last _ _ _ c.1 o? o?;refine .bind (wb hc _ k.2 j.1 o? o?) λp c=>?_;refine .tI ?_ ?_<;>intro a;exact .ret ⟨c.1,z?⟩;exact last _ _ _ c.1 o? o?;have g4:=a;have m:=d.2.2.2.2 g4;exact .ret ⟨d.1,λ_=>⟨u?,u?,u?⟩⟩
end
end Go.Proofs.YtadahlbndbmdeaaGreat
