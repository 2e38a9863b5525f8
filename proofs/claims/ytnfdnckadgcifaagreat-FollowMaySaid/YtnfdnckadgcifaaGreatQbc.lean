/-
  A regular expression, read from a text.
-/
import Derived.Test.YtnfdnckadgcifaaGreatQbb
open Go.IntKind renaming i64->q?
open Int renaming toNat_natCast->X?,le_refl->v!
open List renaming map->w?,length_cons->b?,mem_append->p?,getElem?_append_left->t?,length_append->s?,mem_singleton->c?,map_cons->d?,length_nil->f?,getElem?_cons_zero->a?,replicate->e?,getElem?_cons_succ->i?,getElem?_append_right->J?,mem_cons->U?,mem_map->G?,length_pos_iff->M?,nil_append->L?,map_nil->z!,pairwise_cons->w!,pairwise_append->t!,ne_nil_of_length_pos->S!,eq_nil_of_length_eq_zero->q_,map_append->z_,take_append_drop->a_
open Nat renaming strongRecOn->r?,add_zero->d!
set_option linter.unusedSimpArgs false
set_option linter.unusedVariables false
namespace Go.Proofs.YtnfdnckadgcifaaGreat
open Go Go.Gm
namespace Xr
abbrev NI(e:qz)(sd:List Int):=mm e.span.qO e.span.to e.text.length (Zd sd)
def core(x:qt):Int×Bool×Bool×zo×Sl qa:=(x.n,x.first,x.qQ,x.qU,x.opts)
theorem J7(i:qu)(is:List qu)(a:Nat):zA (i::is) (a+1)=1+i.stops.l.length+zA is a:=by simp[zA]
theorem row_at: ∀(is:List qu)(b a:Nat)(i:qu),is[a]? =some i-> ∀r,r<1+i.stops.l.length->(bt b is)[zA is a+r]? =(aB (b+zA is a) i)[r]? :=by intro is;induction is with|nil=>intro b a i h;simp at h|cons i0 is ih=>intro b a i h r hr;have hL:=iK b i0;cases a with|zero=>(simp only[a?,wd]at h;subst h;have:zA (i0::is) 0=0:=by simp[zA]);rw[this,bt,Nat.zero_add,t? o?,d!]|succ a=>simp only[i?]at h;rw[J7,bt,J? o?,hL,show 1+i0.stops.l.length+zA is a+r-(1+i0.stops.l.length)=zA is a+r by omega,ih (b+1+i0.stops.l.length) a i h r hr];rw[show b+1+i0.stops.l.length+zA is a=b+(1+i0.stops.l.length+zA is a) by omega]
section
variable (e:qz) (n:Int) (he:bU e n) (mark:Bool) (sd:List Int) (s:qc) (l7:qc) (cur:Int)
include he in
theorem shift_L0(hs:jH s)(hm:dv s.insts.l n)(hsd:sd.length<=2^30)
  (OU: ∀(b0:Nat)(i:qu),i∈s.insts.l->(∀ r x,(aB b0 i)[r]? =some x->(bt 0 s.insts.l)[b0+r]? =some x)-> ∀(k:Nat)(x:qt),i.stops.l[k]? =some x-> -1<=x.up/\ ∀p:Nat,x.up=p->p<k/\(Zd sd (b0+1+k)≠1->Zd sd (b0+1+p)≠1))
  (fl:Sl (Sl Int)) (ZN:dc s.insts.l fl):
  ∀(r:List qu)(a b0:Nat)(flags:Sl (Sl Int))(out:List qu),s.insts.l.drop a=r->(∀ q x,(bt b0 r)[q]? =some x->(bt 0 s.insts.l)[b0+q]? =some x)->b0+(bt b0 r).length=sd.length->dc out flags->out.length<=a->
  ∃H4,vO (mark,⟨false,sd⟩,(b0:Int),(a:Int),fl,s,e,l7,cur,flags,out)=some (fl,H4,out++NI e sd b0 r)/\dc (out++NI e sd b0 r) H4:=by
 intro r;have mF:=hs.1;induction r with
  |nil=>intro a b0 flags out h _ _ hF _;have:=zt h;rw[vO.eq_1,if_neg v?];exact⟨flags,by simp[mm],by simpa[mm]using hF⟩
  |cons i r ih=>
   (intro a b0 flags out h ep hlen hF ho;obtain⟨h1,h2,h3⟩:=zH h;have sI:=zc h1;have hi:=hs.2 i sI;have hmi:=hm.may a i h1;have hrg:=hmi.Xk;have hL:=iK b0 i;have jZ:s.insts.l≠[]:=fun c=>by rw[c]at h3;simp at h3);(have hr1: ∀q x,(aB b0 i)[q]? =some x->(bt 0 s.insts.l)[b0+q]? =some x:=by intro q x hx;have hq:=(qL hx).1;exact ep q x (by rw[bt,t? o?];exact hx));(have hr2: ∀q x,(bt (b0+1+i.stops.l.length) r)[q]? =some x->(bt 0 s.insts.l)[b0+1+i.stops.l.length+q]? =some x:=by intro q x hx;have:=ep (1+i.stops.l.length+q) x (by rw[bt,J? o?,hL,show 1+i.stops.l.length+q-(1+i.stops.l.length)=q by omega];exact hx);rwa[show b0+(1+i.stops.l.length+q)=b0+1+i.stops.l.length+q by omega]at this);(have OO:b0+1+i.stops.l.length+(bt (b0+1+i.stops.l.length) r).length=sd.length:=by rw[bt,s?,hL]at hlen;omega);(obtain⟨sv,hsv⟩:=gl (l:=sd) (k:=b0) o?;have OY:Zd sd b0=sv:=by simp[Zd,hsv]);obtain⟨f0,hf0⟩:=gl (l:=fl.l) (k:=a) (by rw[ZN.len];omega);obtain⟨k1,k2,k3⟩:=ZN.each a i f0 h1 hf0;rw[vO.eq_1,if_pos v?,gi h1];simp only[zP,qV];rw[gi hsv];simp only[qV];rw[NB e n he i.span hrg.1 hrg.2.1 hrg.2.2 sv];simp only[qV];rw[if_pos z?,if_pos (qH v? o?),ws (k:=b0) o?,ws (k:=a) o?];have dm: ∀x∈i.stops.l,0<=x.span.qO/\x.span.qO<=x.span.to/\x.span.to<=n:=by intro x hx;obtain⟨k,hk⟩:=jI hx;have:=hmi.inside k x hk;have:=hmi.le k x hk;omega
   obtain⟨pl',f',g1,g2,g3⟩:=shift_L2 e n he mark sd s l7 cur flags out (Tt e.span.qO e.span.to e.text.length sv i.span).qO (Tt e.span.qO e.span.to e.text.length sv i.span).to a b0 (sv != 1) i h1 o? hsd hi dm (OU b0 i sI hr1) f0 k1 k2 k3
    i.stops.l 0 fl (e? i.stops.l.length 0) [] [] rfl o? hf0 (ZN.nn jZ) z? (fun j hj=>o?) (by simp[Qd]) z? z? z?
   simp only[X?];rw[show ((b0+1+0:Nat):Int)=((b0+1:Nat):Int)from rfl,show((0:Nat):Int)=0 from rfl]at g1;rw[g1];simp only[qV];by_cases c1:sv=1;(rw[if_neg (by simpa using c1)];have e1:NI e sd b0 (i::r)=NI e sd (b0+1+i.stops.l.length) r:=by show mm _ _ _ _ _ (i::r)=_;rw[mm,if_pos (by rw[OY];exact c1)]);rw[e1];exact ih (a+1) (b0+1+i.stops.l.length) flags out h2 hr2 OO hF o?;(rw[if_pos (by simpa using c1),if_pos qH,if_pos (qH (by have:=hF.len;omega) o?)];have e1:NI e sd b0 (i::r)=XQ e.span.qO e.span.to e.text.length (Zd sd) b0 i::NI e sd (b0+1+i.stops.l.length) r:=by show mm _ _ _ _ _ (i::r)=_;rw[mm,if_neg (by rw[OY];exact c1)]);have e2:qu.mk (Tt e.span.qO e.span.to e.text.length sv i.span) (⟨([]++NS e sd (b0+1) 0 i.stops.l).isEmpty,[]++NS e sd (b0+1) 0 i.stops.l⟩:Sl qt)=XQ e.span.qO e.span.to e.text.length (Zd sd) b0 i:=by unfold XQ;rw[OY,L?]
   rw[e2,e1];obtain⟨H4,q1,q2⟩:=ih (a+1) (b0+1+i.stops.l.length) ⟨false,flags.l++[⟨f'.isEmpty,f'⟩]⟩ (out++[XQ e.span.qO e.span.to e.text.length (Zd sd) b0 i]) h2 hr2 OO (by
    refine⟨by simp[hF.len],fun _=>rfl, ?_⟩
    intro a' i' f'' uj F7
    by_cases c:a' <out.length
    ·rw[t? c]at uj
     rw[t? (by rw[hF.len];exact c)]at F7
     exact hF.each a' i' f'' uj F7
    rw[J? o?]at uj
    rw[J? (by have:=hF.len;simp only at *; omega)]at F7
    have hz:a' -out.length=0:=by
     have:=(qL uj).1
     simp at this
     omega
    rw[hz]at uj
    rw[hF.len,hz]at F7
    simp only[a?,wd]at uj F7
    subst uj F7
    have T1:f'.length=(NS e sd (b0+1) 0 i.stops.l).length:=by simpa using g2
    refine⟨T1,fun c=>?_,g3⟩
    have:(NS e sd (b0+1) 0 i.stops.l)≠[]:=c
    cases Hf:f' with
    |nil=>
     rw[Hf]at T1
     exact absurd (List.length_eq_zero_iff.1 T1.symm) this
    |cons _ _=>rfl) v?
   refine⟨H4,by rw[q1];simp,by simpa using q2⟩
theorem FE(a b c:Int)(sF:Nat->Int): ∀(is:List qu)(b0:Nat),(∀ k i,is[k]? =some i->sF (b0+zA is k)≠1)->(mm a b c sF b0 is).length=is.length:=by
 intro is;induction is with
 |nil=>intro b0 _;rfl
 |cons i is ih=>
  intro b0 h;have h0:=h 0 i rfl;rw[show zA (i::is) 0=0 by simp[zA],d!]at h0;rw[mm,if_neg h0,b?,b?,ih (b0+1+i.stops.l.length) (fun k j hj=>by
   have:=h (k+1) j (by simpa using hj)
   rw[J7]at this
   rwa[show b0+1+i.stops.l.length+zA is k=b0+(1+i.stops.l.length+zA is k) by omega])]
theorem Tq(a b c:Int)(sF:Nat->Int){l:List Qo}(is:List qu)(b0:Nat)(hl: ∀(r:Nat)(x:Qo),(bt b0 is)[r]? =some x->l[b0+r]? =some x): ∀y∈mm a b c sF b0 is,∃ i∈is,y.stops.l.length<=i.stops.l.length/\ ∀z∈y.stops.l,∃ x∈i.stops.l,core z=core x:=by intro y hy;obtain⟨j,hj⟩:=jI hy;obtain⟨k,i,b1,h1,_,_,rfl,_⟩:=XR is b0 hl j y hj;refine⟨i,zc h1,FG _ _ _,fun z hz=>?_⟩;obtain⟨x,hx,k,rfl⟩:=FH _ _ _ z hz;exact⟨x,hx,rfl⟩
theorem q00(a b c:Int)(sF:Nat->Int): ∀(is:List qu)(b0:Nat),(mm a b c sF b0 is).length<=is.length:=by intro is;induction is with|nil=>intro b0;simp[mm]|cons i is ih=>intro b0;have:=ih (b0+1+i.stops.l.length);rw[mm];split<;>simp<;>omega
structure UE (e:qz) (n:Int) (s:qc) (a:Int) (s' :qc) (flags:Sl (Sl Int)):Prop where
 cur:s'.cur=s.cur
 may:dv s'.insts.l (n+(e.text.length-(e.span.to-e.span.qO)))
 fl:dc s'.insts.l flags
 len:s'.insts.l.length<=s.insts.l.length
 core: ∀y∈s'.insts.l,∃ i∈s.insts.l,y.stops.l.length<=i.stops.l.length/\ ∀z∈y.stops.l,∃ x∈i.stops.l,core z=core x
 all:a≠ -1->s'.insts.l.length=s.insts.l.length
structure ShX (e:qz) (n:Int) (s:qc) (deep:Bool) (a k:Int) (L:List TS) (h:List Bool) (sd:List Int) (last o:Int):Prop where
 rows:L.map strOf=bt 0 s.insts.l
 row:Is L n
 hl:h.length=L.length
 sl:sd.length=L.length
 small:L.length<=2^25
 hold:GZ (L.map strOf).length (FL L) (TL L) (UL L) (fun y=>h[y]? =some true) e.span.qO e.span.to
 side:Side (L.map strOf).length (FL L) (TL L) (UL L) (fun y=>h[y]? =some true) e.span.qO e.span.to last (Zd sd)
 own:(a= -1/\k= -1/\o= -1/\ ∀y:Nat,h[y]? ≠some true)\/ ∃(a' k' :Nat)(i:qu)(x:qt),a=a' /\k=k' /\o=((zA s.insts.l a' +1+k' :Nat):Int)/\s.insts.l[a']? =some i/\i.stops.l[k']? =some x/\xx e.span x.span
 has: ∀o' :Nat,o=o' ->h[o']? =some true
 ex:deep=true-> ∀o' :Nat,o=o' ->HE L.length (FL L) (TL L) (UL L) e.span.qO e.span.to o' (fun y=>h[y]? =some true)
theorem at_S{L:List TS}(Sm:L.map strOf=bt 0 s.insts.l): ∀(a' k' :Nat)(i:qu)(x:qt),s.insts.l[a']? =some i->i.stops.l[k']? =some x->zA s.insts.l a' +1+k' <L.length/\FL L (zA s.insts.l a' +1+k')=x.span.qO/\TL L (zA s.insts.l a' +1+k')=x.span.to/\UL L (zA s.insts.l a' +1+k')=zA s.insts.l a' +1+x.up:=by intro a' k' i x h1 h2;have pd:=(qL h2).1;have h3:=row_at s.insts.l 0 a' i h1 (k' +1) o?;rw[show (aB (0+zA s.insts.l a') i)[k' +1]? =some (x.span.qO,x.span.to,((0+zA s.insts.l a' :Nat):Int)+1+x.up) by simp[aB,h2],<- Sm]at h3;rw[show zA s.insts.l a' +1+k' =zA s.insts.l a' +(k' +1) by omega];have h4:=eC h3;exact⟨by have:=(qL h3).1;simpa using this,h4.1,h4.2.1,by show Dd _ _=_;rw[h4.2.2];simp⟩
theorem at_I{L:List TS}(Sm:L.map strOf=bt 0 s.insts.l): ∀(j:Nat)(y:qu),s.insts.l[j]? =some y->zA s.insts.l j<L.length/\FL L (zA s.insts.l j)=y.span.qO/\TL L (zA s.insts.l j)=y.span.to/\UL L (zA s.insts.l j)= -1:=by intro j y hy;have h3:=row_at s.insts.l 0 j y hy 0 o?;rw[show (aB (0+zA s.insts.l j) y)[0]? =some (y.span.qO,y.span.to,-1) by simp[aB],<- Sm,d!]at h3;have h4:=eC h3;exact⟨by have:=(qL h3).1;simpa using this,h4.1,h4.2.1,h4.2.2⟩
include he in
theorem shift_ex(hs:jH s)(hm:dv s.insts.l n)(deep:Bool)(qo:qk)(F4:xx e.span qo)(a k:Int)(ho:(a= -1/\k= -1)\/Kx s qo a k\/ ∃(a' k' :Nat)(i:qu)(x:qt),a=a' /\k=k' /\s.insts.l[a']? =some i/\i.stops.l[k']? =some x/\xx e.span x.span)(fl:Sl (Sl Int))(ZN:dc s.insts.l fl):
  ∃L h sd last o flags,yX s a k e deep mark fl=some (⟨s.cur,⟨(NI e sd 0 s.insts.l).isEmpty,NI e sd 0 s.insts.l⟩⟩,fl,flags)/\ShX e n s deep a k L h sd last o/\dc (NI e sd 0 s.insts.l) flags:=by
 have eH:=he.ab;have hms: ∀i∈s.insts.l,∀ x∈i.stops.l,-1<=x.up/\x.up<=2^20:=by intro i hi x hx;obtain⟨a,ha⟩:=jI hi;obtain⟨k,hk⟩:=jI hx;have h1:=(hm.may a i ha).up k x hk;have h2:=(qL hk).1;have h3:=hs.2 i hi;omega
 obtain⟨L,hL1,Sm⟩:=row_ok s hs hms;have hB:=rowS_ok n s.insts.l 0 0 hm (fun a i hi=>(hm.may a i hi).Xk.1);have hR:Is L n:=by have:=hB.row;rw[<- Sm]at this;exact this
 have h4:=Qc hs.2;have h5:s.insts.l.length*2^12<=2^12*2^12:=Nat.mul_le_mul hs.1 (ju _);have mF:=hs.1;have rl: ∀(is:List qu)(b:Nat),(bt b is).length=is.length+many is:=by intro is;induction is with|nil=>intro b;simp[bt,many]|cons i is ih=>intro b;have:=iK b i;have:=ih (b+1+i.stops.l.length);simp only[bt,many,List.length_append,List.map_cons,List.sum_cons,List.length_cons]at*;omega
 have hLn:L.length=s.insts.l.length+many s.insts.l:=by rw[<- rl s.insts.l 0,<- Sm];simp
 have N8: ∃o:Int,mQ s a k=some o/\((a= -1/\k= -1/\o= -1)\/ ∃(a' k' :Nat)(i:qu)(x:qt),a=a' /\k=k' /\o=((zA s.insts.l a' +1+k' :Nat):Int)/\s.insts.l[a']? =some i/\i.stops.l[k']? =some x/\xx e.span x.span):=by
  rcases ho with ⟨rfl,rfl⟩|ho|⟨a',k',i,x,rfl,rfl,h1,h2,h3⟩;obtain⟨o,g1,g2⟩:=NO s hs qo (-1) (-1) (.inl ⟨rfl,rfl⟩);refine⟨o,g1, ?_⟩;rcases g2 with g2|⟨a',k',g2,_⟩;exact .inl ⟨g2.1,rfl,g2.2⟩;omega;obtain⟨o,g1,g2⟩:=NO s hs qo a k (.inr ho);refine⟨o,g1, ?_⟩;obtain⟨a',k',i,x,rfl,rfl,h1,h2,_,_,h3⟩:=ho;rcases g2 with ⟨g2,_⟩|⟨a'',k'',g2,g3,g4⟩;omega;obtain rfl:a' =a'' :=o?;obtain rfl:k' =k'' :=o?;refine .inr ⟨a',k',i,x,rfl,rfl,g4,h1,h2, ?_⟩;unfold xx at*;omega;have h7:Kx ⟨x.n,s.insts⟩ x.span a' k' \/x.qQ=true:=by cases ht:x.qQ with|true=>exact .inr rfl|false=>exact .inl ⟨a',k',i,x,rfl,rfl,h1,h2,rfl,ht,by unfold xx;omega⟩
  have YD:=(qL h1).1;have pd:=(qL h2).1;have Fj:=hs.2 i (zc h1);refine⟨((zA s.insts.l a' +1+k' :Nat):Int), ?_,.inr ⟨a',k',i,x,rfl,rfl,rfl,h1,h2,h3⟩⟩;unfold mQ;rw[if_neg v?,gi h1];simp only[zP,qV];rw[if_neg v?,ws o?,show(0:Int)=((0:Nat):Int)from rfl,NN s hs a' o? a' 0 (k' +1) o? (by
   have:a' *(2^12+1)<=2^12*(2^12+1):=Nat.mul_le_mul o? (ju _)
   omega)]
  (have:zA s.insts.l 0=0:=by simp[zA]);rw[this,show k' +1+(zA s.insts.l a' -0)=zA s.insts.l a' +1+k' by omega];rfl
 obtain⟨o,ho1,ho2⟩:=N8;have at_o:=at_S s Sm;obtain⟨h,hh1,hh2,hh3,hh4,hh5,hh6⟩:=hold_ok L e hR o? he L.isEmpty deep o (by
  rcases ho2 with ⟨_,_,rfl⟩|⟨a',k',i,x,_,_,rfl,h1,h2,h3⟩
  ·exact .inl rfl
  obtain⟨q1,q2,q3,_⟩:=at_o a' k' i x h1 h2
  refine .inr ⟨_,rfl,q1, ?_⟩
  unfold xx at h3
  omega)
 obtain⟨sd,last,hd1,F6,hd3⟩:=sides_ok L e hR L.isEmpty h hh2 o?;have OU: ∀(b0:Nat)(i:qu),i∈s.insts.l->(∀ r x,(aB b0 i)[r]? =some x->(bt 0 s.insts.l)[b0+r]? =some x)-> ∀(k:Nat)(x:qt),i.stops.l[k]? =some x-> -1<=x.up/\ ∀p:Nat,x.up=p->p<k/\(Zd sd (b0+1+k)≠1->Zd sd (b0+1+p)≠1):=by intro b0 i hi ep k x hx;obtain⟨a',ha'⟩:=jI hi;have hu:=(hm.may a' i ha').up k x hx;refine⟨hu.1,fun p hp=>⟨o?,fun jZ=>?_⟩⟩;have h3:=ep (k+1) (x.span.qO,x.span.to,b0+1+x.up) (by simp[aB,hx]);rw[<- Sm,show b0+(k+1)=b0+1+k by omega]at h3;have h4:=eC h3;have h5:=(qL h3).1;exact dW hR hh3 hd3 h5 jZ (p:=b0+1+p) (by show Dd _ _=_;rw[h4.2.2];simp only;omega)
 have hz:dc [] ⟨true,[]⟩:=⟨rfl,fun c=>absurd rfl c,fun a i f hi=>by simp at hi⟩;obtain⟨flags,hs5,hs6⟩:=shift_L0 e n he mark sd s (qc.mk 0 ⟨true,[]⟩) s.cur hs hm o? OU fl ZN s.insts.l 0 0 ⟨true,[]⟩ [] rfl (fun q x hx=>by rw[Nat.zero_add];exact hx) (by rw[rl];omega) hz z?;refine⟨L,h,sd,last,o,flags, ?_,⟨Sm,hR,hh2,F6,o?,hh3,hd3, ?_,hh4,hh6⟩,by simpa using hs6⟩;unfold yX;simp only[hL1,ho1,hh1,hd1,zP,qV];rw[show ((0:Nat):Int)=0 from rfl]at hs5;rw[hs5];simp;exact ho2.imp (fun h=>⟨h.1,h.2.1,h.2.2,hh5 h.2.2⟩) id
include he in
theorem shift_ok(hs:jH s)(hm:dv s.insts.l n)(deep:Bool)(qo:qk)(F4:xx e.span qo)(a k:Int)(ho:(a= -1/\k= -1)\/Kx s qo a k\/ ∃(a' k' :Nat)(i:qu)(x:qt),a=a' /\k=k' /\s.insts.l[a']? =some i/\i.stops.l[k']? =some x/\xx e.span x.span)(fl:Sl (Sl Int))(ZN:dc s.insts.l fl):
  ∃s' flags,yX s a k e deep mark fl=some (s',fl,flags)/\UE e n s a s' flags:=by
 have eH:=he.ab;obtain⟨L,h,sd,last,o,flags,h1,X,hs6⟩:=shift_ex e n he mark s hs hm deep qo F4 a k ho fl ZN;refine⟨_,flags,h1, ?_⟩;have Sm:=X.rows;have hR:=X.row;have hh3:=X.hold;have hd3:=X.side;refine⟨rfl, ?_,hs6,q00 _ _ _ _ _ _, ?_, ?_⟩;have:=FF (c:=(e.text.length:Int)) hR hh3 hd3 he.a0 eH he.bn (Int.natCast_nonneg _) Sm hm;exact this;exact Tq _ _ _ _ s.insts.l 0 (l:=bt 0 s.insts.l) (fun r x hx=>by rw[Nat.zero_add];exact hx);intro hna;refine FE _ _ _ _ s.insts.l 0 fun j y hy=>?_;rw[Nat.zero_add];intro OH;rcases X.own with ⟨h7,_⟩|⟨a',k',i,x,h6,_,h7,h8,h9,h10⟩;exact hna h7;have Fm:=(hm.may a' i h8).inside k' x h9;have hxl:=(hm.may a' i h8).le k' x h9;obtain⟨r1',r2,r3,r4⟩:=at_I s Sm j y hy;have r1:zA s.insts.l j<(L.map strOf).length:=by simpa using r1'
 have hnoH: ¬h[zA s.insts.l j]? =some true:=fun c=>by have:=hd3.holds _ r1 c;have h11:sd.getD (zA s.insts.l j) 0=1:=OH;omega
 have hyr:=(hm.may j y hy).Xk;rcases mV hR hd3 r1 with ⟨c,_⟩|⟨c,c2⟩|⟨c,c2⟩|⟨c,c2⟩;exact hnoH c;by_cases cut:y.span.qO<e.span.to/\e.span.qO<y.span.to;unfold xx at h10;rcases Nat.lt_trichotomy j a' with q|q|q;have:=hm.Rk j a' y i q hy h8;omega;(subst q;rw[hy]at h8;cases h8;have Eh:=X.has _ h7;obtain⟨q1,_,_,_⟩:=at_S s Sm j k' y x hy h9;have Xj:eL (UL L) (zA s.insts.l j+1+k') (zA s.insts.l j):=by (have gen: ∀(k:Nat)(x:qt),y.stops.l[k]? =some x->eL (UL L) (zA s.insts.l j+1+k) (zA s.insts.l j):=by intro k;induction k using Nat.strongRecOn with|_ k ih=>intro x hx;have hu:=(hm.may j y hy).up k x hx;have pd:=(qL hx).1;have h4:=(at_S s Sm j k y x hy hx).2.2.2;by_cases c:x.up= -1;exact .up _ _ .self o?;obtain⟨p,hp⟩: ∃p:Nat,x.up=p:=⟨x.up.toNat,o?⟩;have dg:y.stops.l[p]? =some y.stops.l[p]:=wK o?;exact Ym (p:=zA s.insts.l j+1+p) o? (ih p o? _ dg));exact gen k' x h9);(have: ∀q,eL (UL L) (zA s.insts.l j+1+k') q->q<(L.map strOf).length/\h[q]? =some true:=by intro q hq;induction hq with|self=>exact⟨by simpa using q1,Eh⟩|up x p _ hp ih=>have:=hR.up x ih.1;exact⟨o?,hh3.up x ih.1 ih.2 p hp⟩);exact hnoH (this _ Xj).2;have:=hm.Rk a' j i y q h8 hy;omega;by_cases z:TL L (zA s.insts.l j)<e.span.qO\/TL L (zA s.insts.l j)=e.span.qO/\(FL L (zA s.insts.l j)<TL L (zA s.insts.l j)\/((zA s.insts.l j:Nat):Int)<last\/last<0);have:=hd3.left _ r1 c (fun p hp=>o?) (by rw[r2,r3];exact cut) z;omega;have:=hd3.right _ r1 c (fun p hp=>o?) (by rw[r2,r3];exact cut) z;omega;have h11:sd.getD (zA s.insts.l j) 0=1:=OH;omega;have h11:sd.getD (zA s.insts.l j) 0=1:=OH;omega
end
end Xr
namespace Xr
def sq(a b:qk):Prop:=a.qO<b.qO\/a.qO=b.qO/\a.to<b.to
instance(a b:qk):Decidable (sq a b):=by unfold sq;infer_instance
theorem Hq(a b:qk):sY a b=some (decide (sq a b)):=by unfold sY sq;by_cases h:a.qO<b.qO;simp[h];by_cases h2:a.qO=b.qO<;>simp[h,h2]
section
variable {α:Type} (key:α->qk)
def pos(x:α)(s:List α):Nat->Nat
 |0=>0
 |k+1=>match s[k]? with
  |some y=>if sq (key x) (key y)then pos x s k else k+1
  |none=>k+1
def sK(s:List α)(x:α):List α:=s.take (pos key x s s.length)++x::s.drop (pos key x s s.length)
def jr(s r:List α):List α:=r.foldl (sK key) s
theorem HM(x:α)(s:List α): ∀k,pos key x s k<=k:=by intro k;induction k with|zero=>simp[pos]|succ k ih=>rw[pos];split;split<;>omega;omega
def Hm(a b:α):Prop:= ¬sq (key b) (key a)
theorem pos_spec(x:α)(s:List α): ∀k,k<=s.length->(∀ j y,pos key x s k<=j->j<k->s[j]? =some y->sq (key x) (key y))/\(∀ y,0<pos key x s k->s[pos key x s k-1]? =some y-> ¬sq (key x) (key y)):=by intro k;induction k with|zero=>intro _;exact⟨fun j y h1 h2=>o?,fun y h=>by simp[pos]at h⟩|succ k ih=>intro hk;obtain⟨y,hy⟩:=gl (l:=s) (k:=k) o?;rw[pos,hy];simp only;split;rename_i c;obtain⟨h1,h2⟩:=ih o?;refine⟨fun j z hj Vr hz=>?_,h2⟩;by_cases e:j=k;subst e;rw[hy]at hz;cases hz;exact c;exact h1 j z hj o? hz;rename_i c;refine⟨fun j z hj Vr=>o?,fun z _ hz=>?_⟩;rw[Nat.add_sub_cancel,hy]at hz;cases hz;exact c
theorem YH(s:List α)(x:α):(sK key s x).Perm (s++[x]):=by unfold sK;refine(List.perm_middle).trans ?_;rw[a_];exact(List.perm_append_singleton x s).symm
theorem tY: ∀(r s:List α),(jr key s r).Perm (s++r):=by intro r;induction r with|nil=>intro s;simp[jr]|cons x r ih=>intro s;have:=ih (sK key s x);simp only[jr,List.foldl_cons]at this |-;refine this.trans ?_;have h1:=(YH key s x).append_right r;simpa using h1
theorem YM{a b c:α}(h1:Hm key a b)(h2:Hm key b c):Hm key a c:=by unfold Hm sq at*;omega
theorem Nc{s:List α}(x:α)(h:s.Pairwise (Hm key)):(sK key s x).Pairwise (Hm key):=by
 obtain⟨h1,h2⟩:=pos_spec key x s s.length (ju _);have hp:=HM key x s s.length;unfold sK;generalize pos key x s s.length=p at*;have ht: ∀a∈s.take p,Hm key a x:=by intro a ha;by_cases hp0:0<p;(obtain⟨y,hy⟩:=gl (l:=s) (k:=p-1) o?;have hyx:=h2 y hp0 hy;obtain⟨j,hj⟩:=jI ha;have hjp:j<p:=by have:=(qL hj).1;simp at this;omega);rw[List.getElem?_take_of_lt hjp]at hj;by_cases e:j=p-1;subst e;rw[hy]at hj;cases hj;exact hyx;have:=List.pairwise_iff_getElem.1 h j (p-1) o? o? o?;rw[wK o?]at hj hy;cases hj;cases hy;exact YM key this hyx;have:p=0:=o?;subst this;simp at ha
 have hd: ∀b∈s.drop p,Hm key x b:=by intro b hb;obtain⟨j,hj⟩:=jI hb;rw[List.getElem?_drop]at hj;have:=h1 (p+j) b o? (qL hj).1 hj;unfold Hm;unfold sq at*;omega
 rw[t!];refine⟨h.sublist (List.take_sublist _ _),w!.2 ⟨hd,h.sublist (List.drop_sublist _ _)⟩,fun a ha b hb=>?_⟩;rcases U?.1 hb with rfl|hb;exact ht a ha;exact YM key (ht a ha) (hd b hb)
theorem Y0: ∀(r s:List α),s.Pairwise (Hm key)->(jr key s r).Pairwise (Hm key):=by intro r;induction r with|nil=>intro s h;exact h|cons x r ih=>intro s h;exact ih _ (Nc key x h)
theorem Lg(s:List α)(x:α)(h: ∀y∈s,¬ sq (key x) (key y)):sK key s x=s++[x]:=by
 have:pos key x s s.length=s.length:=by cases hs:s.length with|zero=>simp[pos]|succ k=>obtain⟨y,hy⟩:=gl (l:=s) (k:=k) o?;rw[pos,hy];simp only;rw[if_neg (h y (zc hy))]
 unfold sK;rw[this];simp
theorem YI: ∀(r s:List α),(s++r).Pairwise (Hm key)->jr key s r=s++r:=by intro r;induction r with|nil=>intro s _;simp[jr]|cons x r ih=>intro s h;have h1: ∀y∈s,¬ sq (key x) (key y):=fun y hy=>(t!.1 h).2.2 y hy x z?;show jr key (sK key s x) r=_;rw[Lg key s x h1,ih (s++[x]) (by simpa using h)];simp
end
def vq(s:qm):qk:=⟨if s.head<s.anchor then s.head else s.anchor,if s.head>s.anchor then s.head else s.anchor⟩
theorem JD(s:qm):uf s=some (vq s):=rfl
theorem cj(s:qm):(vq s).qO<=(vq s).to:=by unfold vq;simp only;split<;>split<;>omega
theorem LL(l s:Sl qm)(i:Nat)(x:qm)(hx:l.l[i]? =some x): ∀k,k<=s.l.length->k<2^60->bh (l,s,(i:Int),(k:Int))=some ((pos vq x s.l k:Nat):Int):=by intro k;induction k with|zero=>intro _ _;rw[bh.eq_1,if_neg z?];rfl|succ k ih=>intro hk hb;obtain⟨y,hy⟩:=gl (l:=s.l) (k:=k) o?;rw[bh.eq_1,if_pos (by simp<;>omega),gi hx,show q?.wrap (((k+1:Nat):Int)-1)=(k:Int)from by rw[qB o? o?];omega,gi hy,pos,hy];simp only[zP,qV,JD,Hq];by_cases c:sq (vq x) (vq y);rw[if_pos (by simpa using c),if_pos c];exact ih o? o?;rw[if_neg (by simpa using c),if_neg c]
theorem sort6_L2(l s:Sl qz)(i:Nat)(x:qz)(hx:l.l[i]? =some x): ∀k,k<=s.l.length->k<2^60->nE (l,s,(i:Int),(k:Int))=some ((pos (·.span) x s.l k:Nat):Int):=by intro k;induction k with|zero=>intro _ _;rw[nE.eq_1,if_neg z?];rfl|succ k ih=>intro hk hb;obtain⟨y,hy⟩:=gl (l:=s.l) (k:=k) o?;rw[nE.eq_1,if_pos (by simp<;>omega),gi hx,show q?.wrap (((k+1:Nat):Int)-1)=(k:Int)from by rw[qB o? o?];omega,gi hy,pos,hy];simp only[zP,qV,Hq];by_cases c:sq x.span y.span;rw[if_pos (by simpa using c),if_pos c];exact ih o? o?;rw[if_neg (by simpa using c),if_neg c]
theorem sort5_L2(l s:Sl qk)(i:Nat)(x:qk)(hx:l.l[i]? =some x): ∀k,k<=s.l.length->k<2^60->nC (l,s,(i:Int),(k:Int))=some ((pos id x s.l k:Nat):Int):=by intro k;induction k with|zero=>intro _ _;rw[nC.eq_1,if_neg z?];rfl|succ k ih=>intro hk hb;obtain⟨y,hy⟩:=gl (l:=s.l) (k:=k) o?;rw[nC.eq_1,if_pos (by simp<;>omega),gi hx,show q?.wrap (((k+1:Nat):Int)-1)=(k:Int)from by rw[qB o? o?];omega,gi hy,pos,hy];simp only[zP,qV,Hq];by_cases c:sq (id x) (id y);rw[if_pos (by simpa using c),if_pos c];exact ih o? o?;rw[if_neg (by simpa using c),if_neg c]
theorem JO{α:Type}(s:List α)(p:Nat)(h:p<=s.length):we s (p:Int)=some (s.take p):=by obtain⟨r,h1,h2,_⟩:=qM.we (l:=s) (hi:=(p:Int)) o? o?;rw[h1,h2,X?]
theorem Oc{α:Type}(s:List α)(p:Nat)(h:p<=s.length):mj s (p:Int)=some (s.drop p):=by obtain⟨r,h1,h2,_⟩:=qM.mj (l:=s) (lo:=(p:Int)) o? o?;rw[h1,h2,X?]
theorem Wr{α:Type}(key:α->qk)(s:List α)(x:α):(sK key s x).length=s.length+1:=by simpa using(YH key s x).length_eq
theorem LK(l:Sl qm): ∀(r:List qm)(i:Nat)(s:Sl qm),l.l.drop i=r->s.l.length+r.length<=2^20->l.l.length<=2^20->(s.nil=s.l.isEmpty)->
  bg (l,s,(i:Int))=some ⟨(jr vq s.l r).isEmpty,jr vq s.l r⟩:=by
 intro r;induction r with
 |nil=>
  intro i s h _ _ hn;have:=zt h;rw[bg.eq_1,if_neg v?];show some s=some ⟨s.l.isEmpty,s.l⟩;rw[<- hn]
 |cons x r ih=>
  intro i s h hb hl hn;obtain⟨h1,h2,h3⟩:=zH h;simp only[b?]at hb;have hp:=HM vq x s.l s.l.length;rw[bg.eq_1,if_pos v?,LL l s i x h1 s.l.length (ju _) o?];simp only[zP,qV];rw[JO _ _ hp];simp only[qV];rw[if_pos (qH v? o?),gi h1];simp only[qV];rw[if_pos (qH v? o?),Oc _ _ hp];simp only[qV];rw[if_pos (qH v? o?),ws o?];have e:s.l.take (pos vq x s.l s.l.length)++[x]++s.l.drop (pos vq x s.l s.l.length)=sK vq s.l x:=by simp[sK]
  rw[e];have:=Wr vq s.l x;exact ih (i+1) ⟨false,sK vq s.l x⟩ h2 u? hl (by cases h7:sK vq s.l x with
   |nil=>rw[h7]at this;simp at this
   |cons _ _=>rfl)
theorem sort6_L0(l:Sl qz): ∀(r:List qz)(i:Nat)(s:Sl qz),l.l.drop i=r->s.l.length+r.length<=2^20->l.l.length<=2^20->(s.nil=s.l.isEmpty)->
  nD (l,s,(i:Int))=some ⟨(jr (·.span) s.l r).isEmpty,jr (·.span) s.l r⟩:=by
 intro r;induction r with
 |nil=>
  intro i s h _ _ hn;have:=zt h;rw[nD.eq_1,if_neg v?];show some s=some ⟨s.l.isEmpty,s.l⟩;rw[<- hn]
 |cons x r ih=>
  intro i s h hb hl hn;obtain⟨h1,h2,h3⟩:=zH h;simp only[b?]at hb;have hp:=HM (·.span) x s.l s.l.length;rw[nD.eq_1,if_pos v?,sort6_L2 l s i x h1 s.l.length (ju _) o?];simp only[zP,qV];rw[JO _ _ hp];simp only[qV];rw[if_pos (qH v? o?),gi h1];simp only[qV];rw[if_pos (qH v? o?),Oc _ _ hp];simp only[qV];rw[if_pos (qH v? o?),ws o?];have e:s.l.take (pos (·.span) x s.l s.l.length)++[x]++s.l.drop (pos (·.span) x s.l s.l.length)=sK (·.span) s.l x:=by simp[sK]
  rw[e];have:=Wr (·.span) s.l x;exact ih (i+1) ⟨false,sK (·.span) s.l x⟩ h2 u? hl (by cases h7:sK (·.span) s.l x with
   |nil=>rw[h7]at this;simp at this
   |cons _ _=>rfl)
theorem sort5_L0(l:Sl qk): ∀(r:List qk)(i:Nat)(s:Sl qk),l.l.drop i=r->s.l.length+r.length<=2^20->l.l.length<=2^20->(s.nil=s.l.isEmpty)->
  nB (l,s,(i:Int))=some ⟨(jr id s.l r).isEmpty,jr id s.l r⟩:=by
 intro r;induction r with
 |nil=>
  intro i s h _ _ hn;have:=zt h;rw[nB.eq_1,if_neg v?];show some s=some ⟨s.l.isEmpty,s.l⟩;rw[<- hn]
 |cons x r ih=>
  intro i s h hb hl hn;obtain⟨h1,h2,h3⟩:=zH h;simp only[b?]at hb;have hp:=HM id x s.l s.l.length;rw[nB.eq_1,if_pos v?,sort5_L2 l s i x h1 s.l.length (ju _) o?];simp only[zP,qV];rw[JO _ _ hp];simp only[qV];rw[if_pos (qH v? o?),gi h1];simp only[qV];rw[if_pos (qH v? o?),Oc _ _ hp];simp only[qV];rw[if_pos (qH v? o?),ws o?];have e:s.l.take (pos id x s.l s.l.length)++[x]++s.l.drop (pos id x s.l s.l.length)=sK id s.l x:=by simp[sK]
  rw[e];have:=Wr id s.l x;exact ih (i+1) ⟨false,sK id s.l x⟩ h2 u? hl (by cases h7:sK id s.l x with
   |nil=>rw[h7]at this;simp at this
   |cons _ _=>rfl)
theorem Mu(l:Sl qz)(hl:l.l.length<=2^20):dQ l=some ⟨(jr (·.span) [] l.l).isEmpty,jr (·.span) [] l.l⟩:=by unfold dQ;rw[show (0:Int)=((0:Nat):Int)from rfl,sort6_L0 l l.l 0 ⟨true,[]⟩ rfl (by simpa using hl) hl rfl];rfl
theorem Mt(l:Sl qk)(hl:l.l.length<=2^20):dO l=some ⟨(jr id [] l.l).isEmpty,jr id [] l.l⟩:=by unfold dO;rw[show (0:Int)=((0:Nat):Int)from rfl,sort5_L0 l l.l 0 ⟨true,[]⟩ rfl (by simpa using hl) hl rfl];rfl
end Xr
namespace Xr
def iS(a b:qk):Prop:=(if b.qO>a.qO then b.qO else a.qO)<=(if b.to<a.to then b.to else a.to)
instance(a b:qk):Decidable (iS a b):=by unfold iS;infer_instance
def join(y x:qm):qm:=if y.head<y.anchor then⟨if (vq x).to>(vq y).to then(vq x).to else(vq y).to,(vq y).qO⟩else⟨(vq y).qO,if(vq x).to>(vq y).to then(vq x).to else(vq y).to⟩
theorem join_sp(y x:qm):vq (join y x)=⟨(vq y).qO,if(vq x).to>(vq y).to then(vq x).to else(vq y).to⟩:=by
 have hy:=cj y;have hx:=cj x;generalize hY:vq y=Y at*;generalize hX:vq x=X at*;unfold join;rw[hY,hX];have hM:Y.qO<=(if X.to>Y.to then X.to else Y.to):=by split<;>omega
 generalize (if X.to>Y.to then X.to else Y.to)=M at*;unfold vq;by_cases c:y.head<y.anchor;rw[if_pos c];simp only[qk.mk.injEq];constructor;split<;>omega;split<;>omega;rw[if_neg c];simp only[qk.mk.injEq];constructor;split<;>omega;split<;>omega
def eB(out:List qm)(x:qm):List qm:=
 match out.getLast? with
 |some y=>if iS (vq y) (vq x)then out.set (out.length-1) (join y x)else out++[x]
 |none=>out++[x]
def GA(out r:List qm):List qm:=r.foldl eB out
theorem WG(out:List qm)(x:qm):(eB out x).length<=out.length+1/\1<=(eB out x).length:=by unfold eB;split;(rename_i y hy;have:out≠[]:=fun c=>by rw[c]at hy;simp at hy);have:=M?.2 this;split<;>simp<;>omega;simp
theorem LM(s:Sl qm)(hs:s.l.length<=2^20): ∀(r:List qm)(i:Nat)(out:List qm),s.l.drop i=r->out.length<=i->vE (s,(i:Int),out)=some (GA out r):=by intro r;induction r with|nil=>intro i out h _;have:=zt h;rw[vE.eq_1,if_neg v?];rfl|cons x r ih=>intro i out h ho;obtain⟨h1,h2,h3⟩:=zH h;rw[vE.eq_1,if_pos v?];have step:=ih (i+1) (eB out x) h2 (by have:=WG out x;omega);show _=some (GA (eB out x) r);rw[ws o?,<- step];by_cases c:0<out.length;(obtain⟨y,hy⟩:=gl (l:=out) (k:=out.length-1) o?;have hl:out.getLast? =some y:=by rw[List.getLast?_eq_getElem?];exact hy);rw[if_pos v?,show q?.wrap ((out.length:Int)-1)=((out.length-1:Nat):Int)from by rw[qB o? o?];omega,gi hy,gi h1];simp only[zP,qV,JD,sZ,X?];unfold eB;rw[hl];simp only;by_cases t:iS (vq y) (vq x);have t' :=t;unfold iS at t';rw[if_pos (by simpa using t'),if_pos t];unfold Kq join;by_cases d:y.head<y.anchor<;>simp[d];have t' :=t;unfold iS at t';rw[if_neg (by simpa using t'),if_neg t,if_pos qH];have e:out=[]:=q_ o?;subst e;rw[if_neg z?,gi h1];simp only[zP,qV];rw[if_pos (qH z? o?)];rfl
def mh(l:List qm):List qm:=GA [] (jr vq [] l)
theorem Nx(l:Sl qm)(hl:l.l.length<=2^19):c9 l=some ⟨(mh l.l).isEmpty,mh l.l⟩:=by have h1:=(tY vq l.l []).length_eq;unfold c9;rw[show (0:Int)=((0:Nat):Int)from rfl,LK l l.l 0 ⟨true,[]⟩ rfl v? o? rfl];simp only[zP,qV];rw[LM _ (by simp only[L?]at h1 |-; omega) (jr vq [] l.l) 0 [] rfl z?];rfl
def Yh(l:List qm):Prop:=l.Pairwise fun a b=>(vq a).to<(vq b).qO
def Zt(n:Int)(l:List qm):Prop:= ∀x∈l,0<=(vq x).qO/\(vq x).to<=n
theorem SO(n:Int): ∀(r out:List qm),Yh out->Zt n out->r.Pairwise (Hm vq)->(∀ y∈out,∀ x∈r,(vq y).qO<=(vq x).qO)->Zt n r->Yh (GA out r)/\Zt n (GA out r):=by intro r;induction r with|nil=>intro out h1 h2 _ _ _;exact⟨h1,h2⟩|cons x r ih=>(intro out h1 h2 h3 h4 h5;obtain⟨h6,h7⟩:=w!.1 h3;have hxn:=h5 x z?;have hr:Zt n r:=fun z hz=>h5 z (by simp[hz]);have hxr: ∀z∈r,(vq x).qO<=(vq z).qO:=fun z hz=>by have:=h6 z hz;unfold Hm sq at this;omega);(have hxx:=cj x;show Yh (GA (eB out x) r)/\_;have key:Yh (eB out x)/\Zt n (eB out x)/\ ∀y∈eB out x,∀ z∈r,(vq y).qO<=(vq z).qO:=by unfold eB;cases hl:out.getLast? with|none=>have:out=[]:=List.getLast?_eq_none_iff.1 hl;subst this;refine⟨by simp[Yh],fun z hz=>?_,fun y hy z hz=>?_⟩;simp only[L?,c?]at hz;subst hz;exact hxn;simp only[L?,c?]at hy;subst hy;exact hxr z hz|some y=>(obtain⟨init,rfl⟩: ∃init,out=init++[y]:=by (have jZ:out≠[]:=fun c=>by rw[c]at hl;simp at hl);rcases List.eq_nil_or_concat out with h|⟨i0,y0,h⟩;exact absurd h jZ;refine⟨i0, ?_⟩;rw[h]at hl |-;simp at hl;subst hl;simp);have hy1:(vq y).qO<=(vq x).qO:=h4 y z? x z?;have hyn:=h2 y z?;have hyy:=cj y;obtain⟨a1,_,a3⟩:=t!.1 h1;simp only;by_cases t:iS (vq y) (vq x);(rw[if_pos t];have e:(init++[y]).set ((init++[y]).length-1) (join y x)=init++[join y x]:=z?;rw[e];have hj:=join_sp y x;have hjf:(vq (join y x)).qO=(vq y).qO:=by rw[hj]);(have hjt:(vq (join y x)).to<=n:=by rw[hj];simp only;split<;>omega);refine⟨t!.2 ⟨a1,z?,fun a ha b hb=>?_⟩,fun z hz=>?_,fun z hz w hw=>?_⟩;simp only[c?]at hb;subst hb;rw[hjf];exact a3 a ha y z?;rcases p?.1 hz with hz|hz;exact h2 z (by simp[hz]);simp only[c?]at hz;subst hz;omega;rcases p?.1 hz with hz|hz;exact h4 z (by simp[hz]) w (by simp[hw]);simp only[c?]at hz;subst hz;have:=hxr w hw;omega;(rw[if_neg t];have hyx:(vq y).to<(vq x).qO:=by unfold iS at t;split at t<;>split at t<;>omega);refine⟨t!.2 ⟨h1,z?,fun a ha b hb=>?_⟩,fun z hz=>?_,fun z hz w hw=>?_⟩;simp only[c?]at hb;subst hb;rcases p?.1 ha with ha|ha;have:=a3 a ha y z?;omega;simp only[c?]at ha;subst ha;exact hyx;rcases p?.1 hz with hz|hz;exact h2 z hz;simp only[c?]at hz;subst hz;exact hxn;rcases p?.1 hz with hz|hz;exact h4 z hz w (by simp[hw]);simp only[c?]at hz;subst hz;exact hxr w hw);exact ih (eB out x) key.1 key.2.1 h7 key.2.2 hr
theorem SP: ∀(r out:List qm),(GA out r).length<=out.length+r.length/\((out≠[]\/r≠[])->GA out r≠[]):=by intro r;induction r with|nil=>intro out;exact⟨by simp[GA],fun h=>by simpa[GA]using h⟩|cons x r ih=>intro out;have h1:=WG out x;obtain⟨h2,h3⟩:=ih (eB out x);refine⟨?_,fun _=>h3 (.inl fun c=>by rw[c]at h1;simp at h1)⟩;show(GA (eB out x) r).length<=_;simp only[b?];omega
theorem Z5(n:Int)(l:List qm)(h:Zt n l):Yh (mh l)/\Zt n (mh l):=by have hp:=tY vq l [];refine SO n _ [] (by simp[Yh]) (fun x hx=>by simp at hx) (Y0 vq l [] z?) (fun y hy=>by simp at hy) fun x hx=>?_;exact h x (by simpa using hp.mem_iff.1 hx)
theorem WD(l:List qm):(mh l).length<=l.length/\(l≠[]->mh l≠[]):=by have hp:=(tY vq l []).length_eq;simp only[L?]at hp;obtain⟨h1,h2⟩:=SP (jr vq [] l) [];refine⟨by unfold mh;simp only[f?]at h1;omega,fun h=>h2 (.inr fun c=>?_)⟩;rw[c]at hp;exact h (q_ (by simpa using hp.symm))
theorem LR: ∀(r out:List qm),Yh (out++r)->GA out r=out++r:=by intro r;induction r with|nil=>intro out _;simp[GA]|cons x r ih=>(intro out h;have e:eB out x=out++[x]:=by unfold eB;cases hl:out.getLast? with|none=>rfl|some y=>have hy:y∈out:=List.mem_of_getLast? hl;have h1:=(t!.1 h).2.2 y hy x z?;have:=cj y;have:=cj x;simp only;rw[if_neg];unfold iS;split<;>split<;>omega);show GA (eB out x) r=_;rw[e,ih (out++[x]) (by simpa using h)];simp
theorem YU(l:List qm)(h:Yh l):mh l=l:=by
 have h1:l.Pairwise (Hm vq):=h.imp fun{a b} eH=>by have:=cj a;have:=cj b;unfold Hm sq;omega
 unfold mh;rw[YI vq l [] (by simpa using h1)];simp only[L?];rw[LR l [] (by simpa using h)];simp
theorem LY{α:Type}{l:List α}(h:l≠[]):l.isEmpty=false:=by cases l with|nil=>exact absurd rfl h|cons _ _=>rfl
theorem norm_L0(n:Int)(l:Sl qm)(hl:l.l.length<2^60): ∀(r:List qm)(i:Nat),l.l.drop i=r-> ∃v,nG (n,l,(i:Int))=some v/\((v= .inl (⟨true,[]⟩,3)/\ ¬Zt n r)\/(v= .inr ()/\Zt n r)):=by intro r;induction r with|nil=>intro i h;have:=zt h;rw[nG.eq_1,if_neg v?];exact⟨_,rfl,.inr ⟨rfl,fun x hx=>by simp at hx⟩⟩|cons x r ih=>(intro i h;obtain⟨h1,h2,h3⟩:=zH h;have hx:=cj x;rw[nG.eq_1,if_pos v?,gi h1,ws o?];simp only[zP,qV,JD];have hm:tn (vq x) n=some (decide (0<=(vq x).qO/\(vq x).to<=n)):=by unfold tn;by_cases c:0<=(vq x).qO;simp[c,hx];simp[c]);rw[hm];simp only[qV];by_cases c:0<=(vq x).qO/\(vq x).to<=n;rw[if_neg (by simpa using c)];obtain⟨v,g1,g2⟩:=ih (i+1) h2;refine⟨v,g1, ?_⟩;rcases g2 with ⟨g2,g3⟩|⟨g2,g3⟩;exact .inl ⟨g2,fun k=>g3 fun z hz=>k z (by simp[hz])⟩;refine .inr ⟨g2,fun z hz=>?_⟩;rcases U?.1 hz with rfl|hz;exact c;exact g3 z hz;rw[if_pos (by simp only[Bool.not_eq_true',decide_eq_false_iff_not];exact c)];exact⟨_,rfl,.inl ⟨rfl,fun k=>c (k x z?)⟩⟩
theorem SR(n:Int)(l:Sl qm)(hl:l.l.length<2^60): ∃(q:Sl qm)(c:Int),bJ n l=some (q,c)/\((c=0/\l.l≠[]/\l.l.length<=64/\Zt n l.l/\q=⟨(mh l.l).isEmpty,mh l.l⟩)\/(c≠0/\q=⟨true,[]⟩/\ ¬(l.l≠[]/\l.l.length<=64/\Zt n l.l))):=by unfold bJ;by_cases c1:l.l=[];rw[if_pos (by simp[c1])];exact⟨_,_,rfl,.inr ⟨by decide,rfl,fun k=>k.1 c1⟩⟩;have hp:=M?.2 c1;rw[if_neg v?];by_cases c2:l.l.length<=64;rw[if_neg v?];obtain⟨v,g1,g2⟩:=norm_L0 n l hl l.l 0 rfl;rw[show ((0:Nat):Int)=0 from rfl]at g1;rw[g1];rcases g2 with ⟨rfl,g2⟩|⟨rfl,g2⟩;exact⟨_,_,rfl,.inr ⟨by decide,rfl,fun k=>g2 k.2.2⟩⟩;simp only[zP,qV,Nx l o?];exact⟨_,_,rfl,.inl ⟨rfl,c1,c2,g2,rfl⟩⟩;rw[if_pos v?];exact⟨_,_,rfl,.inr ⟨by decide,rfl,fun k=>c2 k.2.1⟩⟩
end Xr
namespace Xr
structure S3 (P:qt->Prop) (b:qa) (q:Sl qm) (ss:List qc) (fl:Sl (Sl (Sl Int))):Prop where
 blen:b.length<=2^39
 ne:q.l≠[]
 qn:q.nil=false
 K6:q.l.length<=64
 Yn:Yh q.l
 Jr:Zt b.length q.l
 sm:ss.length<=16
 small: ∀s∈ss,jH s
 may: ∀s∈ss,dv s.insts.l b.length
 W9:fl.l.length=ss.length
 fnn:ss≠[]->fl.nil=false
 each: ∀(i:Nat) s f,ss[i]? =some s->fl.l[i]? =some f->dc s.insts.l f
 stop: ∀s∈ss,∀ i∈s.insts.l,∀ x∈i.stops.l,P x
def Cored(P:qt->Prop):Prop:= ∀x y,core x=core y->P y->P x
def OwnE(e:qz)(s:qc)(a k:Int):Prop:=(a= -1/\k= -1)\/ ∃(a' k' :Nat)(i:qu)(x:qt),a=a' /\k=k' /\s.insts.l[a']? =some i/\i.stops.l[k']? =some x/\xx e.span x.span
theorem JG(a:qk):xx a a:=⟨v! _,v! _⟩
theorem oK{a b c:qk}(h1:xx a b)(h2:xx b c):xx a c:=by unfold xx at *; omega
section
variable {e:qz} (mark:Bool) (w:qa) (w2:Sl qm) (ss:List qc) (fl:Sl (Sl (Sl Int)))
theorem lay_L0(top inst stop:Int)(hs:ss.length<=16): ∀(d i:Nat)(is ks:List Int),i+d=ss.length->is.length=ss.length->ks.length=ss.length->(∀ j,j<i->is[j]? =some (-1)/\ks[j]? =some (-1))->
  ∃MU Fu,kQ (top,inst,stop,mark,(i:Int),w,w2,ss,fl,e,is,ks)=some (MU,Fu)/\MU.length=ss.length/\Fu.length=ss.length/\ ∀j,j<ss.length->MU[j]? =some (-1)/\Fu[j]? =some (-1):=by intro d;induction d with|zero=>intro i is ks h h1 h2 H;rw[kQ.eq_1,if_neg v?];exact⟨is,ks,rfl,h1,h2,fun j hj=>H j o?⟩|succ d ih=>intro i is ks h h1 h2 H;obtain⟨x,hx⟩:=gl (l:=is) (k:=i) o?;obtain⟨y,hy⟩:=gl (l:=ks) (k:=i) o?;rw[kQ.eq_1,if_pos v?,gi hx,gi hy,ws o?];simp only[zP,qV,X?];refine ih (i+1) _ _ o? (by simp[h1]) (by simp[h2]) fun j hj=>?_;rw[xM,xM];by_cases c:i=j;subst c;rw[if_pos ⟨rfl,o?⟩,if_pos ⟨rfl,o?⟩];exact⟨rfl,rfl⟩;rw[if_neg o?,if_neg o?];exact H j o?
def o0(e:qz)(ss:List qc)(is ks:List Int):Prop:=is.length=ss.length/\ks.length=ss.length/\ ∀(j:Nat) s,ss[j]? =some s-> ∃a k,is[j]? =some a/\ks[j]? =some k/\OwnE e s a k
theorem lay_L2(top:Int)(Qu: ∀s∈ss,jH s)(T3: ∀s∈ss,∃ n,dv s.insts.l n): ∀(k:Nat)(is ks:List Int)(qo:qk),k<=ss.length->k<2^60->xx e.span qo->o0 e ss is ks->
  ∃MU Fu at',jN (top,mark,(k:Int)-1,w,w2,ss,fl,e,is,ks,qo)=some (MU,Fu,at')/\o0 e ss MU Fu/\ ∀j,k<=j->MU[j]? =is[j]? :=by intro k;induction k with|zero=>intro is ks qo _ _ _ H;rw[jN.eq_1,if_neg z?];exact⟨is,ks,qo,rfl,H,fun j _=>rfl⟩|succ k ih=>(intro is ks qo hk hb hw H;obtain⟨s,hs⟩:=gl (l:=ss) (k:=k) o?;have sI:=zc hs;obtain⟨h1,h2,h3⟩:=H;obtain⟨x,hx⟩:=gl (l:=is) (k:=k) o?;obtain⟨y,hy⟩:=gl (l:=ks) (k:=k) o?;obtain⟨v,hv,hq⟩:=XZ s qo (Qu s sI);rw[show ((k+1:Nat):Int)-1=(k:Int) by omega,jN.eq_1,if_pos z?,gi hs];simp only[zP,qV];rw[hv];simp only[qV];rw[gi hx,gi hy,show q?.wrap ((k:Int)-1)=(k:Int)-1 from qB o? o?];simp only[qV,X?];have upd: ∀a c:Int,OwnE e s a c->o0 e ss (is.set k a) (ks.set k c):=by intro a c hac;refine⟨by simp[h1],by simp[h2],fun j s' oM=>?_⟩;rw[xM,xM];by_cases cc:k=j;subst cc;rw[hs]at oM;cases oM;rw[if_pos ⟨rfl,o?⟩,if_pos ⟨rfl,o?⟩];exact⟨a,c,rfl,rfl,hac⟩;rw[if_neg o?,if_neg o?];exact h3 j s' oM);(have sk: ∀(L:List Int)(a:Int)(j:Nat),k+1<=j->(L.set k a)[j]? =L[j]? :=by intro L a j hj;rw[xM,if_neg o?]);rcases hq with rfl|⟨a',k',i,z,g1,g2,g3,g4,_,_,g5⟩;rw[if_neg z?];obtain⟨MU,Fu,at',q1,q2,q3⟩:=ih (is.set k (-1)) (ks.set k (-1)) qo o? o? hw (upd _ _ (.inl ⟨rfl,rfl⟩));exact⟨MU,Fu,at',q1,q2,fun j hj=>by rw[q3 j o?,sk _ _ j hj]⟩;obtain⟨va,vk⟩:=v;simp only at g1 g2 |-;subst g1 g2;rw[if_pos z?,gi g3];simp only[qV];obtain⟨n,hn⟩:=T3 s sI;have dm:=(hn.may a' i g3).inside k' z g4;have hz:xx e.span z.span:=oK hw g5;obtain⟨MU,Fu,at',q1,q2,q3⟩:=ih (is.set k (a' :Int)) (ks.set k (k' :Int)) i.span o? o? (oK hz ⟨dm.1,dm.2⟩) (upd _ _ (.inr ⟨a',k',i,z,rfl,rfl,g3,g4,hz⟩));exact⟨MU,Fu,at',q1,q2,fun j hj=>by rw[q3 j o?,sk _ _ j hj]⟩
structure Laid (e:qz) (n:Int) (aC:List qc) (is:List Int) (i:Nat) (ss:List qc) (fl:Sl (Sl (Sl Int))):Prop where
 len:ss.length=aC.length
 W9:fl.l.length=aC.length
 fnn:aC≠[]->fl.nil=false
 done: ∀(j:Nat) s,j<i->aC[j]? =some s-> ∃s' f a,ss[j]? =some s' /\fl.l[j]? =some f/\is[j]? =some a/\UE e n s a s' f
 todo: ∀(j:Nat) s,i<=j->aC[j]? =some s->ss[j]? =some s/\ ∃f,fl.l[j]? =some f/\dc s.insts.l f
theorem Nn(n:Int)(he:bU e n)(aC:List qc)(Qu: ∀s∈aC,jH s)(T3: ∀s∈aC,dv s.insts.l n)(is ks:List Int)(ho:o0 e aC is ks)(i:Nat)(hi:i<aC.length)(fl:Sl (Sl (Sl Int)))(ss:List qc)(H:Laid e n aC is i ss fl):
  ∃s a k f,ss[i]? =some s/\is[i]? =some a/\ks[i]? =some k/\fl.l[i]? =some f/\fl.nil=false/\ ∀deep mark,∃ s' g,yX s a k e deep mark f=some (s',f,g)/\Laid e n aC is (i+1) (ss.set i s') ⟨false,fl.l.set i ⟨g.nil,g.l⟩⟩:=by
 obtain⟨s,hs⟩:=gl (l:=aC) (k:=i) hi;have sI:=zc hs;obtain⟨t1,f,t2,t3⟩:=H.todo i s (ju _) hs;obtain⟨a,k,o1,o2,o3⟩:=ho.2.2 i s hs;have jZ:aC≠[]:=fun c=>by rw[c]at hi;simp at hi
 refine⟨s,a,k,f,t1,o1,o2,t2,H.fnn jZ,fun deep mark=>?_⟩;obtain⟨s',g,g1,g2⟩:=shift_ok e n he mark s (Qu s sI) (T3 s sI) deep e.span (JG _) a k (by
  rcases o3 with o3|o3
  ·exact .inl o3
  exact .inr (.inr o3)) f t3
 refine⟨s',g,g1,⟨by simp[H.len],by simp[H.W9],fun _=>rfl, ?_, ?_⟩⟩;intro j s1 hj mF;by_cases c:i=j;subst c;rw[hs]at mF;cases mF;refine⟨s',g,a, ?_, ?_,o1,g2⟩;rw[xM,if_pos ⟨rfl,by rw[H.len];exact hi⟩];rw[xM,if_pos ⟨rfl,by rw[H.W9];exact hi⟩];obtain⟨s2,f2,a2,k1,k2,k3,k4⟩:=H.done j s1 o? mF;refine⟨s2,f2,a2, ?_, ?_,k3,k4⟩;rw[xM,if_neg o?];exact k1;rw[xM,if_neg o?];exact k2;intro j s1 hj mF;obtain⟨k1,f2,k2,k3⟩:=H.todo j s1 o? mF;refine⟨?_,f2, ?_,k3⟩;rw[xM,if_neg o?];exact k1;rw[xM,if_neg o?];exact k2
theorem lay_L4(n:Int)(he:bU e n)(aC:List qc)(hs16:aC.length<=16)(Qu: ∀s∈aC,jH s)(T3: ∀s∈aC,dv s.insts.l n)(is ks:List Int)(ho:o0 e aC is ks)(top:Int)(qo:qk): ∀(d i:Nat)(fl:Sl (Sl (Sl Int)))(ss:List qc),i+d=aC.length->Laid e n aC is i ss fl->
  ∃ss' H3,jO (top,mark,(i:Int),w,w2,ss,fl,e,is,ks,qo)=some (ss',H3)/\Laid e n aC is aC.length ss' H3:=by intro d;induction d with|zero=>intro i fl ss h H;have:=H.len;obtain rfl:i=aC.length:=o?;rw[jO.eq_1,if_neg v?];exact⟨ss,fl,rfl,H⟩|succ d ih=>intro i fl ss h H;have hl:=H.len;obtain⟨s,a,k,f,g1,g2,g3,g4,g5,g6⟩:=Nn n he aC Qu T3 is ks ho i o? fl ss H;rw[jO.eq_1,if_pos v?,g5,if_neg z?,gi g4];simp only[zP,qV];rw[gi g1,gi g2,gi g3,ws o?];simp only[qV,X?];cases mark with|true=>obtain⟨s',g,q1,q2⟩:=g6 true true;rw[if_pos rfl,q1];exact ih (i+1) _ _ o? q2|false=>obtain⟨s',g,q1,q2⟩:=g6 ((i:Int) != top) false;rw[if_neg z?,q1];exact ih (i+1) _ _ o? q2
theorem lay_L42(n:Int)(he:bU e n)(aC:List qc)(hs16:aC.length<=16)(Qu: ∀s∈aC,jH s)(T3: ∀s∈aC,dv s.insts.l n)(is ks:List Int)(ho:o0 e aC is ks)(top:Int): ∀(d i:Nat)(fl:Sl (Sl (Sl Int)))(ss:List qc),i+d=aC.length->Laid e n aC is i ss fl->
  ∃ss' H3,jk (top,mark,(i:Int),w,w2,ss,fl,e,is,ks)=some (ss',H3)/\Laid e n aC is aC.length ss' H3:=by intro d;induction d with|zero=>intro i fl ss h H;have:=H.len;obtain rfl:i=aC.length:=o?;rw[jk.eq_1,if_neg v?];exact⟨ss,fl,rfl,H⟩|succ d ih=>intro i fl ss h H;have hl:=H.len;obtain⟨s,a,k,f,g1,g2,g3,g4,g5,g6⟩:=Nn n he aC Qu T3 is ks ho i o? fl ss H;rw[jk.eq_1,if_pos v?,g5,if_neg z?,gi g4];simp only[zP,qV];rw[gi g1,gi g2,gi g3,ws o?];simp only[qV,X?];cases mark with|true=>obtain⟨s',g,q1,q2⟩:=g6 true true;rw[if_pos rfl,q1];exact ih (i+1) _ _ o? q2|false=>obtain⟨s',g,q1,q2⟩:=g6 ((i:Int) != top) false;rw[if_neg z?,q1];exact ih (i+1) _ _ o? q2
end
def QK(e:qz)(s:qm):qm:=⟨mv e.span.qO e.span.to e.text.length true s.anchor,mv e.span.qO e.span.to e.text.length true s.head⟩
theorem move6(e:qz)(n:Int)(he:bU e n)(p:Int)(h0:0<=p)(h1:p<=n):dP p true ⟨false,[e]⟩=some (mv e.span.qO e.span.to e.text.length true p):=by unfold dP;rw[Mu _ z?,YI _ [e] [] z?];simp only[L?,zP,qV];rw[show q?.wrap ((([e]:List qz).length:Int)-1)=((0:Nat):Int) by(rw [show (([e]:List qz).length:Int)=1 from rfl];decide),pj.eq_1,if_pos z?,gi (l:=[e]) (k:=0) rfl];simp only[zP,qV,TC e n he p h0 h1];rw[show q?.wrap (((0:Nat):Int)-1)= -1 by decide,pj.eq_1,if_neg z?];rfl
theorem LU(e:qz)(n:Int)(he:bU e n)(p:Int)(h0:0<=p)(h1:p<=n):0<=mv e.span.qO e.span.to e.text.length true p/\mv e.span.qO e.span.to e.text.length true p<=n+(e.text.length-(e.span.to-e.span.qO)):=by have:=he.a0;have:=he.ab;have:=he.bn;unfold mv;split;omega;split;omega;simp only[if_true];omega
theorem lT(s:qm):(vq s).qO<=s.anchor/\(vq s).qO<=s.head/\s.anchor<=(vq s).to/\s.head<=(vq s).to:=by unfold vq;simp only;refine⟨?_, ?_, ?_, ?_⟩<;>split<;>omega
theorem LQ(e:qz)(n:Int)(he:bU e n)(q:Sl qm)(hq:q.l.length<=2^19)(hn:Zt n q.l): ∀(r:List qm)(i:Nat)(out:List qm),q.l.drop i=r->out.length=i->nF (q,⟨false,[e]⟩,(i:Int),out)=some (out++r.map (QK e)):=by intro r;induction r with|nil=>intro i out h _;have:=zt h;rw[nF.eq_1,if_neg v?];simp|cons x r ih=>intro i out h ho;obtain⟨h1,h2,h3⟩:=zH h;have hx:=hn x (zc h1);have hs:=lT x;rw[nF.eq_1,if_pos v?,gi h1,ws o?];simp only[zP,qV];rw[move6 e n he x.anchor o? o?,move6 e n he x.head o? o?];simp only[qV];rw[if_pos qH];have:=ih (i+1) (out++[QK e x]) h2 v?;rw[show qm.mk (mv e.span.qO e.span.to e.text.length true x.anchor) (mv e.span.qO e.span.to e.text.length true x.head)=QK e x from rfl,this];simp
theorem NA(e:qz)(n:Int)(he:bU e n)(q:Sl qm)(hq:q.l.length<=2^19)(hn:Zt n q.l):dR q [e]=some ⟨(mh (q.l.map (QK e))).isEmpty,mh (q.l.map (QK e))⟩/\Zt (n+(e.text.length-(e.span.to-e.span.qO))) (q.l.map (QK e)):=by constructor;unfold dR;rw[show (0:Int)=((0:Nat):Int)from rfl,LQ e n he q hq hn q.l 0 [] rfl rfl];simp only[zP,qV,L?];rw[Nx _ (by simpa using hq)];rfl;intro y hy;obtain⟨x,hx,rfl⟩:=G?.1 hy;have h1:=hn x hx;have h2:=lT x;have h3:=LU e n he x.anchor o? o?;have h4:=LU e n he x.head o? o?;unfold vq QK;simp only;constructor;split<;>omega;split<;>omega
end Xr
namespace Xr
def newText(b:qa)(e:qz):qa:=b.take e.span.qO.toNat++e.text++b.drop e.span.to.toNat
theorem Jw(b:qa)(e:qz)(he:bU e b.length):((newText b e).length:Int)=b.length+(e.text.length-(e.span.to-e.span.qO)):=by have:=he.a0;have:=he.ab;have:=he.bn;unfold newText;simp only[s?,List.length_take,List.length_drop];omega
structure Iq (P:qt->Prop) (b:qa) (e:qz) (ss:List qc) (top inst:Int) (v:qa×Sl qm×List qc×Sl (Sl (Sl Int))):Prop where
 text:v.1=newText b e
 ok:S3 P v.1 v.2.1 v.2.2.1 v.2.2.2
 len:v.2.2.1.length=ss.length
 cur: ∀(j:Nat) s,ss[j]? =some s-> ∃s',v.2.2.1[j]? =some s' /\s'.cur=s.cur
 top: ∀(t:Nat) s,top=t->inst≠ -1->ss[t]? =some s-> ∃s',v.2.2.1[t]? =some s' /\s'.insts.l.length=s.insts.l.length
section
variable {P:qt->Prop} (hP:Cored P) {b:qa} {q:Sl qm} {ss:List qc} {fl:Sl (Sl (Sl Int))}
include hP in
theorem SH(W:S3 P b q ss fl){e:qz}(he:bU e b.length)(hB:b.length+e.text.length<=2^39)(is ks:List Int)(ho:o0 e ss is ks)(top inst:Int)(htop: ∀(t:Nat),top=t->inst≠ -1-> ∀a,is[t]? =some a->a≠ -1)
  {ss' :List qc} {H3:Sl (Sl (Sl Int))} (H:Laid e b.length ss is ss.length ss' H3):
  Iq P b e ss top inst (newText b e,⟨(mh (q.l.map (QK e))).isEmpty,mh (q.l.map (QK e))⟩,ss',H3):=by
 have hl:=Jw b e he;have hn:=(NA e b.length he q (by have:=W.K6;omega) W.Jr).2;rw[<- hl]at hn;have hap:=Z5 _ _ hn;have Wi:=WD (q.l.map (QK e));have eH:=he.ab;have hd: ∀(j:Nat) s',ss'[j]? =some s' -> ∃s f a,ss[j]? =some s/\H3.l[j]? =some f/\is[j]? =some a/\UE e b.length s a s' f:=by intro j s' oM;have hj:=(qL oM).1;obtain⟨s,hs⟩:=gl (l:=ss) (k:=j) (by have:=H.len;omega);obtain⟨s2,f,a,k1,k2,k3,k4⟩:=H.done j s (by have:=H.len;omega) hs;rw[oM]at k1;cases k1;exact⟨s,f,a,hs,k2,k3,k4⟩
 refine⟨rfl, ?_,H.len, ?_, ?_⟩;refine⟨u?,Wi.2 (by simpa using W.ne),LY (Wi.2 (by simpa using W.ne)),by have:=W.K6;have:=Wi.1;simp only[List.length_map]at this;simp only;omega,hap.1,hap.2,by rw[H.len];exact W.sm, ?_, ?_,by rw[H.W9,H.len], ?_, ?_, ?_⟩;intro s' oM;obtain⟨j,hj⟩:=jI oM;obtain⟨s,f,a,k1,k2,k3,k4⟩:=hd j s' hj;have Qu:=W.small s (zc k1);refine⟨by have:=k4.len;have:=Qu.1;omega,fun i hi=>?_⟩;obtain⟨i0,hi0,h1,_⟩:=k4.core i hi;have:=Qu.2 i0 hi0;omega;intro s' oM;obtain⟨j,hj⟩:=jI oM;obtain⟨s,f,a,k1,k2,k3,k4⟩:=hd j s' hj;rw[hl];exact k4.may;intro jZ;refine H.fnn fun c=>?_;have:=H.len;rw[c]at this;exact jZ (q_ (by simpa using this));intro j s' f oM hf;obtain⟨s,f2,a,k1,k2,k3,k4⟩:=hd j s' oM;rw[hf]at k2;cases k2;exact k4.fl;intro s' oM i hi x hx;obtain⟨j,hj⟩:=jI oM;obtain⟨s,f,a,k1,k2,k3,k4⟩:=hd j s' hj;obtain⟨i0,hi0,_,h2⟩:=k4.core i hi;obtain⟨x0,hx0,h3⟩:=h2 x hx;exact hP x x0 h3 (W.stop s (zc k1) i0 hi0 x0 hx0);intro j s hs;obtain⟨s',f,a,k1,k2,k3,k4⟩:=H.done j s (qL hs).1 hs;exact⟨s',k1,k4.cur⟩;intro t s ht dm hs;obtain⟨s',f,a,k1,k2,k3,k4⟩:=H.done t s (qL hs).1 hs;exact⟨s',k1,k4.all (htop t ht dm a k3)⟩
include hP in
theorem Td(W:S3 P b q ss fl){e:qz}(he:bU e b.length)(hB:b.length+e.text.length<=2^39)(top inst stop:Int)(mark:Bool)
  (ho:(inst= -1/\stop= -1)\/ ∃(t:Nat)(s:qc),top=t/\ss[t]? =some s/\inst≠ -1/\OwnE e s inst stop):
  ∃v,jW top inst stop e mark b q ss fl=some v/\Iq P b e ss top inst v:=by
 have Sj:=W.sm;have eH:=he.ab;have Ec:=he.a0;have hbn:=he.bn;obtain⟨is0,ks0,g1,g2,g3,g4⟩:=lay_L0 mark b q ss fl (e:=e) top inst stop Sj ss.length 0 (e? ss.length 0) (e? ss.length 0) o? z? z? (fun j hj=>o?);have ho0:o0 e ss is0 ks0:=by refine⟨g2,g3,fun j s hs=>?_⟩;have hj:=g4 j (qL hs).1;exact⟨-1,-1,hj.1,hj.2,.inl ⟨rfl,rfl⟩⟩
 have L0: ∀is:List Int,Laid e b.length ss is 0 ss fl:=by intro is;refine⟨rfl,W.W9,W.fnn,fun j s hj=>o?,fun j s _ hs=>?_⟩;obtain⟨f,hf⟩:=gl (l:=fl.l) (k:=j) (by rw[W.W9];exact(qL hs).1);exact⟨hs,f,hf,W.each j s f hs hf⟩
 have hmv:=(NA e b.length he q (by have:=W.K6;omega) W.Jr).1;have c1:we b e.span.qO=some (b.take e.span.qO.toNat):=by obtain⟨r,k1,k2,_⟩:=qM.we (l:=b) Ec o?;rw[k1,k2]
 have c2:mj b e.span.to=some (b.drop e.span.to.toNat):=by obtain⟨r,k1,k2,_⟩:=qM.mj (l:=b) (lo:=e.span.to) o? o?;rw[k1,k2]
 have hbl:=W.blen;have r1:(b.take e.span.qO.toNat).length+e.text.length<=2^62:=v?;have r2:(b.take e.span.qO.toNat++e.text).length+(b.drop e.span.to.toNat).length<=2^62:=v?;unfold jW;rw[if_pos z?,if_pos (qH v? o?),if_pos z?,if_pos (qH v? o?)];simp only[X?];rw[show (0:Int)=((0:Nat):Int)from rfl,show e? ss.length ((0:Nat):Int)=e? ss.length 0 from rfl,g1];simp only[zP,qV];rcases ho with ⟨rfl,rfl⟩|⟨t,s,rfl,hs,dm,how⟩;rw[if_neg z?];obtain⟨ss',H3,k1,k2⟩:=lay_L42 mark b q b.length he ss Sj W.small W.may is0 ks0 ho0 top ss.length 0 fl ss o? (L0 is0);rw[k1];simp only[qV,c1,c2,hmv];rw[if_pos r1,if_pos r2];exact⟨_,rfl,SH hP W he hB is0 ks0 ho0 top (-1) (fun t _ h=>absurd rfl h) k2⟩;rcases how with ⟨h,_⟩|⟨a',k',i,x,rfl,rfl,h1,h2,h3⟩;exact absurd h dm;have htl:=(qL hs).1;rw[if_pos z?,gi (g4 t htl).1,gi (g4 t htl).2,gi hs];simp only[qV];rw[gi h1];simp only[qV,X?];have sI:=zc hs;have hin' :=(W.may s sI).may a' i h1 |>.inside k' x h2;have ho1:o0 e ss (is0.set t (a' :Int)) (ks0.set t (k' :Int)):=by refine⟨by simp[g2],by simp[g3],fun j s' oM=>?_⟩;rw[xM,xM];by_cases c:t=j;subst c;rw[hs]at oM;cases oM;rw[if_pos ⟨rfl,o?⟩,if_pos ⟨rfl,o?⟩];exact⟨_,_,rfl,rfl,.inr ⟨a',k',i,x,rfl,rfl,h1,h2,h3⟩⟩;rw[if_neg o?,if_neg o?];exact ho0.2.2 j s' oM
 obtain⟨MU,Fu,at',m1,m2,m3⟩:=lay_L2 mark b q ss fl (t:Int) W.small (fun s hs=>⟨_,W.may s hs⟩) t (is0.set t (a' :Int)) (ks0.set t (k' :Int)) i.span o? o? (oK h3 ⟨hin'.1,hin'.2⟩) ho1;rw[show q?.wrap ((t:Int)-1)=(t:Int)-1 from qB o? o?,m1];simp only[qV];obtain⟨ss',H3,k1,k2⟩:=lay_L4 mark b q b.length he ss Sj W.small W.may MU Fu m2 (t:Int) at' ss.length 0 fl ss o? (L0 MU);rw[k1];simp only[qV,c1,c2,hmv];rw[if_pos r1,if_pos r2];refine⟨_,rfl,SH hP W he hB MU Fu m2 (t:Int) (a' :Int) (fun t' ht' _ a ha=>?_) k2⟩;obtain rfl:t=t' :=o?;rw[m3 t (ju _),xM,if_pos ⟨rfl,o?⟩]at ha;cases ha;omega
end
end Xr
namespace Xr
theorem Xv(n:Int)(l:List Int)(hl:l.length<2^60):qM (mO n l) (fun _=>True):=by
 have loop: ∀(d k:Nat),k+d=l.length->qM (uF (n,(k:Int),l)) (fun _=>True):=by intro d;induction d with|zero=>intro k h;rw[uF.eq_1,if_neg v?];exact .ret trivial|succ d ih=>intro k h;obtain⟨x,hx⟩:=gl (l:=l) (k:=k) o?;rw[uF.eq_1,if_pos v?,ws o?];refine .go (gi hx) ?_;split;exact .ret trivial;exact ih (k+1) o?
 unfold mO;refine .bind (loop l.length 0 o?) fun v _=>?_;rcases v with v|v<;>exact .ret trivial
theorem in_tot(l:Sl qt)(b:Int): ∀(m:Nat)(a:Int),m=(a+1).toNat->qM (th l a b) (fun _=>True):=by
 have loop: ∀(m:Nat)(a:Int),m=(a+1).toNat->qM (kV (l,a,b)) (fun _=>True):=by intro m;induction m using r? with|_ m ih=>intro a hm;rw[kV.eq_1];by_cases c:0<=a/\a<(l.l.length:Int);obtain⟨k,rfl⟩: ∃k:Nat,a=k:=⟨a.toNat,o?⟩;obtain⟨x,hx⟩:=gl (l:=l.l) (k:=k) o?;rw[if_pos v?];refine .go (gi hx) ?_;refine .ite (fun c1=>?_) fun _=> .ret trivial;refine .ite (fun c2=>?_) fun _=> .ret trivial;refine .ite (fun _=> .ret trivial) fun _=>?_;simp only[decide_eq_true_eq]at c1 c2;exact ih (x.up+1).toNat o? x.up rfl;rw[if_neg (by simp only[zU,decide_eq_true_eq];omega)];exact .ret trivial
 intro m a hm;unfold th;refine .bind (loop m a hm) fun v _=>?_;rcases v with v|v<;>exact .ret trivial
theorem Ou(l:Sl qt)(n:Int)(xc:List Int)(hl:l.l.length<2^60)(ht:xc.length<2^60):qM (fR l n xc) (fun _=>True):=by
 have Lw: ∀(a:Int)(d k:Nat),k+d=l.l.length->qM (yV (l,n,a,(k:Int),xc)) (fun _=>True):=by intro a d;induction d with|zero=>intro k h;rw[yV.eq_1,if_neg v?];exact .ret trivial|succ d ih=>intro k h;obtain⟨x,hx⟩:=gl (l:=l.l) (k:=k) o?;rw[yV.eq_1,if_pos v?,ws o?];refine .go (gi hx) ?_;refine .ite (fun _=>?_) fun _=>ih (k+1) o?;refine .bind (in_tot l _ _ a rfl) fun v _=>?_;exact .ite (fun _=> .ret trivial) fun _=>ih (k+1) o?
 have loop: ∀(d k:Nat),k+d=l.l.length->qM (vD (l,n,(k:Int),xc)) (fun _=>True):=by intro d;induction d with|zero=>intro k h;rw[vD.eq_1,if_neg v?];exact .ret trivial|succ d ih=>intro k h;obtain⟨x,hx⟩:=gl (l:=l.l) (k:=k) o?;rw[vD.eq_1,if_pos v?,ws o?];refine .go (gi hx) ?_;refine .ite (fun _=>ih (k+1) o?) fun _=>?_;refine .bind (Xv x.n xc ht) fun v _=>?_;refine .ite (fun _=>ih (k+1) o?) fun _=>?_;refine .bind (Lw (k:Int) l.l.length 0 o?) fun w _=>?_;rcases w with w|w;exact .ret trivial;exact ih (k+1) o?
 unfold fR;refine .bind (loop l.l.length 0 o?) fun v _=>?_;rcases v with v|v<;>exact .ret trivial
theorem C2(ns:Sl Int)(n:Int)(hl:ns.l.length<=2^28):qM (rb ns n) (fun r=>r.l.length<=ns.l.length+1/\(∀ x∈r.l,x=n\/x∈ns.l)/\n∈r.l/\ ∀x∈ns.l,x∈r.l):=by
 have loop: ∀(d k:Nat),k+d=ns.l.length->qM (nq (ns,n,(k:Int))) (fun v=> ∃j:Nat,v=j/\j<=ns.l.length):=by intro d;induction d with|zero=>intro k h;rw[nq.eq_1,if_neg v?];exact .ret ⟨k,rfl,o?⟩|succ d ih=>intro k h;obtain⟨x,hx⟩:=gl (l:=ns.l) (k:=k) o?;rw[nq.eq_1,if_pos v?,ws o?];refine .go (gi hx) ?_;exact .ite (fun _=>ih (k+1) o?) fun _=> .ret ⟨k,rfl,o?⟩
 unfold rb;refine .bind (loop ns.l.length 0 o?) fun v hv=>?_;obtain⟨j,rfl,hj⟩:=hv;have mid:(ns.l.take j++[n]++ns.l.drop j).length<=ns.l.length+1/\(∀ x∈ns.l.take j++[n]++ns.l.drop j,x=n\/x∈ns.l)/\n∈ns.l.take j++[n]++ns.l.drop j/\ ∀x∈ns.l,x∈ns.l.take j++[n]++ns.l.drop j:=by refine⟨v?,fun x hx=>?_,z?,fun x hx=>?_⟩;simp only[p?,c?]at hx;rcases hx with (hx|hx)|hx;exact .inr (List.mem_of_mem_take hx);exact .inl hx;exact .inr (List.mem_of_mem_drop hx);rw[<- a_ j ns.l]at hx;simp only[p?,c?]at hx |-;rcases hx with hx|hx;exact .inl (.inl hx);exact .inr hx
 have r1:qi (ns.l.take j).length 8=true:=qH v? o?;have r2:qi ((ns.l.take j).length+1) 8=true:=qH v? o?;have r3:qi ((ns.l.take j++[n]).length+(ns.l.drop j).length) 8=true:=qH v? o?;refine .ite (fun c=>?_) fun _=>?_;obtain⟨x,hx⟩:=gl (l:=ns.l) (k:=j) (by simp at c;omega);refine .go (gi hx) ?_;refine .ite (fun c2=>?_) fun _=>?_;refine .ret ⟨o?,fun y hy=> .inr hy, ?_,fun y hy=>hy⟩;have:=zc hx;simp only[beq_iff_eq]at c2;rw[<- c2];exact this;refine .go (JO _ _ hj) ?_;refine .zE r1 (qM.zE r2 ?_);refine .go (Oc _ _ hj) ?_;exact .zE r3 (.ret mid);refine .go (JO _ _ hj) ?_;refine .zE r1 (qM.zE r2 ?_);refine .go (Oc _ _ hj) ?_;exact .zE r3 (.ret mid)
theorem FK(i:qu)(hl:i.stops.l.length<=2^12):qM (cT i) (fun r=>r.l.length<=2^12):=by
 have loop0: ∀(d k:Nat)(a:Sl Int),k+d=i.stops.l.length->a.l.length<=k->qM (uC (a,(k:Int),i)) (fun r=>r.l.length<=i.stops.l.length):=by intro d;induction d with|zero=>intro k a h ha;rw[uC.eq_1,if_neg v?];exact .ret o?|succ d ih=>intro k a h ha;obtain⟨x,hx⟩:=gl (l:=i.stops.l) (k:=k) o?;rw[uC.eq_1,if_pos v?,ws o?];refine .go (gi hx) ?_;refine .bind (C2 a x.n o?) fun v hv=>?_;exact ih (k+1) v o? o?
 have loop4: ∀(a:Sl Int)(xc:List Int),a.l.length<=2^12->xc.length<=2^12-> ∀(d k:Nat)(next:Int)(f:Bool),k+d=a.l.length->qM (wB (a,next,f,(k:Int),i,xc)) (fun _=>True):=by intro a xc ha ht d;induction d with|zero=>intro k next f h;rw[wB.eq_1,if_neg v?];exact .ret trivial|succ d ih=>(intro k next f h);obtain⟨x,hx⟩:=gl (l:=a.l) (k:=k) o?;rw[wB.eq_1,ws o?];refine .ite (fun _=>?_) fun _=> .ret trivial;refine .go (gi hx) ?_;refine .bind (Xv x xc o?) fun v _=>?_;refine .ite (fun _=>?_) fun _=>ih (k+1) _ _ o?;refine .bind (Ou i.stops x xc o? o?) fun w _=>?_;exact .ite (fun _=>ih (k+1) _ _ o?) fun _=>ih (k+1) _ _ o?
 have loop6: ∀(a:Sl Int)(xc:List Int),a.l.length<=2^12->xc.length<=2^12-> ∀(d k:Nat)(next:Int)(f:Bool),k+d=a.l.length->qM (vM (a,next,f,(k:Int),i,xc)) (fun _=>True):=by intro a xc ha ht d;induction d with|zero=>intro k next f h;rw[vM.eq_1,if_neg v?];exact .ret trivial|succ d ih=>(intro k next f h);obtain⟨x,hx⟩:=gl (l:=a.l) (k:=k) o?;rw[vM.eq_1,ws o?];refine .ite (fun _=>?_) fun _=> .ret trivial;refine .go (gi hx) ?_;refine .bind (Xv x xc o?) fun v _=>?_;exact .ite (fun _=>ih (k+1) _ _ o?) fun _=>ih (k+1) _ _ o?
 have Lw: ∀(a:Sl Int),a.l.length<=2^12-> ∀(d:Nat)(xc:List Int),xc.length+d=a.l.length->qM (uD (a,i,xc)) (fun r=>r.length<=2^12):=by intro a ha d;induction d with|zero=>intro xc h;rw[uD.eq_1,if_neg v?];exact .ret o?|succ d ih=>intro xc h;rw[uD.eq_1,if_pos v?];refine .bind (loop4 a xc ha o? a.l.length 0 _ _ o?) fun v _=>?_;refine .bind (loop6 a xc ha o? a.l.length 0 _ _ o?) fun w _=>?_;refine .zE qH ?_;exact ih _ v?
 unfold cT;refine .bind (loop0 i.stops.l.length 0 ⟨true,[]⟩ o? z?) fun v hv=>?_;refine .bind (Lw v o? v.l.length [] z?) fun w hw=>?_;exact .ret hw
def Pn(m:Nat)(r:Int):Prop:=r<0\/ ∃j:Nat,r=j/\j<m
def SrcQ(m:Nat)(v:(Int×Int×Int)⊕(Int×Int)):Prop:=match v with| .inl w=>Pn m w.1| .inr w=>Pn m w.1/\Pn m w.2
theorem Rw(i:qu)(n:Int)(held:Sl Bool)(hl:i.stops.l.length<2^60):qM (rX i n held) (fun r=>r<0\/ ∃(k:Nat)(x:qt),r=k/\i.stops.l[k]? =some x):=by
 have ok: ∀(r:Int),Pn i.stops.l.length r->(r<0\/ ∃(k:Nat)(x:qt),r=k/\i.stops.l[k]? =some x):=by intro r h;rcases h with h|⟨k,h1,h2⟩;exact .inl h;obtain⟨x,hx⟩:=gl h2;exact .inr ⟨k,x,h1,hx⟩
 have loop: ∀(d k:Nat)(f a:Int),k+d=i.stops.l.length->Pn i.stops.l.length f->Pn i.stops.l.length a->
   qM (zW (n,held,f,a,(k:Int),i)) (SrcQ i.stops.l.length):=by
  intro d;induction d with
  |zero=>intro k f a h hf ha;rw[zW.eq_1,if_neg v?];exact .ret (show SrcQ _ (.inr (f,a))from⟨hf,ha⟩)
  |succ d ih=>
   intro k f a h hf ha;obtain⟨x,hx⟩:=gl (l:=i.stops.l) (k:=k) o?;have hk:Pn i.stops.l.length (k:Int):= .inr ⟨k,rfl,o?⟩;rw[zW.eq_1,if_pos v?,ws o?];refine .go (gi hx) ?_;refine .ite (fun _=>ih (k+1) f a o? hf ha) fun _=>?_;have rest: ∀(f' a' :Int),(f' =f\/f' =k)->(a' =a\/a' =k)->qM (zW (n,held,f',a',((k+1:Nat):Int),i)) (SrcQ i.stops.l.length):=fun f' a' h1 h2=>
    ih (k+1) f' a' o? (h1.elim (fun e=>e ▸ hf) (fun e=>e ▸ hk)) (h2.elim (fun e=>e ▸ ha) (fun e=>e ▸ hk))
   refine .ite (fun c=>?_) fun _=>?_
   ·obtain⟨hb,hhb⟩:=gl (l:=held.l) (k:=k) (by simp at c;omega);refine .go (gi hhb) ?_;refine .ite (fun _=> .ret (show SrcQ _ (.inl _)from hk)) fun _=>?_;refine .ite (fun _=>?_) fun _=>?_
    ·exact .ite (fun _=>rest _ _ (.inr rfl) (.inr rfl)) fun _=>rest _ _ (.inr rfl) (.inl rfl)
    exact .ite (fun _=>rest _ _ (.inl rfl) (.inr rfl)) fun _=>rest _ _ (.inl rfl) (.inl rfl)
   refine .ite (fun _=>?_) fun _=>?_
   ·exact .ite (fun _=>rest _ _ (.inr rfl) (.inr rfl)) fun _=>rest _ _ (.inr rfl) (.inl rfl)
   exact .ite (fun _=>rest _ _ (.inl rfl) (.inr rfl)) fun _=>rest _ _ (.inl rfl) (.inl rfl)
 unfold rX;refine .bind (loop i.stops.l.length 0 (-1) (-1) o? (.inl o?) (.inl o?)) fun v hv=>?_;rcases v with v|v;exact .ret (ok _ hv);exact .ite (fun _=> .ret (ok _ hv.1)) fun _=> .ret (ok _ hv.2)
end Xr
set_option maxHeartbeats 1000000
def Uv{α:Type}(s:Sl α):Nat:=if s.nil=s.l.isEmpty then 0 else 1000000000000000000
theorem dG{α:Type}:Uv (⟨true,[]⟩:Sl α)=0:=rfl
theorem Zf{α:Type}(x:α)(l:List α):Uv (⟨false,x::l⟩:Sl α)=0:=rfl
theorem K9{α:Type}(l:List α):Uv (⟨l.isEmpty,l⟩:Sl α)=0:=by simp[Uv]
def qR:List Nat->Nat
 |[]=>0
 |a::r=>a+qR r
theorem bT: ∀a b:List Nat,qR (a++b)=qR a+qR b
 |[],b=>by simp[qR]
 |x::a,b=>by simp only[List.cons_append,qR,bT a b];omega
theorem MD: ∀{l:List Nat}{x:Nat},x∈l->x<=qR l
 |y::l,x,h=>by simp only[qR];rcases U?.1 h with rfl|h;omega;have:=MD h;omega
theorem xI{α:Type}{f:α->Nat}(hf: ∀a,1<=f a): ∀l:List α,l.length<=qR (l.map f)
 |[]=>by simp[qR]
 |a::l=>by have:=xI hf l;have:=hf a;simp only[d?,qR,b?];omega
theorem kx{α:Type}(f:α->Nat)(l:List α)(a:α):qR ((l++[a]).map f)=qR (l.map f)+f a:=by rw[z_,bT];simp[qR]
theorem j9{α:Type}{f:α->Nat}{l:List α}{a:α}(h:a∈l):f a<=qR (l.map f):=MD (G?.2 ⟨a,h,rfl⟩)
theorem lV{α:Type}(f:α->Nat): ∀(l:List α)(i:Nat)(a x:α),l[i]? =some x->qR ((l.set i a).map f)+f x=qR (l.map f)+f a
 |y::l,0,a,x,h=>by simp only[a?,wd]at h;subst h;simp only[List.set_cons_zero,d?,qR];omega
 |y::l,i+1,a,x,h=>by simp only[i?]at h;have:=lV f l i a x h;simp only[List.set_cons_succ,d?,qR];omega
def oh(f:zw):Nat:=1+f.l8.length+f.Qr.length
theorem Kg(x:zw):1<=oh x:=by unfold oh;omega
theorem WH(w:Int):qM (sS w) (fun r=>r.length<=20):=by unfold sS;repeat' (first|(refine .tI ?_ ?_<;>intro hT)|exact .ret (by decide))
theorem NQ(s:qa)(hs:s.length<=BN)(e:Int)(h0:0<=e)(h1:e+1<s.length)(t f:zw): ∀(m:Nat)(w:Int),m=(6-w).toNat->1<=w->
  qM (gS (s,e,w,t,f)) (fun r=> ∀y,r= .inl y->e<y.1/\y.1<=s.length/\oh y.2.2.1=oh f/\y.2.1=true):=by unfold BN at hs;intro m;induction m using r? with|_ m ih=>intro w hm h2;rw[gS.eq_1];have:= @WH;exact tW
theorem KN(s:qa)(hs:s.length<=BN)(qo:Int)(h0:0<=qo)(h1:qo<s.length)(c:Bool):qM (tN s qo c) (fun r=>r=true->qo+1<s.length):=by unfold BN at hs;unfold tN;exact tW
theorem Hi(s:qa)(hs:s.length<=BN)(stop:UInt8): ∀(m:Nat)(qo:Int)(b:List UInt8),m=(s.length-qo).toNat->0<=qo->qo<=s.length->b.length<=BN->(b.length:Int)<=qo->
  qM (uv (s,qo,stop,b)) (fun r=>qo<=r.1/\r.1<=s.length/\(r.2.length:Int)+qo<=b.length+r.1):=by unfold BN at hs;intro m;induction m using r? with|_ m ih=>intro qo b hm h0 h1 hb hb2;rw[uv.eq_1];have:= @KN;exact tW
theorem eO(s:qa)(hs:s.length<=BN)(qo:Int)(h0:0<=qo)(h1:qo<=s.length)(stop:UInt8):
  qM (gq s qo stop) (fun r=>r.2.2=true->qo<=r.2.1/\r.2.1<s.length/\(r.1.length:Int)+qo<=r.2.1):=by unfold gq;have:= @Hi;exact tW
set_option maxHeartbeats 2000000 in
theorem TF(s:qa)(hs:s.length<=BN)(qo:Int)(h0:0<=qo)(h1:qo<s.length):
  qM (fE s qo) (fun r=>r.2.2=true->qo+1<r.2.1/\r.2.1<=s.length/\(oh r.1:Int)+qo+1<=r.2.1):=by have hB:s.length<=8192:=hs;unfold fE;(repeat (first|(rw [qB];rotate_left;omega;omega)|(rw [xU];rotate_left;omega;omega)));refine .bind (fh s hs (qo+1) o? o?) fun v hv=>?_;refine .tI ?_ ?_<;>intro hT;have hc:=hT;have:=hv.2.2 hc;exact .ret fun _=>⟨u?,u?,by simp only[oh,f?];omega⟩;refine .tI ?_ ?_<;>intro hT;exact .ret z?;refine .bind .get fun b hb=>?_;refine .tI ?_ ?_<;>intro hT;exact .ret z?;refine .bind (fh s hs (qo+2) o? o?) fun w hw=>?_;refine .tI ?_ ?_<;>intro hT;exact .ret z?;have hc:=hT;have MT:=hw.2.2 (by simpa using hc.1);refine .bind .get fun b2 hb2=>?_;(repeat (first|(rw [qB];rotate_left;omega;omega)|(rw [xU];rotate_left;omega;omega)));refine .tI ?_ ?_<;>intro hT;exact .ret fun _=>⟨u?,u?,by simp only[oh,f?];omega⟩;refine .tI ?_ ?_<;>intro hT;exact .ret z?;refine .bind .get fun b3 hb3=>?_;refine .tI ?_ ?_<;>intro hT;refine .bind (NQ s hs w.2.1 o? o? _ _ _ 1 rfl o?) fun y hy=>?_;rcases y with y|y;obtain⟨g1,g2,g3,g4⟩:=hy y rfl;refine .ret fun _=>?_;simp only[oh,f?]at g3 |-;omega;exact .ret z?;(repeat (first|(rw [qB];rotate_left;omega;omega)|(rw [xU];rotate_left;omega;omega)));refine .tI ?_ ?_<;>intro hT;{refine .bind (eO s hs (w.2.1+2) o? o? 125) fun y hy=>?_;refine .tI ?_ ?_<;>intro hT;exact .ret z?;have hc:=hT;have hy:=hy hc;(repeat (first|(rw [qB];rotate_left;omega;omega)|(rw [xU];rotate_left;omega;omega)));refine .ret fun _=>?_;simp only[oh,f?];omega};refine .tI ?_ ?_<;>intro hT;{refine .bind (eO s hs (w.2.1+2) o? o? 58) fun y hy=>?_;refine .tI ?_ ?_<;>intro hT;{have hc:=hT;have hy:=hy hc;(repeat (first|(rw [qB];rotate_left;omega;omega)|(rw [xU];rotate_left;omega;omega)));refine .bind (eO s hs (y.2.1+1) o? o? 125) fun z hz=>?_;refine .tI ?_ ?_<;>intro hT;exact .ret z?;have hc:=hT;have hz:=hz hc;(repeat (first|(rw [qB];rotate_left;omega;omega)|(rw [xU];rotate_left;omega;omega)));refine .ret fun _=>?_;simp only[oh];omega};exact .ret z?};refine .tI ?_ ?_<;>intro hT;{refine .bind (eO s hs (w.2.1+2) o? o? 125) fun y hy=>?_;refine .tI ?_ ?_<;>intro hT;exact .ret z?;have hc:=hT;have hy:=hy hc;(repeat (first|(rw [qB];rotate_left;omega;omega)|(rw [xU];rotate_left;omega;omega)));refine .ret fun _=>?_;simp only[oh,f?];omega};refine .bind (eO s hs (w.2.1+1) o? o? 125) fun y hy=>?_;refine .tI ?_ ?_<;>intro hT;exact .ret z?;have hc:=hT;have hy:=hy hc;(repeat (first|(rw [qB];rotate_left;omega;omega)|(rw [xU];rotate_left;omega;omega)));refine .ret fun _=>?_;simp only[oh,f?];omega
theorem last_eq{α:Type}(l:List α)(a:α):(((l++[a]).length:Int)-1).toNat=l.length:=z?
theorem set_snoc{α:Type}(l:List α)(a b:α):(l++[a]).set l.length b=l++[b]:=z?
theorem RJ(c:UInt8)(fs:List zw)(hf:qR (fs.map oh)<=4*BN):
  qM (mM c fs) (fun r=>qR (r.map oh)<=qR (fs.map oh)+2):=by
 unfold BN at hf;have hl:=xI Kg fs;have key: ∀z:zw,z.l8=[]->z.Qr=[]->qM (qh (fs++[z]) (q?.wrap (((fs++[z]).length:Int)-1))) (fun x=>x=z):=by (intro z h1 h2;have:q?.wrap (((fs++[z]).length:Int)-1)=(fs.length:Int):=by rw[qB (by simp only[s?,b?,f?];omega) (by simp only[s?,b?,f?];omega)];simp);rw[this];refine(qM.get o? (by simp only[s?,b?,f?];omega)).mono fun x hx=>?_;have:=hx.1;simp at this;exact this.symm
 have snd: ∀(z y:zw),z.l8=[]->z.Qr=[]->y.l8=[c]->y.Qr=[]->qR (((fs++[z]).set (q?.wrap (((fs++[z]).length:Int)-1)).toNat y).map oh)<=qR (fs.map oh)+2:=by intro z y h1 h2 h3 h4;rw[qB (by simp only[s?,b?,f?];omega) (by simp only[s?,b?,f?];omega),last_eq,set_snoc,kx];simp[oh,h3,h4]
 unfold mM;refine .tI ?_ ?_<;>intro hT;refine .zE qH ?_;refine .bind (key _ rfl rfl) fun x hx=>?_;subst hx;refine .zE z? ?_;exact .ret (snd _ _ rfl rfl z? rfl);have e1:q?.wrap ((fs.length:Int)-1)=(fs.length:Int)-1:=qB o? o?;rw[e1];refine .bind .get fun x hx=>?_;have L5:=j9 (f:=oh) hx.2;refine .tI ?_ ?_<;>intro hT;refine .zE qH ?_;refine .bind (key _ rfl rfl) fun x hx=>?_;subst hx;refine .zE z? ?_;exact .ret (snd _ _ rfl rfl z? rfl);refine .zE (by simp only[oh]at L5;simp;omega) ?_;refine .ret ?_;have:=lV oh fs ((fs.length:Int)-1).toNat (zw.mk x.kind x.n x.Yp (x.l8++[c]) x.Qr) x hx.1;simp only[oh,s?,b?,f?]at this |-;have e2:qR (w? (fun f=>1+f.l8.length+f.Qr.length) (fs.set ((fs.length:Int)-1).toNat (zw.mk x.kind x.n x.Yp (x.l8++[c]) x.Qr)))=qR (w? oh (fs.set ((fs.length:Int)-1).toNat (zw.mk x.kind x.n x.Yp (x.l8++[c]) x.Qr))):=rfl;omega
theorem Y3(s:qa)(hs:s.length<=BN): ∀(m:Nat)(qo:Int)(fs:List zw),m=(s.length-qo).toNat->0<=qo->qo<=s.length->(qR (fs.map oh):Int)<=2*qo->
  qM (wk (s,qo,fs)) (fun r=>qo<=r.1/\r.1<=s.length/\(qR (r.2.map oh):Int)+2*qo<=qR (fs.map oh)+2*r.1):=by have hB:s.length<=8192:=hs;intro m;induction m using r? with|_ m ih=>intro qo fs hm h0 h1 hw;have hl:=xI Kg fs;rw[wk.eq_1];have:= @RJ;have:= @TF;have:= @kx;have:= @KN;exact tW
theorem TT(s:qa)(hs:s.length<=BN)(qo:Int):
  qM (fD s qo) (fun r=>r.2.2=true->0<=qo/\qo<=r.2.1/\r.2.1<s.length/\(qR (r.1.l.map oh):Int)+Uv r.1<=2*(r.2.1-qo)):=by unfold fD;refine .tI ?_ ?_<;>intro hT;exact .ret z?;refine .bind (Y3 s hs _ qo [] rfl o? o? (by simp[qR];omega)) fun v hv=>?_;refine .tI ?_ ?_<;>intro hT;exact .ret z?;refine .ret fun _=>?_;simp only[z!,qR,K9]at hv |-;omega
def gC(r:qW):Nat:=1+r.qO.length+r.to.length
theorem d6(r:qW):1<=gC r:=by unfold gC;omega
mutual
def sc:qF->Nat
 |⟨_,c,_,rows,_,_,_,qD⟩=>1+c.length+qR (rows.l.map gC)+Uv rows+rxWS qD
def rxWS:Sl qF->Nat
 |⟨z,l⟩=>rxWL l+Uv (⟨z,l⟩:Sl qF)
def rxWL:List qF->Nat
 |[]=>0
 |x::r=>sc x+rxWL r
end
theorem Mk: ∀l:List qF,rxWL l=qR (l.map sc)
 |[]=>by simp[rxWL,qR]
 |x::r=>by simp[rxWL,qR,Mk r]
theorem yL(x:qF):sc x=1+x.char.length+qR (x.rows.l.map gC)+qR (x.qD.l.map sc)+(Uv x.rows+Uv x.qD):=by cases x with|mk a b c d e f g h=>cases h;simp[sc,rxWS,Mk];omega
theorem oC(x:qF):1<=sc x:=by rw[yL];omega
theorem cG(b:UInt8):qM (ye b) (fun _=>True):=by unfold ye;repeat' (first|(refine .tI ?_ ?_<;>intro hT)|exact .ret trivial)
theorem Gb(s:qa)(hs:s.length<=BN): ∀(m:Nat)(f i:Int)(l:List qa),m=(s.length+1-i).toNat->0<=f->f<i->i<=s.length+1->(l.length:Int)<=f->(∀ c∈l,c.length<=s.length)->
  qM (zS (s,f,i,l)) (fun r=>r.length<=s.length+1/\ ∀c∈r,c.length<=s.length):=by have hB:s.length<=8192:=hs;intro m;induction m using Nat.strongRecOn with|_ m ih=>(intro f i l hm h0 h1 h2 h3 h4;rw[zS.eq_1];have more:i<=s.length-> ∀r:qa,(r.length:Int)=i-f-> ∀c∈l++[r],c.length<=s.length:=by intro hi r hr c hc;rcases List.mem_append.1 hc with hc|hc;exact h4 c hc;(have:c=r:=by simpa using hc);subst this;omega);refine .tI ?_ ?_<;>intro hT;{refine .tI ?_ ?_<;>intro hT;exact tW;refine .bind .get fun b hb=>?_;refine .bind (cG b) fun v hv=>?_;refine .tI ?_ ?_<;>intro hT;exact tW;(repeat (first|(rw [qB];rotate_left;omega;omega)|(rw [xU];rotate_left;omega;omega)));exact ih _ o? f (i+1) _ rfl o? o? o? o? h4};exact .ret ⟨by show l.length<=_;omega,h4⟩
theorem Ux(s:qa)(hs:s.length<=BN):qM (yQ s) (fun r=>r.l.length<=s.length+1/\ ∀c∈r.l,c.length<=s.length):=by unfold yQ;have:= @zS.eq_1;have:= @Gb;exact tW
theorem Z7(c:qa)(hc:c.length<=BN):qM (jE c) (fun _=>True):=by unfold jE;refine .tI ?_ ?_<;>intro hT;refine .bind .get fun b hb=>?_;refine .bind (cG b) fun v hv=>?_;have:= @Ux;exact tW;exact .ret trivial
theorem BW: ∀(m:Nat)(i:Int)(b:List UInt8),m=(b.length-i).toNat->0<=i->b.length<=BN->qM (wj (i,b)) (fun r=>r.length=b.length):=by intro m;induction m using r? with|_ m ih=>intro i b hm h0 hb;have hB:b.length<=8192:=hb;rw[wj.eq_1];exact tW
theorem Oq(s:qa)(hs:s.length<=BN):qM (gQ s) (fun r=>r.length=s.length):=by unfold gQ;have:= @BW;exact tW
theorem YV(c:UInt8):qM (tZ c) (fun r=>qR (r.1.l.map gC)+Uv r.1<=12):=by unfold tZ;repeat' (first|(refine .tI ?_ ?_<;>intro hT)|exact .ret (by decide))
theorem W4(c:qa):qM (vA c) (fun r=>r.1.length<=c.length+1/\(r.2=true->0<c.length)):=by
 unfold vA;refine .tI ?_ ?_<;>intro hT;exact .ret z?;have h0:=hT;have h1:0<c.length:=M?.2 h0;repeat' (first|(refine .tI ?_ ?_<;>intro hT)|exact .ret ⟨by simp,fun _=>h1⟩)
 refine .bind .get fun b hb=>?_;refine .bind (tK b) fun v hv=>?_;refine .tI ?_ ?_<;>intro hT;exact .ret z?;refine .bind (nZ b) fun w hw=>?_;refine .tI ?_ ?_<;>intro hT;exact .ret z?;exact .ret ⟨z?,fun _=>h1⟩
structure Zu (cs:Sl qa):Prop where
 many:cs.l.length<=257
 each: ∀c∈cs.l,c.length<=256
theorem dE{cs:Sl qa}(hc:Zu cs)(b:qd)(h:b.cs=cs)(h0:0<=b.qo):
  qM (xv b) (fun r=>r.length<=256/\(r≠[]->b.qo<cs.l.length)):=by unfold xv;rw[h];refine .tI ?_ ?_<;>intro hT;exact .ret z?;refine .bind (qM.get h0 o?) fun x hx=>?_;exact .ret ⟨hc.each x hx.2,fun _=>o?⟩
theorem Vj{cs:Sl qa}(hc:Zu cs)(c:qa)(b:qd)(h:b.cs=cs)(h0:0<=b.qo):
  qM (qN c b) (fun r=>r.2.cs=cs/\(r.1=true->r.2.qo=b.qo+1/\b.qo<cs.l.length)/\(r.1=false->r.2=b)):=by have hm:=hc.many;unfold qN;exact tW
def pK(rows:List qW):Prop:= ∀r∈rows,r.qO.length<=300/\r.to.length<=300
theorem pK.app{a b:List qW}(h1:pK a)(h2:pK b):pK (a++b):=by intro r hr;rcases p?.1 hr with hr|hr;exact h1 r hr;exact h2 r hr
theorem pK.one{f t:qa}(h1:f.length<=300)(h2:t.length<=300):pK [qW.mk f t]:=by
 intro r hr;have:r=qW.mk f t:=by simpa using hr
 subst this;exact⟨h1,h2⟩
theorem pK.light{rows:List qW}(h:qR (rows.map gC)<=300):pK rows:=by intro r hr;have:=j9 (f:=gC) hr;simp only[gC]at this;exact tW
section
variable {cs:Sl qa} (hc:Zu cs)
include hc
theorem Nf(b:qd)(h:b.cs=cs)(h0:0<=b.qo)(h1:b.qo<=cs.l.length):
  qM (vX b) (fun r=>r.2.2.2.cs=cs/\0<=r.2.2.2.qo/\(r.2.2.1=true->b.qo<r.2.2.2.qo/\r.2.2.2.qo<=cs.l.length/\qR (r.1.l.map gC)<=12/\r.2.1.length<=257)):=by
 have hm:=hc.many;unfold vX;refine .bind (dE hc b h h0) fun v hv=>?_;refine .tI ?_ ?_<;>intro hT;exact .ret ⟨h,h0,z?⟩;have h2:=hT;have h3:=hv.2 h2.1;(repeat (first|(rw [qB];rotate_left;omega;omega)|(rw [xU];rotate_left;omega;omega)));refine .tI ?_ ?_<;>intro hT;exact .ret ⟨h,u?,fun _=>⟨u?,u?,by simp[qR],u?⟩⟩;refine .bind (dE hc (qd.mk b.cs (b.qo+1)) h u?) fun w hw=>?_;simp only at hw;(repeat (first|(rw [qB];rotate_left;omega;omega)|(rw [xU];rotate_left;omega;omega)))
 have esc:qM (vA w>>=fun yA=>
   some ((⟨true,([]:List qW)⟩:Sl qW),yA.1,yA.2,(qd.mk b.cs (b.qo+1+1))))
   (fun r=>r.2.2.2.cs=cs/\0<=r.2.2.2.qo/\(r.2.2.1=true->b.qo<r.2.2.2.qo/\r.2.2.2.qo<=cs.l.length/\qR (r.1.l.map gC)<=12/\r.2.1.length<=257)):=by
  refine .bind (W4 w) fun y hy=>?_;refine .ret ⟨h,u?,fun QJ=>?_⟩;simp only at QJ |-;have hy3:=hy.2 QJ;have MT:=hw.2 (S! hy3);exact⟨o?,o?,by simp[qR],o?⟩
 have:= @YV;exact tW
theorem UU(t:qF)(x:qF)(a0:Int): ∀(m:Nat)(b:qd)(rows:List qW),m=(cs.l.length-b.qo).toNat->b.cs=cs->0<=a0->a0<=b.qo->b.qo<=cs.l.length->(qR (rows.map gC):Int)<=600*(b.qo-a0)->pK rows->
  qM (zG (b,t,x,rows)) (fun r=>(∀ y,r= .inl y->y.1≠0/\y.2.1.cs=cs)/\
   ∀y,r= .inr y->y.1.cs=cs/\b.qo<y.1.qo/\y.1.qo<=cs.l.length/\(qR (y.2.map gC):Int)<=600*(y.1.qo-a0)/\pK y.2):=by
 have hm:=hc.many;intro m;induction m using r? with
  |_ m ih=>
   intro b rows OR h Ec h0 h1 hw hro;have hl:=xI d6 rows;rw[zG.eq_1];refine .bind (Vj hc _ b h o?) fun v hv=>?_;have next: ∀(b2:qd)(Mi:List qW),b2.cs=cs->b.qo<b2.qo->b2.qo<=cs.l.length->(qR (Mi.map gC):Int)<=600*(b2.qo-a0)->pK Mi->
     qM (zG (b2,t,x,Mi)) (fun r=>(∀ y,r= .inl y->y.1≠0/\y.2.1.cs=cs)/\
      ∀y,r= .inr y->y.1.cs=cs/\b.qo<y.1.qo/\y.1.qo<=cs.l.length/\(qR (y.2.map gC):Int)<=600*(y.1.qo-a0)/\pK y.2):=by
    intro b2 Mi g1 g2 g3 g4 g5;refine(ih _ o? b2 Mi rfl g1 Ec o? g3 g4 g5).mono fun r hr=>⟨hr.1,fun y hy=>?_⟩;have:=hr.2 y hy;exact⟨this.1,o?,this.2.2.1,this.2.2.2⟩
   refine .tI ?_ ?_<;>intro hT
   ·have ZQ:=hT;have e:=hv.2.2 ZQ;rw[e];refine .bind (Nf hc b h o? h1) fun w Wp=>?_;refine .tI ?_ ?_<;>intro hT;refine .ret ⟨fun y hy=>?_,fun y hy=>by cases hy⟩;cases hy;exact⟨z?,Wp.1⟩;have dx:=hT;obtain⟨g1,g2,g3⟩:=Wp;obtain⟨g3,g4,g5,g6⟩:=g3 dx;have T1:=xI d6 w.1.l;refine .tI ?_ ?_<;>intro hT;{refine .tI ?_ ?_<;>intro hT;{exact next _ _ g1 g3 g4 o? hro};refine .zE qH ?_;exact next _ _ g1 g3 g4 (by rw[z_,bT];omega) (hro.app (pK.light o?))}
    refine .bind (dE hc w.2.2.2 g1 g2) fun y hy=>?_;have one:qM (if qi (rows.length+1) 32=true then zG (w.2.2.2,t,x,(rows++[(qW.mk w.2.1 w.2.1)]))else none)
      (fun r=>(∀ y,r= .inl y->y.1≠0/\y.2.1.cs=cs)/\
       ∀y,r= .inr y->y.1.cs=cs/\b.qo<y.1.qo/\y.1.qo<=cs.l.length/\(qR (y.2.map gC):Int)<=600*(y.1.qo-a0)/\pK y.2):=by
     refine .zE qH ?_;exact next _ _ g1 g3 g4 (by rw[kx];simp only[gC];omega) (hro.app (pK.one o? o?))
    rw[g1];refine .tI ?_ ?_<;>intro hT;{(repeat (first|(rw [qB];rotate_left;omega;omega)|(rw [xU];rotate_left;omega;omega)));refine .bind .get fun c Vq=>?_;refine .tI ?_ ?_<;>intro hT;{refine .bind (Nf hc (qd.mk cs (w.2.2.2.qo+1)) rfl u? u?) fun z hz=>?_;simp only at hz;refine .tI ?_ ?_<;>intro hT;refine .ret ⟨fun y hy=>?_,fun y hy=>by cases hy⟩;cases hy;exact⟨z?,hz.1⟩;have hok2:=hT;obtain⟨k1,k2,k3⟩:=hz;obtain⟨k3,k4,k5,k6⟩:=k3 hok2.1;refine .zE qH ?_;exact next _ _ k1 o? k4 (by rw[kx];simp only[gC];omega) (hro.app (pK.one o? o?))};exact one};exact one
   have ZQ:=hT;obtain⟨g1,g2⟩:=hv.2.1 ZQ;refine .ret ⟨fun y hy=>(by cases hy),fun y hy=>?_⟩;cases hy;exact⟨hv.1,u?,u?,u?,hro⟩
end
theorem Gj(rows s:Sl qW)(i:Int)(x:qW)(hs:s.l.length<=1000000): ∀(m:Nat)(k:Int),m=k.toNat->0<=k->k<=s.l.length->qM (uq (rows,s,i,k,x)) (fun r=>0<=r/\r<=s.l.length):=by intro m;induction m using r? with|_ m ih=>intro k hm h0 h1;rw[uq.eq_1];exact tW
theorem Gi(rows:Sl qW)(hw:qR (rows.l.map gC)<=1000000)(he: ∀r∈rows.l,r.qO.length<=BN/\r.to.length<=BN): ∀(r:List qW)(k:Nat)(s:Sl qW),rows.l.drop k=r->qR (s.l.map gC)+qR (r.map gC)<=qR (rows.l.map gC)->
  qM (wq (rows,s,(k:Int))) (fun t=>qR (t.l.map gC)<=qR (rows.l.map gC)):=by have hl:=xI d6 rows.l;intro r;induction r with|nil=>intro k s hk hs;rw[wq.eq_1];have:=vV hk;refine .tI ?_ ?_<;>intro hT;omega;exact .ret (by simp[qR]at hs;exact hs)|cons x r ih=>intro k s hk hs;obtain⟨h1,h2,h3⟩:=drop_cons hk;have hx:=he x (zc h1);have T1:=xI d6 s.l;simp only[d?,qR]at hs;rw[wq.eq_1];have e1:q?.wrap ((k:Int)+1)=((k+1:Nat):Int):=px o?;rw[e1];refine .tI ?_ ?_<;>intro hT;refine .bind (P:=fun y=>y=x) ⟨x,by rw[xk h3];simpa[wK h3]using h1,rfl⟩ fun y hy=>?_;subst hy;refine .bind (Z7 _ hx.1) fun v hv=>?_;refine .tI ?_ ?_<;>intro hT;exact ih (k+1) s h2 o?;refine .bind (Z7 _ hx.2) fun w MT=>?_;refine .tI ?_ ?_<;>intro hT;exact ih (k+1) s h2 o?;(refine .bind (Gj rows s k y o? _ _ rfl o? o?) fun z hz=>?_;refine .bind (qM.we hz.1 hz.2) fun a ha=>?_;refine .zE qH ?_;refine .zE qH ?_;refine .bind (qM.mj hz.1 hz.2) fun b hb=>?_;refine .zE (qH v? o?) ?_;refine ih (k+1) _ h2 ?_;have e2:qR (s.l.map gC)=qR (a.map gC)+qR (b.map gC):=by rw[<- bT,<- z_,ha.1,hb.1,a_]);simp only[z_,bT,d?,z!,qR];omega;omega
theorem Gk(s:Sl qW)(hw:qR (s.l.map gC)<=1000000): ∀(r:List qW)(k:Nat)(out:List qW),s.l.drop k=r->qR (out.map gC)+qR (r.map gC)<=qR (s.l.map gC)->
  qM (wu (s,(k:Int),out)) (fun t=>qR (t.map gC)<=qR (s.l.map gC)):=by have hl:=xI d6 s.l;intro r;induction r with|nil=>intro k out hk hs;rw[wu.eq_1];have:=vV hk;refine .tI ?_ ?_<;>intro hT;omega;exact .ret (by simp[qR]at hs;exact hs)|cons x r ih=>intro k out hk hs;obtain⟨h1,h2,h3⟩:=drop_cons hk;have T1:=xI d6 out;simp only[d?,qR]at hs;rw[wu.eq_1];have e1:q?.wrap ((k:Int)+1)=((k+1:Nat):Int):=px o?;rw[e1];have hg:qM (qh s.l (k:Int)) (fun y=>y=x):=⟨x,by rw[xk h3];simpa[wK h3]using h1,rfl⟩;refine .tI ?_ ?_<;>intro hT;refine .tI ?_ ?_<;>intro hT;refine .bind hg fun y hy=>?_;subst hy;have e2:q?.wrap ((out.length:Int)-1)=(out.length:Int)-1:=qB o? o?;rw[e2];refine .bind .get fun z hz=>?_;refine .tI ?_ ?_<;>intro hT;(refine ih (k+1) _ h2 ?_;have:=lV gC out ((out.length:Int)-1).toNat (qW.mk z.qO (if kr z.to y.to=true then y.to else z.to)) z hz.1;have e3:gC (qW.mk z.qO (if kr z.to y.to=true then y.to else z.to))<=gC z+gC y:=by simp only[gC];split<;>omega);omega;refine .zE qH ?_;exact ih (k+1) _ h2 (by rw[kx];omega);refine .bind hg fun y hy=>?_;subst hy;refine .zE qH ?_;exact ih (k+1) _ h2 (by rw[kx];omega);omega
theorem J3(rows:Sl qW)(hw:qR (rows.l.map gC)<=1000000)(he: ∀r∈rows.l,r.qO.length<=BN/\r.to.length<=BN):qM (cL rows) (fun t=>qR (t.l.map gC)+Uv t<=qR (rows.l.map gC)):=by unfold cL;have h:=Gi rows hw he rows.l 0 (⟨true,[]⟩:Sl qW) rfl (by simp[qR]);rw[show ((0:Nat):Int)=0 from rfl]at h;refine .bind h fun v hv=>?_;exact .bind (Gk v o? v.l 0 [] rfl (by simp[qR])) fun w hw=> .ret (by rw[K9];simp only;omega)
section
variable {cs:Sl qa} (hc:Zu cs)
include hc
theorem DA(b:qd)(h:b.cs=cs)(h0:0<=b.qo)(h1:b.qo<=cs.l.length):
  qM (uu b) (fun r=>r.2.2.cs=cs/\(r.2.1=0->b.qo<r.2.2.qo/\r.2.2.qo<=cs.l.length/\(sc r.1:Int)<=600*(r.2.2.qo-b.qo)+1)):=by
 have hm:=hc.many;unfold uu;refine .bind (Vj hc _ b h h0) fun v hv=>?_;have hb:b.qo<=v.2.qo/\v.2.qo<=cs.l.length:=by cases ZQ:v.1;rw[hv.2.2 ZQ];omega;have:=hv.2.1 ZQ;omega
 refine .bind (UU hc _ _ b.qo _ v.2 [] rfl hv.1 h0 hb.1 hb.2 (by simp[qR];omega) (by intro r hr;cases hr)) fun w hw=>?_;rcases w with y|y;exact tW;obtain⟨g1,g2,g3,g4,g5⟩:=hw.2 y rfl;refine .bind (J3 (⟨y.2.isEmpty,y.2⟩:Sl qW) u? (fun r hr=>by have:=g5 r hr;unfold BN;omega)) fun z hz=>?_;refine .ret ⟨g1,fun _=>⟨u?,g3, ?_⟩⟩;simp only[yL,dG,Zf,K9,f?,z!,qR]at hz |-;omega
theorem PC(b:qd)(h:b.cs=cs)(h0:0<=b.qo)(h1:b.qo<=cs.l.length):
  qM (gp b) (fun r=>r.2.2.cs=cs/\(r.2.1=0->b.qo<r.2.2.qo/\r.2.2.qo<=cs.l.length/\sc r.1<=300)):=by
 have hm:=hc.many;unfold gp;refine .bind (dE hc b h h0) fun v hv=>?_;refine .bind (Oq v (by unfold BN;omega)) fun w hw=>?_;(repeat (first|(rw [qB];rotate_left;omega;omega)|(rw [xU];rotate_left;omega;omega)))
 have esc:qM (vA v>>=fun tv=>
   if(!tv.2)then
    some ((qF.mk (0:Int) ([]:qa) false (⟨true,([]:List qW)⟩:(Sl qW)) (0:Int) (0:Int) false (⟨true,([]:List qF)⟩:(Sl qF))),(10:Int),b)
   else
    some ((qF.mk (2:Int) tv.1 false (⟨true,([]:List qW)⟩:(Sl qW)) (0:Int) (0:Int) false (⟨true,([]:List qF)⟩:(Sl qF))),(0:Int),(qd.mk b.cs (b.qo+1))))
   (fun r=>r.2.2.cs=cs/\(r.2.1=0->b.qo<r.2.2.qo/\r.2.2.qo<=cs.l.length/\sc r.1<=300)):=by
  refine .bind (W4 v) fun y hy=>?_;refine .tI ?_ ?_<;>intro hT
  ·exact .ret ⟨h,z?⟩
  have hy1:=hT;have QJ:=hy.2 hy1;have Ei:=hv.2 (S! QJ);refine .ret ⟨h,fun _=>⟨u?,u?, ?_⟩⟩;simp only[yL,dG,Zf,K9,z!,qR];omega
 refine .tI ?_ ?_<;>intro hT;refine .bind .get fun c Vq=>?_;refine .bind (YV c) fun y hy=>?_;refine .tI ?_ ?_<;>intro hT;have Ei:=hv.2 (S! o?);refine .ret ⟨h,fun _=>⟨u?,u?, ?_⟩⟩;simp only[yL,dG,Zf,K9,f?,z!,qR];omega;exact esc;exact esc
theorem K4: ∀(m:Nat)(n k:Int)(b:qd),m=(3-k).toNat->0<=k->b.cs=cs->0<=b.qo->b.qo<=cs.l.length->0<=n->(k=0/\n<1\/k=1/\n<10\/k=2/\n<100\/k=3/\n<1000)->
  qM (kb (n,k,b)) (fun r=>0<=r.1/\r.1<1000/\k<=r.2.1/\r.2.2.cs=cs/\b.qo<=r.2.2.qo/\r.2.2.qo<=cs.l.length):=by have hm:=hc.many;intro m;induction m using r? with|_ m ih=>intro n k b OR hk h h0 h1 hn hkn;rw[kb.eq_1];refine .tI ?_ ?_<;>intro hT;{refine .bind (dE hc b h h0) fun v hv=>?_;refine .tI ?_ ?_<;>intro hT;{have Ei:=hv.2 (S! o?);refine .bind .get fun c Vq=>?_;refine .bind (nZ c) fun w hw=>?_;refine .tI ?_ ?_<;>intro hT;{have Wp:=hT;have MT:=hw Wp;(try simp(disch:=omega) only[qB,xU]);exact(ih _ o? _ (k+1) (qd.mk b.cs (b.qo+1)) rfl o? h u? u? o? o?).mono fun r hr=>by simp only at hr;exact⟨hr.1,hr.2.1,o?,hr.2.2.2.1,o?,hr.2.2.2.2.2⟩};exact .ret ⟨hn,u?,z?,h,z?,h1⟩};exact .ret ⟨hn,u?,z?,h,z?,h1⟩};exact .ret ⟨hn,u?,z?,h,z?,h1⟩
theorem ZZ(b:qd)(h:b.cs=cs)(h0:0<=b.qo)(h1:b.qo<=cs.l.length):
  qM (wG b) (fun r=>0<=r.1/\r.1<1000/\r.2.2.cs=cs/\b.qo<=r.2.2.qo/\r.2.2.qo<=cs.l.length):=by unfold wG;have:= @K4;exact tW
end
theorem rep_W(x:qF)(a b:Int)(l:Bool):sc (qF.mk (7:Int) ([]:qa) false (⟨true,[]⟩:(Sl qW)) a b l (⟨false,[x]⟩:(Sl qF)))=1+sc x:=by rw[yL];simp[qR,dG,Zf]
theorem Nj(kind:Int)(xs:Sl qF)(hw:qR (xs.l.map sc)<=1000000): ∀(r:List qF)(k:Nat)(l:List qF),xs.l.drop k=r->qR (l.map sc)+qR (r.map sc)<=qR (xs.l.map sc)->
  qM (vw (kind,xs,(k:Int),l)) (fun t=>qR (t.map sc)<=qR (xs.l.map sc)):=by have hl:=xI oC xs.l;intro r;induction r with|nil=>intro k l hk hs;rw[vw.eq_1];have:=vV hk;exact tW|cons x r ih=>intro k l hk hs;obtain⟨h1,h2,h3⟩:=drop_cons hk;have T1:=xI oC l;have hl3:=xI oC x.qD.l;have hx:=yL x;simp only[d?,qR]at hs;rw[vw.eq_1];have:= @bT;have:= @kx;exact tW
theorem Nl(kind:Int)(xs:Sl qF)(hw:qR (xs.l.map sc)<=1000000):qM (sQ kind xs) (fun t=>qR (t.l.map sc)+Uv t<=qR (xs.l.map sc)):=by unfold sQ;exact .bind (Nj kind xs hw xs.l 0 [] rfl (by simp[qR])) fun w hw=> .ret (by rw[K9];simp only;omega)
theorem seq_tot(xs:Sl qF)(hw:qR (xs.l.map sc)<=1000000):qM (ie xs) (fun t=>sc t<=1+qR (xs.l.map sc)):=by unfold ie;refine .bind (Nl 0 xs hw) fun v hv=>?_;refine .tI ?_ ?_<;>intro hT;have:= @j9;exact tW;refine .ret ?_;simp only[yL,dG,Zf,K9,f?,z!,qR];omega
theorem alt_tot(xs:Sl qF)(hw:qR (xs.l.map sc)<=1000000):qM (ia xs) (fun t=>sc t<=1+qR (xs.l.map sc)):=by unfold ia;refine .bind (Nl 1 xs hw) fun v hv=>?_;refine .tI ?_ ?_<;>intro hT;refine .ret ?_;simp only[yL,dG,Zf,K9,f?,z!,qR];omega;refine .tI ?_ ?_<;>intro hT;have:= @j9;exact tW;refine .ret ?_;simp only[yL,dG,Zf,K9,f?,z!,qR];omega
section
variable {cs:Sl qa} (hc:Zu cs)
include hc
theorem kg(c:qa)(b:qd)(h:b.cs=cs)(h0:0<=b.qo)(h1:b.qo<=cs.l.length):
  qM (qN c b) (fun r=>r.2.cs=cs/\b.qo<=r.2.qo/\r.2.qo<=cs.l.length/\(r.1=true->r.2.qo=b.qo+1)/\(r.1=false->r.2.qo=b.qo)):=by refine(Vj hc c b h h0).mono fun r hr=>?_;cases h2:r.1;exact tW;exact tW
def Iv(cs:Sl qa)(x:qF)(a:Int)(r:qF×Int×qd):Prop:=
 r.2.2.cs=cs/\(r.2.1=0->a<=r.2.2.qo/\r.2.2.qo<=cs.l.length/\(sc r.1:Int)<=sc x+(r.2.2.qo-a))
theorem E0(x:qF)(b:qd)(h:b.cs=cs)(h0:0<=b.qo)(h1:b.qo<=cs.l.length):
  qM (kM x b) (Iv cs x b.qo):=by
 have last: ∀(w:qd)(p q:Int),w.cs=cs->b.qo<w.qo->w.qo<=cs.l.length->qM (qN ([63]:qa) w>>=fun v5=>
   some ((qF.mk (7:Int) ([]:qa) false (⟨true,[]⟩:(Sl qW)) p q v5.1 (⟨false,[x]⟩:(Sl qF))),(0:Int),v5.2)) (Iv cs x b.qo):=by
  intro w p q g1 g2 g3;refine .bind (kg hc _ w g1 o? g3) fun z hz=>?_;refine .ret ⟨hz.1,fun _=>⟨u?,u?, ?_⟩⟩;simp only[rep_W];omega
 unfold kM;refine .bind (kg hc _ b h h0 h1) fun v hv=>?_;refine .tI ?_ ?_<;>intro hT;exact last _ _ _ hv.1 (by have g:=hT;have:=hv.2.2.2.1 g;omega) o?;have g1:=hT;have ZQ:=hv.2.2.2.2 g1;refine .bind (kg hc _ v.2 hv.1 o? o?) fun w hw=>?_;refine .tI ?_ ?_<;>intro hT;exact last _ _ _ hw.1 (by have g:=hT;have:=hw.2.2.2.1 g;omega) o?;have g2:=hT;have Wp:=hw.2.2.2.2 g2;refine .bind (kg hc _ w.2 hw.1 o? o?) fun y hy=>?_;refine .tI ?_ ?_<;>intro hT;exact last _ _ _ hy.1 (by have g:=hT;have:=hy.2.2.2.1 g;omega) o?;have g3:=hT;have hy1:=hy.2.2.2.2 g3;refine .bind (kg hc _ y.2 hy.1 o? o?) fun z hz=>?_;refine .tI ?_ ?_<;>intro hT;have g4:=hT;have hz1:=hz.2.2.2.1 g4;refine .bind (ZZ hc z.2 hz.1 o? o?) fun n hn=>?_;refine .tI ?_ ?_<;>intro hT;exact .ret ⟨hn.2.2.1,z?⟩;refine .bind (kg hc _ n.2.2 hn.2.2.1 o? o?) fun k hk=>?_;refine .tI ?_ ?_<;>intro hT;refine .bind (dE hc k.2 hk.1 o?) fun s hs=>?_;refine .tI ?_ ?_<;>intro hT;refine .bind (ZZ hc k.2 hk.1 o? o?) fun q hq=>?_;refine .tI ?_ ?_<;>intro hT;exact .ret ⟨hq.2.2.1,z?⟩;refine .bind (kg hc _ q.2.2 hq.2.2.1 o? o?) fun p hp=>?_;refine .tI ?_ ?_<;>intro hT;exact .ret ⟨hp.1,z?⟩;exact last _ _ _ hp.1 o? o?;refine .bind (kg hc _ k.2 hk.1 o? o?) fun p hp=>?_;refine .tI ?_ ?_<;>intro hT;exact .ret ⟨hp.1,z?⟩;exact last _ _ _ hp.1 o? o?;refine .bind (kg hc _ k.2 hk.1 o? o?) fun p hp=>?_;refine .tI ?_ ?_<;>intro hT;exact .ret ⟨hp.1,z?⟩;exact last _ _ _ hp.1 o? o?;have g4:=hT;have hz1:=hz.2.2.2.2 g4;exact .ret ⟨hz.1,fun _=>⟨u?,u?,u?⟩⟩
end
end Go.Proofs.YtnfdnckadgcifaaGreat
