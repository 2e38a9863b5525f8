/-
  A regular expression, read from a text.
-/
import Derived.Test.YtmllebdamdnhoaaGreatAal
set_option linter.unusedSimpArgs false
set_option linter.unusedVariables false
namespace Go.Proofs.YtmllebdamdnhoaaGreat
open Go Go.Gm
namespace Xr
abbrev NI(e:qo)(sd:List Int):=bZ e.span.qO e.span.to e.text.length (lX sd)
def core(x:qu):Int×Bool×Bool×zf×Sl qa:=(x.n,x.first,x.qJ,x.qP,x.opts)
theorem Zv(i:qw)(is:List qw)(a:Nat):zi (i::is) (a+1)=1+i.stops.l.length+zi is a:=by simp[zi]
theorem Pg: ∀(is:List qw)(b a:Nat)(i:qw),is[a]? =some i-> ∀r,r<1+i.stops.l.length->(bp b is)[zi is a+r]? =(sW (b+zi is a) i)[r]? :=by
 intro is;induction is with
 |nil=>intro b a i h;simp at h
 |cons i0 is ih=>
  intro b a i h r hr;have hL:=aO b i0;cases a with
  |zero=>
   simp only[List.getElem?_cons_zero,kX]at h;subst h;have:zi (i0::is) 0=0:=by simp[zi]
   rw[this,bp,Nat.zero_add,List.getElem?_append_left (by omega),Nat.add_zero]
  |succ a=>
   simp only[List.getElem?_cons_succ]at h;rw[Zv,bp,List.getElem?_append_right (by omega),hL,show 1+i0.stops.l.length+zi is a+r-(1+i0.stops.l.length)=zi is a+r by omega,ih (b+1+i0.stops.l.length) a i h r hr];rw[show b+1+i0.stops.l.length+zi is a=b+(1+i0.stops.l.length+zi is a) by omega]
section
variable (e:qo) (n:Int) (he:gx e n) (mark:Bool) (sd:List Int) (s:qc) (Wu:qc) (cur:Int)
include he in
theorem OA(hs:jX s)(hm:cw s.insts.l n)(hsd:sd.length<=2^30)
  (Ec: ∀(b0:Nat)(i:qw),i∈s.insts.l->(∀ r x,(sW b0 i)[r]? =some x->(bp 0 s.insts.l)[b0+r]? =some x)-> ∀(k:Nat)(x:qu),i.stops.l[k]? =some x-> -1<=x.up/\ ∀p:Nat,x.up=p->p<k/\(lX sd (b0+1+k)≠1->lX sd (b0+1+p)≠1))
  (fl:Sl (Sl Int)) (Z5:fp s.insts.l fl):
  ∀(r:List qw)(a b0:Nat)(flags:Sl (Sl Int))(out:List qw),s.insts.l.drop a=r->(∀ q x,(bp b0 r)[q]? =some x->(bp 0 s.insts.l)[b0+q]? =some x)->b0+(bp b0 r).length=sd.length->fp out flags->out.length<=a->
  ∃Yg,wM (mark,⟨false,sd⟩,(b0:Int),(a:Int),fl,s,e,Wu,cur,flags,out)=some (fl,Yg,out++NI e sd b0 r)/\fp (out++NI e sd b0 r) Yg:=by
 intro r;have nh:=hs.1;induction r with
 |nil=>
  intro a b0 flags out h _ _ hF _;have:=zc h;rw[wM.eq_1,if_neg (by simp;omega)];exact⟨flags,by simp[bZ],by simpa[bZ]using hF⟩
 |cons i r ih=>
  intro a b0 flags out h cD hlen hF ho;obtain⟨h1,h2,h3⟩:=zp h;have tQ:=qX h1;have hi:=hs.2 i tQ;have hmi:=hm.may a i h1;have hrg:=hmi.QN;have hL:=aO b0 i;have jv:s.insts.l≠[]:=fun c=>by rw[c]at h3;simp at h3
  have hr1: ∀q x,(sW b0 i)[q]? =some x->(bp 0 s.insts.l)[b0+q]? =some x:=by
   intro q x hx;have hq:=(qF hx).1;exact cD q x (by rw[bp,List.getElem?_append_left (by omega)];exact hx)
  have hr2: ∀q x,(bp (b0+1+i.stops.l.length) r)[q]? =some x->(bp 0 s.insts.l)[b0+1+i.stops.l.length+q]? =some x:=by
   intro q x hx;have:=cD (1+i.stops.l.length+q) x (by rw[bp,List.getElem?_append_right (by omega),hL,show 1+i.stops.l.length+q-(1+i.stops.l.length)=q by omega];exact hx);rwa[show b0+(1+i.stops.l.length+q)=b0+1+i.stops.l.length+q by omega]at this
  have E6:b0+1+i.stops.l.length+(bp (b0+1+i.stops.l.length) r).length=sd.length:=by
   rw[bp,List.length_append,hL]at hlen;omega
  obtain⟨sv,hsv⟩:=gl (l:=sd) (k:=b0) (by omega);have Ei:lX sd b0=sv:=by simp[lX,hsv]
  obtain⟨f0,hf0⟩:=gl (l:=fl.l) (k:=a) (by rw[Z5.len];omega);obtain⟨k1,k2,k3⟩:=Z5.each a i f0 h1 hf0;rw[wM.eq_1,if_pos (by simp;omega),gi h1];simp only[xe,z7];rw[gi hsv];simp only[z7];rw[Gv e n he i.span hrg.1 hrg.2.1 hrg.2.2 sv];simp only[z7];rw[if_pos (by simp),if_pos (qB (by simp;omega) (by omega)),ws (k:=b0) (by omega),ws (k:=a) (by omega)];have sE: ∀x∈i.stops.l,0<=x.span.qO/\x.span.qO<=x.span.to/\x.span.to<=n:=by
   intro x hx;obtain⟨k,hk⟩:=jz hx;have:=hmi.inside k x hk;have:=hmi.le k x hk;omega
  obtain⟨pl',f',g1,g2,g3⟩:=OB e n he mark sd s Wu cur flags out (Mt e.span.qO e.span.to e.text.length sv i.span).qO (Mt e.span.qO e.span.to e.text.length sv i.span).to a b0 (sv != 1) i h1 (by omega) hsd hi sE (Ec b0 i tQ hr1) f0 k1 k2 k3
   i.stops.l 0 fl (List.replicate i.stops.l.length 0) [] [] rfl (by omega) hf0 (Z5.nn jv) (by simp) (fun j hj=>by omega) (by simp[oi]) (by simp) (by simp) (by simp)
  simp only[Int.toNat_natCast];rw[show ((b0+1+0:Nat):Int)=((b0+1:Nat):Int)from rfl,show((0:Nat):Int)=0 from rfl]at g1;rw[g1];simp only[z7];by_cases c1:sv=1
  ·rw[if_neg (by simpa using c1)];have e1:NI e sd b0 (i::r)=NI e sd (b0+1+i.stops.l.length) r:=by
    show bZ _ _ _ _ _ (i::r)=_;rw[bZ,if_pos (by rw[Ei];exact c1)]
   rw[e1];exact ih (a+1) (b0+1+i.stops.l.length) flags out h2 hr2 E6 hF (by omega)
  rw[if_pos (by simpa using c1),if_pos qB,if_pos (qB (by have:=hF.len;omega) (by omega))];have e1:NI e sd b0 (i::r)=Zf e.span.qO e.span.to e.text.length (lX sd) b0 i::NI e sd (b0+1+i.stops.l.length) r:=by
   show bZ _ _ _ _ _ (i::r)=_;rw[bZ,if_neg (by rw[Ei];exact c1)]
  have e2:qw.mk (Mt e.span.qO e.span.to e.text.length sv i.span) (⟨([]++NS e sd (b0+1) 0 i.stops.l).isEmpty,[]++NS e sd (b0+1) 0 i.stops.l⟩:Sl qu)=Zf e.span.qO e.span.to e.text.length (lX sd) b0 i:=by
   unfold Zf;rw[Ei,List.nil_append]
  rw[e2,e1];obtain⟨Yg,q1,q2⟩:=ih (a+1) (b0+1+i.stops.l.length) ⟨false,flags.l++[⟨f'.isEmpty,f'⟩]⟩ (out++[Zf e.span.qO e.span.to e.text.length (lX sd) b0 i]) h2 hr2 E6 (by
   refine⟨by simp[hF.len],fun _=>rfl, ?_⟩
   intro a' i' f'' vq SN
   by_cases c:a' <out.length
   ·rw[List.getElem?_append_left c]at vq
    rw[List.getElem?_append_left (by rw[hF.len];exact c)]at SN
    exact hF.each a' i' f'' vq SN
   rw[List.getElem?_append_right (by omega)]at vq
   rw[List.getElem?_append_right (by have:=hF.len;simp only at *; omega)]at SN
   have hz:a' -out.length=0:=by
    have:=(qF vq).1
    simp at this
    omega
   rw[hz]at vq
   rw[hF.len,hz]at SN
   simp only[List.getElem?_cons_zero,kX]at vq SN
   subst vq SN
   have NZ:f'.length=(NS e sd (b0+1) 0 i.stops.l).length:=by simpa using g2
   refine⟨NZ,fun c=>?_,g3⟩
   have:(NS e sd (b0+1) 0 i.stops.l)≠[]:=c
   cases Ys:f' with
   |nil=>
    rw[Ys]at NZ
    exact absurd (List.length_eq_zero_iff.1 NZ.symm) this
   |cons _ _=>rfl) (by simp;omega)
  refine⟨Yg,by rw[q1];simp,by simpa using q2⟩
theorem Cg(a b c:Int)(sF:Nat->Int): ∀(is:List qw)(b0:Nat),(∀ k i,is[k]? =some i->sF (b0+zi is k)≠1)->(bZ a b c sF b0 is).length=is.length:=by
 intro is;induction is with
 |nil=>intro b0 _;rfl
 |cons i is ih=>
  intro b0 h;have h0:=h 0 i rfl;rw[show zi (i::is) 0=0 by simp[zi],Nat.add_zero]at h0;rw[bZ,if_neg h0,List.length_cons,List.length_cons,ih (b0+1+i.stops.l.length) (fun k j hj=>by
   have:=h (k+1) j (by simpa using hj)
   rw[Zv]at this
   rwa[show b0+1+i.stops.l.length+zi is k=b0+(1+i.stops.l.length+zi is k) by omega])]
theorem Mp(a b c:Int)(sF:Nat->Int){l:List oD}(is:List qw)(b0:Nat)(hl: ∀(r:Nat)(x:oD),(bp b0 is)[r]? =some x->l[b0+r]? =some x): ∀y∈bZ a b c sF b0 is,∃ i∈is,y.stops.l.length<=i.stops.l.length/\ ∀z∈y.stops.l,∃ x∈i.stops.l,core z=core x:=by
 intro y hy;obtain⟨j,hj⟩:=jz hy;obtain⟨k,i,b1,h1,_,_,rfl,_⟩:=Zg is b0 hl j y hj;refine⟨i,qX h1,Cj _ _ _,fun z hz=>?_⟩;obtain⟨x,hx,k,rfl⟩:=Ck _ _ _ z hz;exact⟨x,hx,rfl⟩
theorem Ib(a b c:Int)(sF:Nat->Int): ∀(is:List qw)(b0:Nat),(bZ a b c sF b0 is).length<=is.length:=by
 intro is;induction is with
 |nil=>intro b0;simp[bZ]
 |cons i is ih=>
  intro b0;have:=ih (b0+1+i.stops.l.length);rw[bZ];split<;>simp<;>omega
structure VX (e:qo) (n:Int) (s:qc) (a:Int) (s' :qc) (flags:Sl (Sl Int)):Prop where
 cur:s'.cur=s.cur
 may:cw s'.insts.l (n+(e.text.length-(e.span.to-e.span.qO)))
 fl:fp s'.insts.l flags
 len:s'.insts.l.length<=s.insts.l.length
 core: ∀y∈s'.insts.l,∃ i∈s.insts.l,y.stops.l.length<=i.stops.l.length/\ ∀z∈y.stops.l,∃ x∈i.stops.l,core z=core x
 all:a≠ -1->s'.insts.l.length=s.insts.l.length
include he in
theorem OC(hs:jX s)(hm:cw s.insts.l n)(deep:Bool)(qk:ql)(AR:xo e.span qk)(a k:Int)(ho:(a= -1/\k= -1)\/KL s qk a k\/ ∃(a' k' :Nat)(i:qw)(x:qu),a=a' /\k=k' /\s.insts.l[a']? =some i/\i.stops.l[k']? =some x/\xo e.span x.span)(fl:Sl (Sl Int))(Z5:fp s.insts.l fl):
  ∃s' flags,uu s a k e deep mark fl=some (s',fl,flags)/\VX e n s a s' flags:=by
 have eM:=he.ab;have hms: ∀i∈s.insts.l,∀ x∈i.stops.l,-1<=x.up/\x.up<=2^20:=by
  intro i hi x hx;obtain⟨a,ha⟩:=jz hi;obtain⟨k,hk⟩:=jz hx;have h1:=(hm.may a i ha).up k x hk;have h2:=(qF hk).1;have h3:=hs.2 i hi;omega
 obtain⟨L,hL1,Lr⟩:=row_ok s hs hms;have hB:=rowS_ok n s.insts.l 0 0 hm (fun a i hi=>(hm.may a i hi).QN.1);have hR:RowL L n:=by
  have:=hB.row;rw[<- Lr]at this;exact this
 have h4:=Qq hs.2;have h5:s.insts.l.length*2^12<=2^12*2^12:=Nat.mul_le_mul hs.1 (xJ _);have nh:=hs.1;have rl: ∀(is:List qw)(b:Nat),(bp b is).length=is.length+many is:=by
  intro is;induction is with
  |nil=>intro b;simp[bp,many]
  |cons i is ih=>
   intro b;have:=aO b i;have:=ih (b+1+i.stops.l.length);simp only[bp,many,List.length_append,List.map_cons,List.sum_cons,List.length_cons]at*
   omega
 have hLn:L.length=s.insts.l.length+many s.insts.l:=by
  rw[<- rl s.insts.l 0,<- Lr];simp
 have G6: ∃o:Int,nB s a k=some o/\((a= -1/\o= -1)\/ ∃(a' k' :Nat)(i:qw)(x:qu),a=a' /\o=((zi s.insts.l a' +1+k' :Nat):Int)/\s.insts.l[a']? =some i/\i.stops.l[k']? =some x/\xo e.span x.span):=by
  rcases ho with ⟨rfl,rfl⟩|ho|⟨a',k',i,x,rfl,rfl,h1,h2,h3⟩
  ·obtain⟨o,g1,g2⟩:=GI s hs qk (-1) (-1) (.inl ⟨rfl,rfl⟩);refine⟨o,g1, ?_⟩;rcases g2 with g2|⟨a',k',g2,_⟩
   ·exact .inl g2
   omega
  ·obtain⟨o,g1,g2⟩:=GI s hs qk a k (.inr ho);refine⟨o,g1, ?_⟩;obtain⟨a',k',i,x,rfl,rfl,h1,h2,_,_,h3⟩:=ho;rcases g2 with ⟨g2,_⟩|⟨a'',k'',g2,g3,g4⟩
   ·omega
   obtain rfl:a' =a'' :=by omega
   obtain rfl:k' =k'' :=by omega
   refine .inr ⟨a',k',i,x,rfl,g4,h1,h2, ?_⟩;unfold xo at*
   omega
  have h7:KL ⟨x.n,s.insts⟩ x.span a' k' \/x.qJ=true:=by
   cases ht:x.qJ with
   |true=>exact .inr rfl
   |false=>exact .inl ⟨a',k',i,x,rfl,rfl,h1,h2,rfl,ht,by unfold xo;omega⟩
  have WV:=(qF h1).1;have mE:=(qF h2).1;have DN:=hs.2 i (qX h1);refine⟨((zi s.insts.l a' +1+k' :Nat):Int), ?_,.inr ⟨a',k',i,x,rfl,rfl,h1,h2,h3⟩⟩;unfold nB;rw[if_neg (by simp;omega),gi h1];simp only[xe,z7];rw[if_neg (by simp;omega),ws (by omega),show(0:Int)=((0:Nat):Int)from rfl,GH s hs a' (by omega) a' 0 (k' +1) (by omega) (by
   have:a' *(2^12+1)<=2^12*(2^12+1):=Nat.mul_le_mul (by omega) (xJ _)
   omega)]
  have:zi s.insts.l 0=0:=by simp[zi]
  rw[this,show k' +1+(zi s.insts.l a' -0)=zi s.insts.l a' +1+k' by omega];rfl
 obtain⟨o,ho1,ho2⟩:=G6;have at_o: ∀(a' k' :Nat)(i:qw)(x:qu),s.insts.l[a']? =some i->i.stops.l[k']? =some x->zi s.insts.l a' +1+k' <L.length/\FL L (zi s.insts.l a' +1+k')=x.span.qO/\TL L (zi s.insts.l a' +1+k')=x.span.to:=by
  intro a' k' i x h1 h2;have mE:=(qF h2).1;have h3:=Pg s.insts.l 0 a' i h1 (k' +1) (by omega);rw[show (sW (0+zi s.insts.l a') i)[k' +1]? =some (x.span.qO,x.span.to,((0+zi s.insts.l a' :Nat):Int)+1+x.up) by simp[sW,h2],<- Lr]at h3;rw[show zi s.insts.l a' +1+k' =zi s.insts.l a' +(k' +1) by omega];have h4:=cM h3;exact⟨by have:=(qF h3).1;simpa using this,h4.1,h4.2.1⟩
 obtain⟨h,hh1,hh2,hh3,hh4⟩:=hold_ok L e hR (by omega) he L.isEmpty deep o (by
  rcases ho2 with ⟨_,rfl⟩|⟨a',k',i,x,_,rfl,h1,h2,h3⟩
  ·exact .inl rfl
  obtain⟨q1,q2,q3⟩:=at_o a' k' i x h1 h2
  refine .inr ⟨_,rfl,q1, ?_⟩
  unfold xo at h3
  omega)
 obtain⟨sd,last,hd1,DH,hd3⟩:=OE L e hR L.isEmpty h hh2 (by omega);have Ec: ∀(b0:Nat)(i:qw),i∈s.insts.l->(∀ r x,(sW b0 i)[r]? =some x->(bp 0 s.insts.l)[b0+r]? =some x)-> ∀(k:Nat)(x:qu),i.stops.l[k]? =some x-> -1<=x.up/\ ∀p:Nat,x.up=p->p<k/\(lX sd (b0+1+k)≠1->lX sd (b0+1+p)≠1):=by
  intro b0 i hi cD k x hx;obtain⟨a',ha'⟩:=jz hi;have hu:=(hm.may a' i ha').up k x hx;refine⟨hu.1,fun p hp=>⟨by omega,fun jv=>?_⟩⟩;have h3:=cD (k+1) (x.span.qO,x.span.to,b0+1+x.up) (by simp[sW,hx]);rw[<- Lr,show b0+(k+1)=b0+1+k by omega]at h3;have h4:=cM h3;have h5:=(qF h3).1;exact cz hR hh3 hd3 h5 jv (p:=b0+1+p) (by show PY _ _=_;rw[h4.2.2];simp only;omega)
 have hz:fp [] ⟨true,[]⟩:=⟨rfl,fun c=>absurd rfl c,fun a i f hi=>by simp at hi⟩;obtain⟨flags,hs5,hs6⟩:=OA e n he mark sd s (qc.mk 0 ⟨true,[]⟩) s.cur hs hm (by omega) Ec fl Z5 s.insts.l 0 0 ⟨true,[]⟩ [] rfl (fun q x hx=>by rw[Nat.zero_add];exact hx) (by rw[rl];omega) hz (by simp);refine⟨⟨s.cur,⟨(NI e sd 0 s.insts.l).isEmpty,NI e sd 0 s.insts.l⟩⟩,flags, ?_, ?_⟩
 ·unfold uu;simp only[hL1,ho1,hh1,hd1,xe,z7];rw[show ((0:Nat):Int)=0 from rfl]at hs5;rw[hs5];simp
 refine⟨rfl, ?_,by simpa using hs6,Ib _ _ _ _ _ _, ?_, ?_⟩
 ·have:=Ci (c:=(e.text.length:Int)) hR hh3 hd3 he.a0 eM he.bn (Int.natCast_nonneg _) Lr hm;exact this
 ·exact Mp _ _ _ _ s.insts.l 0 (l:=bp 0 s.insts.l) (fun r x hx=>by rw[Nat.zero_add];exact hx)
 intro hna;refine Cg _ _ _ _ s.insts.l 0 fun j y hy=>?_;rw[Nat.zero_add];intro AZ;rcases ho2 with ⟨h7,_⟩|⟨a',k',i,x,h6,h7,h8,h9,h10⟩
 ·exact hna h7
 have C2:=(hm.may a' i h8).inside k' x h9;have hxl:=(hm.may a' i h8).le k' x h9;have row0: ∀(j:Nat)(y:qw),s.insts.l[j]? =some y->zi s.insts.l j<(L.map strOf).length/\FL L (zi s.insts.l j)=y.span.qO/\TL L (zi s.insts.l j)=y.span.to/\UL L (zi s.insts.l j)= -1:=by
  intro j y hy;have h3:=Pg s.insts.l 0 j y hy 0 (by omega);rw[show (sW (0+zi s.insts.l j) y)[0]? =some (y.span.qO,y.span.to,-1) by simp[sW],<- Lr,Nat.add_zero]at h3;have h4:=cM h3;exact⟨(qF h3).1,h4.1,h4.2.1,h4.2.2⟩
 obtain⟨r1,r2,r3,r4⟩:=row0 j y hy;have hnoH: ¬h[zi s.insts.l j]? =some true:=fun c=>by
  have:=hd3.holds _ r1 c;have h11:sd.getD (zi s.insts.l j) 0=1:=AZ;omega
 have hyr:=(hm.may j y hy).QN;rcases nG hR hd3 r1 with ⟨c,_⟩|⟨c,c2⟩|⟨c,c2⟩|⟨c,c2⟩
 ·exact hnoH c
 ·
  by_cases cut:y.span.qO<e.span.to/\e.span.qO<y.span.to
  ·unfold xo at h10;rcases Nat.lt_trichotomy j a' with q|q|q
   ·have:=hm.D3 j a' y i q hy h8;omega
   ·subst q;rw[hy]at h8;cases h8;have DM:=hh4 _ h7;obtain⟨q1,_,_⟩:=at_o j k' y x hy h9;have Xm:ia (UL L) (zi s.insts.l j+1+k') (zi s.insts.l j):=by
     have gen: ∀(k:Nat)(x:qu),y.stops.l[k]? =some x->ia (UL L) (zi s.insts.l j+1+k) (zi s.insts.l j):=by
      intro k;induction k using Nat.strongRecOn with
      |_ k ih=>
      intro x hx;have hu:=(hm.may j y hy).up k x hx;have mE:=(qF hx).1;have h3:=Pg s.insts.l 0 j y hy (k+1) (by omega);rw[show (sW (0+zi s.insts.l j) y)[k+1]? =some (x.span.qO,x.span.to,((0+zi s.insts.l j:Nat):Int)+1+x.up) by simp[sW,hx],<- Lr,show zi s.insts.l j+(k+1)=zi s.insts.l j+1+k by omega]at h3;have h4:=(cM h3).2.2;by_cases c:x.up= -1
      ·exact .up _ _ .self (by show PY _ _=_;rw[h4];simp only;omega)
      obtain⟨p,hp⟩: ∃p:Nat,x.up=p:=⟨x.up.toNat,by omega⟩;have sH:y.stops.l[p]? =some y.stops.l[p]:=kU (by omega);exact WB (p:=zi s.insts.l j+1+p) (by show PY _ _=_;rw[h4];simp only;omega) (ih p (by omega) _ sH)
     exact gen k' x h9
    have: ∀q,ia (UL L) (zi s.insts.l j+1+k') q->q<(L.map strOf).length/\h[q]? =some true:=by
     intro q hq;induction hq with
     |self=>exact⟨by simpa using q1,DM⟩
     |up x p _ hp ih=>
      have:=hR.up x ih.1;exact⟨by omega,hh3.up x ih.1 ih.2 p hp⟩
    exact hnoH (this _ Xm).2
   have:=hm.D3 a' j i y q h8 hy;omega
  by_cases z:TL L (zi s.insts.l j)<e.span.qO\/TL L (zi s.insts.l j)=e.span.qO/\(FL L (zi s.insts.l j)<TL L (zi s.insts.l j)\/((zi s.insts.l j:Nat):Int)<last\/last<0)
  ·have:=hd3.left _ r1 c (fun p hp=>by omega) (by rw[r2,r3];exact cut) z;omega
  have:=hd3.right _ r1 c (fun p hp=>by omega) (by rw[r2,r3];exact cut) z;omega
 ·have h11:sd.getD (zi s.insts.l j) 0=1:=AZ;omega
 have h11:sd.getD (zi s.insts.l j) 0=1:=AZ;omega
end
end Xr
namespace Xr
def rU(a b:ql):Prop:=a.qO<b.qO\/a.qO=b.qO/\a.to<b.to
instance(a b:ql):Decidable (rU a b):=by unfold rU;infer_instance
theorem YC(a b:ql):rm a b=some (decide (rU a b)):=by
 unfold rm rU;by_cases h:a.qO<b.qO
 ·simp[h]
 by_cases h2:a.qO=b.qO<;>simp[h,h2]
section
variable {α:Type} (key:α->ql)
def pos(x:α)(s:List α):Nat->Nat
 |0=>0
 |k+1=>match s[k]? with
  |some y=>if rU (key x) (key y)then pos x s k else k+1
  |none=>k+1
def tU(s:List α)(x:α):List α:=s.take (pos key x s s.length)++x::s.drop (pos key x s s.length)
def xV(s r:List α):List α:=r.foldl (tU key) s
theorem YX(x:α)(s:List α): ∀k,pos key x s k<=k:=by
 intro k;induction k with
 |zero=>simp[pos]
 |succ k ih=>
  rw[pos];split
  ·split<;>omega
  omega
def BK(a b:α):Prop:= ¬rU (key b) (key a)
theorem Iv(x:α)(s:List α): ∀k,k<=s.length->(∀ j y,pos key x s k<=j->j<k->s[j]? =some y->rU (key x) (key y))/\(∀ y,0<pos key x s k->s[pos key x s k-1]? =some y-> ¬rU (key x) (key y)):=by
 intro k;induction k with
 |zero=>intro _;exact⟨fun j y h1 h2=>by omega,fun y h=>by simp[pos]at h⟩
 |succ k ih=>
  intro hk;obtain⟨y,hy⟩:=gl (l:=s) (k:=k) (by omega);rw[pos,hy];simp only;split
  ·rename_i c;obtain⟨h1,h2⟩:=ih (by omega);refine⟨fun j z hj BH hz=>?_,h2⟩;by_cases e:j=k
   ·subst e;rw[hy]at hz;cases hz;exact c
   exact h1 j z hj (by omega) hz
  rename_i c;refine⟨fun j z hj BH=>by omega,fun z _ hz=>?_⟩;rw[Nat.add_sub_cancel,hy]at hz;cases hz;exact c
theorem WZ(s:List α)(x:α):(tU key s x).Perm (s++[x]):=by
 unfold tU;refine(List.perm_middle).trans ?_;rw[List.take_append_drop];exact(List.perm_append_singleton x s).symm
theorem mY: ∀(r s:List α),(xV key s r).Perm (s++r):=by
 intro r;induction r with
 |nil=>intro s;simp[xV]
 |cons x r ih=>
  intro s;have:=ih (tU key s x);simp only[xV,List.foldl_cons]at this |-;refine this.trans ?_;have h1:=(WZ key s x).append_right r;simpa using h1
theorem V4{a b c:α}(h1:BK key a b)(h2:BK key b c):BK key a c:=by
 unfold BK rU at*
 omega
theorem G9{s:List α}(x:α)(h:s.Pairwise (BK key)):(tU key s x).Pairwise (BK key):=by
 obtain⟨h1,h2⟩:=Iv key x s s.length (xJ _);have hp:=YX key x s s.length;unfold tU;generalize pos key x s s.length=p at*
 have ht: ∀a∈s.take p,BK key a x:=by
  intro a ha;by_cases Lt:0<p
  ·obtain⟨y,hy⟩:=gl (l:=s) (k:=p-1) (by omega);have hyx:=h2 y Lt hy;obtain⟨j,hj⟩:=jz ha;have hjp:j<p:=by have:=(qF hj).1;simp at this;omega
   rw[List.getElem?_take_of_lt hjp]at hj;by_cases e:j=p-1
   ·subst e;rw[hy]at hj;cases hj;exact hyx
   have:=List.pairwise_iff_getElem.1 h j (p-1) (by omega) (by omega) (by omega);rw[kU (by omega)]at hj hy;cases hj;cases hy;exact V4 key this hyx
  have:p=0:=by omega
  subst this;simp at ha
 have hd: ∀b∈s.drop p,BK key x b:=by
  intro b hb;obtain⟨j,hj⟩:=jz hb;rw[List.getElem?_drop]at hj;have:=h1 (p+j) b (by omega) (qF hj).1 hj;unfold BK;unfold rU at*
  omega
 rw[List.pairwise_append];refine⟨h.sublist (List.take_sublist _ _),List.pairwise_cons.2 ⟨hd,h.sublist (List.drop_sublist _ _)⟩,fun a ha b hb=>?_⟩;rcases List.mem_cons.1 hb with rfl|hb
 ·exact ht a ha
 exact V4 key (ht a ha) (hd b hb)
theorem Wc: ∀(r s:List α),s.Pairwise (BK key)->(xV key s r).Pairwise (BK key):=by
 intro r;induction r with
 |nil=>intro s h;exact h
 |cons x r ih=>intro s h;exact ih _ (G9 key x h)
theorem Ez(s:List α)(x:α)(h: ∀y∈s,¬ rU (key x) (key y)):tU key s x=s++[x]:=by
 have:pos key x s s.length=s.length:=by
  cases hs:s.length with
  |zero=>simp[pos]
  |succ k=>
   obtain⟨y,hy⟩:=gl (l:=s) (k:=k) (by omega);rw[pos,hy];simp only;rw[if_neg (h y (qX hy))]
 unfold tU;rw[this];simp
theorem V0: ∀(r s:List α),(s++r).Pairwise (BK key)->xV key s r=s++r:=by
 intro r;induction r with
 |nil=>intro s _;simp[xV]
 |cons x r ih=>
  intro s h;have h1: ∀y∈s,¬ rU (key x) (key y):=fun y hy=>(List.pairwise_append.1 h).2.2 y hy x (by simp);show xV key (tU key s x) r=_;rw[Ez key s x h1,ih (s++[x]) (by simpa using h)];simp
end
def yU(s:qx):ql:=⟨if s.head<s.anchor then s.head else s.anchor,if s.head>s.anchor then s.head else s.anchor⟩
theorem X2(s:qx):yn s=some (yU s):=rfl
theorem fJ(s:qx):(yU s).qO<=(yU s).to:=by
 unfold yU;simp only;split<;>split<;>omega
theorem I1(l s:Sl qx)(i:Nat)(x:qx)(hx:l.l[i]? =some x): ∀k,k<=s.l.length->k<2^60->uP (l,s,(i:Int),(k:Int))=some ((pos yU x s.l k:Nat):Int):=by
 intro k;induction k with
 |zero=>intro _ _;rw[uP.eq_1,if_neg (by simp)];rfl
 |succ k ih=>
  intro hk hb;obtain⟨y,hy⟩:=gl (l:=s.l) (k:=k) (by omega);rw[uP.eq_1,if_pos (by simp<;>omega),gi hx,show IntKind.i64.wrap (((k+1:Nat):Int)-1)=(k:Int)from by rw[qI (by omega) (by omega)];omega,gi hy,pos,hy];simp only[xe,z7,X2,YC];by_cases c:rU (yU x) (yU y)
  ·rw[if_pos (by simpa using c),if_pos c];exact ih (by omega) (by omega)
  rw[if_neg (by simpa using c),if_neg c]
theorem OL(l s:Sl qo)(i:Nat)(x:qo)(hx:l.l[i]? =some x): ∀k,k<=s.l.length->k<2^60->bc (l,s,(i:Int),(k:Int))=some ((pos (·.span) x s.l k:Nat):Int):=by
 intro k;induction k with
 |zero=>intro _ _;rw[bc.eq_1,if_neg (by simp)];rfl
 |succ k ih=>
  intro hk hb;obtain⟨y,hy⟩:=gl (l:=s.l) (k:=k) (by omega);rw[bc.eq_1,if_pos (by simp<;>omega),gi hx,show IntKind.i64.wrap (((k+1:Nat):Int)-1)=(k:Int)from by rw[qI (by omega) (by omega)];omega,gi hy,pos,hy];simp only[xe,z7,YC];by_cases c:rU x.span y.span
  ·rw[if_pos (by simpa using c),if_pos c];exact ih (by omega) (by omega)
  rw[if_neg (by simpa using c),if_neg c]
theorem OJ(l s:Sl ql)(i:Nat)(x:ql)(hx:l.l[i]? =some x): ∀k,k<=s.l.length->k<2^60->gZ (l,s,(i:Int),(k:Int))=some ((pos id x s.l k:Nat):Int):=by
 intro k;induction k with
 |zero=>intro _ _;rw[gZ.eq_1,if_neg (by simp)];rfl
 |succ k ih=>
  intro hk hb;obtain⟨y,hy⟩:=gl (l:=s.l) (k:=k) (by omega);rw[gZ.eq_1,if_pos (by simp<;>omega),gi hx,show IntKind.i64.wrap (((k+1:Nat):Int)-1)=(k:Int)from by rw[qI (by omega) (by omega)];omega,gi hy,pos,hy];simp only[xe,z7,YC];by_cases c:rU (id x) (id y)
  ·rw[if_pos (by simpa using c),if_pos c];exact ih (by omega) (by omega)
  rw[if_neg (by simpa using c),if_neg c]
theorem Xe{α:Type}(s:List α)(p:Nat)(h:p<=s.length):kx s (p:Int)=some (s.take p):=by
 obtain⟨r,h1,h2,_⟩:=qG.kx (l:=s) (hi:=(p:Int)) (by omega) (by omega);rw[h1,h2,Int.toNat_natCast]
theorem Ax{α:Type}(s:List α)(p:Nat)(h:p<=s.length):bX s (p:Int)=some (s.drop p):=by
 obtain⟨r,h1,h2,_⟩:=qG.bX (l:=s) (lo:=(p:Int)) (by omega) (by omega);rw[h1,h2,Int.toNat_natCast]
theorem JP{α:Type}(key:α->ql)(s:List α)(x:α):(tU key s x).length=s.length+1:=by
 simpa using(WZ key s x).length_eq
theorem I0(l:Sl qx): ∀(r:List qx)(i:Nat)(s:Sl qx),l.l.drop i=r->s.l.length+r.length<=2^20->l.l.length<=2^20->(s.nil=s.l.isEmpty)->
  uO (l,s,(i:Int))=some ⟨(xV yU s.l r).isEmpty,xV yU s.l r⟩:=by
 intro r;induction r with
 |nil=>
  intro i s h _ _ hn;have:=zc h;rw[uO.eq_1,if_neg (by simp;omega)];show some s=some ⟨s.l.isEmpty,s.l⟩;rw[<- hn]
 |cons x r ih=>
  intro i s h hb hl hn;obtain⟨h1,h2,h3⟩:=zp h;simp only[List.length_cons]at hb;have hp:=YX yU x s.l s.l.length;rw[uO.eq_1,if_pos (by simp;omega),I1 l s i x h1 s.l.length (xJ _) (by omega)];simp only[xe,z7];rw[Xe _ _ hp];simp only[z7];rw[if_pos (qB (by simp;omega) (by omega)),gi h1];simp only[z7];rw[if_pos (qB (by simp;omega) (by omega)),Ax _ _ hp];simp only[z7];rw[if_pos (qB (by simp;omega) (by omega)),ws (by omega)];have e:s.l.take (pos yU x s.l s.l.length)++[x]++s.l.drop (pos yU x s.l s.l.length)=tU yU s.l x:=by simp[tU]
  rw[e];have:=JP yU s.l x;exact ih (i+1) ⟨false,tU yU s.l x⟩ h2 (by simp only;omega) hl (by cases h7:tU yU s.l x with
   |nil=>rw[h7]at this;simp at this
   |cons _ _=>rfl)
theorem OK(l:Sl qo): ∀(r:List qo)(i:Nat)(s:Sl qo),l.l.drop i=r->s.l.length+r.length<=2^20->l.l.length<=2^20->(s.nil=s.l.isEmpty)->
  ba (l,s,(i:Int))=some ⟨(xV (·.span) s.l r).isEmpty,xV (·.span) s.l r⟩:=by
 intro r;induction r with
 |nil=>
  intro i s h _ _ hn;have:=zc h;rw[ba.eq_1,if_neg (by simp;omega)];show some s=some ⟨s.l.isEmpty,s.l⟩;rw[<- hn]
 |cons x r ih=>
  intro i s h hb hl hn;obtain⟨h1,h2,h3⟩:=zp h;simp only[List.length_cons]at hb;have hp:=YX (·.span) x s.l s.l.length;rw[ba.eq_1,if_pos (by simp;omega),OL l s i x h1 s.l.length (xJ _) (by omega)];simp only[xe,z7];rw[Xe _ _ hp];simp only[z7];rw[if_pos (qB (by simp;omega) (by omega)),gi h1];simp only[z7];rw[if_pos (qB (by simp;omega) (by omega)),Ax _ _ hp];simp only[z7];rw[if_pos (qB (by simp;omega) (by omega)),ws (by omega)];have e:s.l.take (pos (·.span) x s.l s.l.length)++[x]++s.l.drop (pos (·.span) x s.l s.l.length)=tU (·.span) s.l x:=by simp[tU]
  rw[e];have:=JP (·.span) s.l x;exact ih (i+1) ⟨false,tU (·.span) s.l x⟩ h2 (by simp only;omega) hl (by cases h7:tU (·.span) s.l x with
   |nil=>rw[h7]at this;simp at this
   |cons _ _=>rfl)
theorem OI(l:Sl ql): ∀(r:List ql)(i:Nat)(s:Sl ql),l.l.drop i=r->s.l.length+r.length<=2^20->l.l.length<=2^20->(s.nil=s.l.isEmpty)->
  gY (l,s,(i:Int))=some ⟨(xV id s.l r).isEmpty,xV id s.l r⟩:=by
 intro r;induction r with
 |nil=>
  intro i s h _ _ hn;have:=zc h;rw[gY.eq_1,if_neg (by simp;omega)];show some s=some ⟨s.l.isEmpty,s.l⟩;rw[<- hn]
 |cons x r ih=>
  intro i s h hb hl hn;obtain⟨h1,h2,h3⟩:=zp h;simp only[List.length_cons]at hb;have hp:=YX id x s.l s.l.length;rw[gY.eq_1,if_pos (by simp;omega),OJ l s i x h1 s.l.length (xJ _) (by omega)];simp only[xe,z7];rw[Xe _ _ hp];simp only[z7];rw[if_pos (qB (by simp;omega) (by omega)),gi h1];simp only[z7];rw[if_pos (qB (by simp;omega) (by omega)),Ax _ _ hp];simp only[z7];rw[if_pos (qB (by simp;omega) (by omega)),ws (by omega)];have e:s.l.take (pos id x s.l s.l.length)++[x]++s.l.drop (pos id x s.l s.l.length)=tU id s.l x:=by simp[tU]
  rw[e];have:=JP id s.l x;exact ih (i+1) ⟨false,tU id s.l x⟩ h2 (by simp only;omega) hl (by cases h7:tU id s.l x with
   |nil=>rw[h7]at this;simp at this
   |cons _ _=>rfl)
theorem Bl(l:Sl qo)(hl:l.l.length<=2^20):cq l=some ⟨(xV (·.span) [] l.l).isEmpty,xV (·.span) [] l.l⟩:=by
 unfold cq;rw[show (0:Int)=((0:Nat):Int)from rfl,OK l l.l 0 ⟨true,[]⟩ rfl (by simpa using hl) hl rfl];rfl
theorem Bk(l:Sl ql)(hl:l.l.length<=2^20):cn l=some ⟨(xV id [] l.l).isEmpty,xV id [] l.l⟩:=by
 unfold cn;rw[show (0:Int)=((0:Nat):Int)from rfl,OI l l.l 0 ⟨true,[]⟩ rfl (by simpa using hl) hl rfl];rfl
end Xr
namespace Xr
def lf(a b:ql):Prop:=(if b.qO>a.qO then b.qO else a.qO)<=(if b.to<a.to then b.to else a.to)
instance(a b:ql):Decidable (lf a b):=by unfold lf;infer_instance
def join(y x:qx):qx:=if y.head<y.anchor then⟨if (yU x).to>(yU y).to then(yU x).to else(yU y).to,(yU y).qO⟩else⟨(yU y).qO,if(yU x).to>(yU y).to then(yU x).to else(yU y).to⟩
theorem join_sp(y x:qx):yU (join y x)=⟨(yU y).qO,if(yU x).to>(yU y).to then(yU x).to else(yU y).to⟩:=by
 have hy:=fJ y;have hx:=fJ x;generalize hY:yU y=Y at*
 generalize hX:yU x=X at*
 unfold join;rw[hY,hX];have hM:Y.qO<=(if X.to>Y.to then X.to else Y.to):=by split<;>omega
 generalize (if X.to>Y.to then X.to else Y.to)=M at*
 unfold yU;by_cases c:y.head<y.anchor
 ·rw[if_pos c];simp only[ql.mk.injEq];constructor
  ·split<;>omega
  split<;>omega
 rw[if_neg c];simp only[ql.mk.injEq];constructor
 ·split<;>omega
 split<;>omega
def eZ(out:List qx)(x:qx):List qx:=
 match out.getLast? with
 |some y=>if lf (yU y) (yU x)then out.set (out.length-1) (join y x)else out++[x]
 |none=>out++[x]
def TE(out r:List qx):List qx:=r.foldl eZ out
theorem Gw(out:List qx)(x:qx):(eZ out x).length<=out.length+1/\1<=(eZ out x).length:=by
 unfold eZ;split
 ·rename_i y hy;have:out≠[]:=fun c=>by rw[c]at hy;simp at hy
  have:=List.length_pos_iff.2 this;split<;>simp<;>omega
 simp
theorem I2(s:Sl qx)(hs:s.l.length<=2^20): ∀(r:List qx)(i:Nat)(out:List qx),s.l.drop i=r->out.length<=i->wE (s,(i:Int),out)=some (TE out r):=by
 intro r;induction r with
 |nil=>
  intro i out h _;have:=zc h;rw[wE.eq_1,if_neg (by simp;omega)];rfl
 |cons x r ih=>
  intro i out h ho;obtain⟨h1,h2,h3⟩:=zp h;rw[wE.eq_1,if_pos (by simp;omega)];have step:=ih (i+1) (eZ out x) h2 (by have:=Gw out x;omega);show _=some (TE (eZ out x) r);rw[ws (by omega),<- step];by_cases c:0<out.length
  ·obtain⟨y,hy⟩:=gl (l:=out) (k:=out.length-1) (by omega);have hl:out.getLast? =some y:=by rw[List.getLast?_eq_getElem?];exact hy
   rw[if_pos (by simp;omega),show IntKind.i64.wrap ((out.length:Int)-1)=((out.length-1:Nat):Int)from by rw[qI (by omega) (by omega)];omega,gi hy,gi h1];simp only[xe,z7,X2,rn,Int.toNat_natCast];unfold eZ;rw[hl];simp only;by_cases t:lf (yU y) (yU x)
   ·have t' :=t;unfold lf at t';rw[if_pos (by simpa using t'),if_pos t];unfold XO join;by_cases d:y.head<y.anchor<;>simp[d]
   have t' :=t;unfold lf at t';rw[if_neg (by simpa using t'),if_neg t,if_pos qB]
  have e:out=[]:=List.eq_nil_of_length_eq_zero (by omega);subst e;rw[if_neg (by simp),gi h1];simp only[xe,z7];rw[if_pos (qB (by simp) (by omega))];rfl
def bV(l:List qx):List qx:=TE [] (xV yU [] l)
theorem Gt(l:Sl qx)(hl:l.l.length<=2^19):ro l=some ⟨(bV l.l).isEmpty,bV l.l⟩:=by
 have h1:=(mY yU l.l []).length_eq;unfold ro;rw[show (0:Int)=((0:Nat):Int)from rfl,I0 l l.l 0 ⟨true,[]⟩ rfl (by simp;omega) (by omega) rfl];simp only[xe,z7];rw[I2 _ (by simp only[List.nil_append]at h1 |-; omega) (xV yU [] l.l) 0 [] rfl (by simp)];rfl
def PQ(l:List qx):Prop:=l.Pairwise fun a b=>(yU a).to<(yU b).qO
def JO(n:Int)(l:List qx):Prop:= ∀x∈l,0<=(yU x).qO/\(yU x).to<=n
theorem mrg_apt(n:Int): ∀(r out:List qx),PQ out->JO n out->r.Pairwise (BK yU)->(∀ y∈out,∀ x∈r,(yU y).qO<=(yU x).qO)->JO n r->PQ (TE out r)/\JO n (TE out r):=by
 intro r;induction r with
 |nil=>intro out h1 h2 _ _ _;exact⟨h1,h2⟩
 |cons x r ih=>
  intro out h1 h2 h3 h4 h5;obtain⟨h6,h7⟩:=List.pairwise_cons.1 h3;have hxn:=h5 x (by simp);have hr:JO n r:=fun z hz=>h5 z (by simp[hz]);have hxr: ∀z∈r,(yU x).qO<=(yU z).qO:=fun z hz=>by
   have:=h6 z hz;unfold BK rU at this;omega
  have C3:=fJ x;show PQ (TE (eZ out x) r)/\_;have key:PQ (eZ out x)/\JO n (eZ out x)/\ ∀y∈eZ out x,∀ z∈r,(yU y).qO<=(yU z).qO:=by
   unfold eZ;cases hl:out.getLast? with
   |none=>
    have:out=[]:=List.getLast?_eq_none_iff.1 hl;subst this;refine⟨by simp[PQ],fun z hz=>?_,fun y hy z hz=>?_⟩
    ·simp only[List.nil_append,List.mem_singleton]at hz;subst hz;exact hxn
    simp only[List.nil_append,List.mem_singleton]at hy;subst hy;exact hxr z hz
   |some y=>
    obtain⟨init,rfl⟩: ∃init,out=init++[y]:=by
     have jv:out≠[]:=fun c=>by rw[c]at hl;simp at hl
     rcases List.eq_nil_or_concat out with h|⟨i0,y0,h⟩
     ·exact absurd h jv
     refine⟨i0, ?_⟩;rw[h]at hl |-;simp at hl;subst hl;simp
    have hy1:(yU y).qO<=(yU x).qO:=h4 y (by simp) x (by simp);have hyn:=h2 y (by simp);have hyy:=fJ y;obtain⟨a1,_,a3⟩:=List.pairwise_append.1 h1;simp only;by_cases t:lf (yU y) (yU x)
    ·rw[if_pos t];have e:(init++[y]).set ((init++[y]).length-1) (join y x)=init++[join y x]:=by simp
     rw[e];have hj:=join_sp y x;have hjf:(yU (join y x)).qO=(yU y).qO:=by rw[hj]
     have hjt:(yU (join y x)).to<=n:=by rw[hj];simp only;split<;>omega
     refine⟨List.pairwise_append.2 ⟨a1,by simp,fun a ha b hb=>?_⟩,fun z hz=>?_,fun z hz w hw=>?_⟩
     ·simp only[List.mem_singleton]at hb;subst hb;rw[hjf];exact a3 a ha y (by simp)
     ·rcases List.mem_append.1 hz with hz|hz
      ·exact h2 z (by simp[hz])
      simp only[List.mem_singleton]at hz;subst hz;omega
     rcases List.mem_append.1 hz with hz|hz
     ·exact h4 z (by simp[hz]) w (by simp[hw])
     simp only[List.mem_singleton]at hz;subst hz;have:=hxr w hw;omega
    rw[if_neg t];have hyx:(yU y).to<(yU x).qO:=by
     unfold lf at t;split at t<;>split at t<;>omega
    refine⟨List.pairwise_append.2 ⟨h1,by simp,fun a ha b hb=>?_⟩,fun z hz=>?_,fun z hz w hw=>?_⟩
    ·simp only[List.mem_singleton]at hb;subst hb;rcases List.mem_append.1 ha with ha|ha
     ·have:=a3 a ha y (by simp);omega
     simp only[List.mem_singleton]at ha;subst ha;exact hyx
    ·rcases List.mem_append.1 hz with hz|hz
     ·exact h2 z hz
     simp only[List.mem_singleton]at hz;subst hz;exact hxn
    rcases List.mem_append.1 hz with hz|hz
    ·exact h4 z hz w (by simp[hw])
    simp only[List.mem_singleton]at hz;subst hz;exact hxr w hw
  exact ih (eZ out x) key.1 key.2.1 h7 key.2.2 hr
theorem mrg_len: ∀(r out:List qx),(TE out r).length<=out.length+r.length/\((out≠[]\/r≠[])->TE out r≠[]):=by
 intro r;induction r with
 |nil=>intro out;exact⟨by simp[TE],fun h=>by simpa[TE]using h⟩
 |cons x r ih=>
  intro out;have h1:=Gw out x;obtain⟨h2,h3⟩:=ih (eZ out x);refine⟨?_,fun _=>h3 (.inl fun c=>by rw[c]at h1;simp at h1)⟩;show(TE (eZ out x) r).length<=_;simp only[List.length_cons];omega
theorem lC(n:Int)(l:List qx)(h:JO n l):PQ (bV l)/\JO n (bV l):=by
 have hp:=mY yU l [];refine mrg_apt n _ [] (by simp[PQ]) (fun x hx=>by simp at hx) (Wc yU l [] (by simp)) (fun y hy=>by simp at hy) fun x hx=>?_;exact h x (by simpa using hp.mem_iff.1 hx)
theorem JZ(l:List qx):(bV l).length<=l.length/\(l≠[]->bV l≠[]):=by
 have hp:=(mY yU l []).length_eq;simp only[List.nil_append]at hp;obtain⟨h1,h2⟩:=mrg_len (xV yU [] l) [];refine⟨by unfold bV;simp only[List.length_nil]at h1;omega,fun h=>h2 (.inr fun c=>?_)⟩;rw[c]at hp;exact h (List.eq_nil_of_length_eq_zero (by simpa using hp.symm))
theorem mrg_id: ∀(r out:List qx),PQ (out++r)->TE out r=out++r:=by
 intro r;induction r with
 |nil=>intro out _;simp[TE]
 |cons x r ih=>
  intro out h;have e:eZ out x=out++[x]:=by
   unfold eZ;cases hl:out.getLast? with
   |none=>rfl
   |some y=>
    have hy:y∈out:=List.mem_of_getLast? hl;have h1:=(List.pairwise_append.1 h).2.2 y hy x (by simp);have:=fJ y;have:=fJ x;simp only;rw[if_neg];unfold lf;split<;>split<;>omega
  show TE (eZ out x) r=_;rw[e,ih (out++[x]) (by simpa using h)];simp
theorem Vb(l:List qx)(h:PQ l):bV l=l:=by
 have h1:l.Pairwise (BK yU):=h.imp fun{a b} eM=>by
  have:=fJ a;have:=fJ b;unfold BK rU;omega
 unfold bV;rw[V0 yU l [] (by simpa using h1)];simp only[List.nil_append];rw[mrg_id l [] (by simpa using h)];simp
theorem norm_L0(n:Int)(l:Sl qx)(hl:l.l.length<2^60): ∀(r:List qx)(i:Nat),l.l.drop i=r-> ∃v,bg (n,l,(i:Int))=some v/\((v= .inl (⟨true,[]⟩,3)/\ ¬JO n r)\/(v= .inr ()/\JO n r)):=by
 intro r;induction r with
 |nil=>
  intro i h;have:=zc h;rw[bg.eq_1,if_neg (by simp;omega)];exact⟨_,rfl,.inr ⟨rfl,fun x hx=>by simp at hx⟩⟩
 |cons x r ih=>
  intro i h;obtain⟨h1,h2,h3⟩:=zp h;have hx:=fJ x;rw[bg.eq_1,if_pos (by simp;omega),gi h1,ws (by omega)];simp only[xe,z7,X2];have hm:th (yU x) n=some (decide (0<=(yU x).qO/\(yU x).to<=n)):=by
   unfold th;by_cases c:0<=(yU x).qO
   ·simp[c,hx]
   simp[c]
  rw[hm];simp only[z7];by_cases c:0<=(yU x).qO/\(yU x).to<=n
  ·rw[if_neg (by simpa using c)];obtain⟨v,g1,g2⟩:=ih (i+1) h2;refine⟨v,g1, ?_⟩;rcases g2 with ⟨g2,g3⟩|⟨g2,g3⟩
   ·exact .inl ⟨g2,fun k=>g3 fun z hz=>k z (by simp[hz])⟩
   refine .inr ⟨g2,fun z hz=>?_⟩;rcases List.mem_cons.1 hz with rfl|hz
   ·exact c
   exact g3 z hz
  rw[if_pos (by simp only[Bool.not_eq_true',decide_eq_false_iff_not];exact c)];exact⟨_,rfl,.inl ⟨rfl,fun k=>c (k x (by simp))⟩⟩
theorem TH(n:Int)(l:Sl qx)(hl:l.l.length<2^60): ∃(q:Sl qx)(c:Int),hU n l=some (q,c)/\((c=0/\l.l≠[]/\l.l.length<=64/\JO n l.l/\q=⟨(bV l.l).isEmpty,bV l.l⟩)\/(c≠0/\q=⟨true,[]⟩/\ ¬(l.l≠[]/\l.l.length<=64/\JO n l.l))):=by
 unfold hU;by_cases c1:l.l=[]
 ·rw[if_pos (by simp[c1])];exact⟨_,_,rfl,.inr ⟨by decide,rfl,fun k=>k.1 c1⟩⟩
 have hp:=List.length_pos_iff.2 c1;rw[if_neg (by simp;omega)];by_cases c2:l.l.length<=64
 ·rw[if_neg (by simp;omega)];obtain⟨v,g1,g2⟩:=norm_L0 n l hl l.l 0 rfl;rw[show ((0:Nat):Int)=0 from rfl]at g1;rw[g1];rcases g2 with ⟨rfl,g2⟩|⟨rfl,g2⟩
  ·exact⟨_,_,rfl,.inr ⟨by decide,rfl,fun k=>g2 k.2.2⟩⟩
  simp only[xe,z7,Gt l (by omega)];exact⟨_,_,rfl,.inl ⟨rfl,c1,c2,g2,rfl⟩⟩
 rw[if_pos (by simp;omega)];exact⟨_,_,rfl,.inr ⟨by decide,rfl,fun k=>c2 k.2.1⟩⟩
end Xr
namespace Xr
structure PZ (P:qu->Prop) (b:qa) (q:Sl qx) (ss:List qc) (fl:Sl (Sl (Sl Int))):Prop where
 blen:b.length<=2^39
 ne:q.l≠[]
 Wg:q.l.length<=64
 T4:PQ q.l
 XI:JO b.length q.l
 sA:ss.length<=16
 small: ∀s∈ss,jX s
 may: ∀s∈ss,cw s.insts.l b.length
 Jx:fl.l.length=ss.length
 fnn:ss≠[]->fl.nil=false
 each: ∀(i:Nat) s f,ss[i]? =some s->fl.l[i]? =some f->fp s.insts.l f
 stop: ∀s∈ss,∀ i∈s.insts.l,∀ x∈i.stops.l,P x
def Cored(P:qu->Prop):Prop:= ∀x y,core x=core y->P y->P x
def OwnE(e:qo)(s:qc)(a k:Int):Prop:=(a= -1/\k= -1)\/ ∃(a' k' :Nat)(i:qw)(x:qu),a=a' /\k=k' /\s.insts.l[a']? =some i/\i.stops.l[k']? =some x/\xo e.span x.span
theorem X6(a:ql):xo a a:=⟨Int.le_refl _,Int.le_refl _⟩
theorem eL{a b c:ql}(h1:xo a b)(h2:xo b c):xo a c:=by unfold xo at *; omega
section
variable {e:qo} (mark:Bool) (w:qa) (w2:Sl qx) (ss:List qc) (fl:Sl (Sl (Sl Int)))
theorem lay_L0(top inst stop:Int)(hs:ss.length<=16): ∀(d i:Nat)(is ks:List Int),i+d=ss.length->is.length=ss.length->ks.length=ss.length->(∀ j,j<i->is[j]? =some (-1)/\ks[j]? =some (-1))->
  ∃BI C9,kh (top,inst,stop,mark,(i:Int),w,w2,ss,fl,e,is,ks)=some (BI,C9)/\BI.length=ss.length/\C9.length=ss.length/\ ∀j,j<ss.length->BI[j]? =some (-1)/\C9[j]? =some (-1):=by
 intro d;induction d with
 |zero=>
  intro i is ks h h1 h2 H;rw[kh.eq_1,if_neg (by simp;omega)];exact⟨is,ks,rfl,h1,h2,fun j hj=>H j (by omega)⟩
 |succ d ih=>
  intro i is ks h h1 h2 H;obtain⟨x,hx⟩:=gl (l:=is) (k:=i) (by omega);obtain⟨y,hy⟩:=gl (l:=ks) (k:=i) (by omega);rw[kh.eq_1,if_pos (by simp;omega),gi hx,gi hy,ws (by omega)];simp only[xe,z7,Int.toNat_natCast];refine ih (i+1) _ _ (by omega) (by simp[h1]) (by simp[h2]) fun j hj=>?_;rw[xP,xP];by_cases c:i=j
  ·subst c;rw[if_pos ⟨rfl,by omega⟩,if_pos ⟨rfl,by omega⟩];exact⟨rfl,rfl⟩
  rw[if_neg (by omega),if_neg (by omega)];exact H j (by omega)
def aX(e:qo)(ss:List qc)(is ks:List Int):Prop:=is.length=ss.length/\ks.length=ss.length/\ ∀(j:Nat) s,ss[j]? =some s-> ∃a k,is[j]? =some a/\ks[j]? =some k/\OwnE e s a k
theorem lay_L2(top:Int)(Qi: ∀s∈ss,jX s)(M1: ∀s∈ss,∃ n,cw s.insts.l n): ∀(k:Nat)(is ks:List Int)(qk:ql),k<=ss.length->k<2^60->xo e.span qk->aX e ss is ks->
  ∃BI C9 at',jr (top,mark,(k:Int)-1,w,w2,ss,fl,e,is,ks,qk)=some (BI,C9,at')/\aX e ss BI C9/\ ∀j,k<=j->BI[j]? =is[j]? :=by
 intro k;induction k with
 |zero=>
  intro is ks qk _ _ _ H;rw[jr.eq_1,if_neg (by simp)];exact⟨is,ks,qk,rfl,H,fun j _=>rfl⟩
 |succ k ih=>
  intro is ks qk hk hb hw H;obtain⟨s,hs⟩:=gl (l:=ss) (k:=k) (by omega);have tQ:=qX hs;obtain⟨h1,h2,h3⟩:=H;obtain⟨x,hx⟩:=gl (l:=is) (k:=k) (by omega);obtain⟨y,hy⟩:=gl (l:=ks) (k:=k) (by omega);obtain⟨v,hv,hq⟩:=Zo s qk (Qi s tQ);rw[show ((k+1:Nat):Int)-1=(k:Int) by omega,jr.eq_1,if_pos (by simp),gi hs];simp only[xe,z7];rw[hv];simp only[z7];rw[gi hx,gi hy,show IntKind.i64.wrap ((k:Int)-1)=(k:Int)-1 from qI (by omega) (by omega)];simp only[z7,Int.toNat_natCast];have upd: ∀a c:Int,OwnE e s a c->aX e ss (is.set k a) (ks.set k c):=by
   intro a c hac;refine⟨by simp[h1],by simp[h2],fun j s' eN=>?_⟩;rw[xP,xP];by_cases cc:k=j
   ·subst cc;rw[hs]at eN;cases eN;rw[if_pos ⟨rfl,by omega⟩,if_pos ⟨rfl,by omega⟩];exact⟨a,c,rfl,rfl,hac⟩
   rw[if_neg (by omega),if_neg (by omega)];exact h3 j s' eN
  have tA: ∀(L:List Int)(a:Int)(j:Nat),k+1<=j->(L.set k a)[j]? =L[j]? :=by
   intro L a j hj;rw[xP,if_neg (by omega)]
  rcases hq with rfl|⟨a',k',i,z,g1,g2,g3,g4,_,_,g5⟩
  ·rw[if_neg (by simp)];obtain⟨BI,C9,at',q1,q2,q3⟩:=ih (is.set k (-1)) (ks.set k (-1)) qk (by omega) (by omega) hw (upd _ _ (.inl ⟨rfl,rfl⟩));exact⟨BI,C9,at',q1,q2,fun j hj=>by rw[q3 j (by omega),tA _ _ j hj]⟩
  obtain⟨va,vk⟩:=v;simp only at g1 g2 |-;subst g1 g2;rw[if_pos (by simp),gi g3];simp only[z7];obtain⟨n,hn⟩:=M1 s tQ;have sE:=(hn.may a' i g3).inside k' z g4;have hz:xo e.span z.span:=eL hw g5;obtain⟨BI,C9,at',q1,q2,q3⟩:=ih (is.set k (a' :Int)) (ks.set k (k' :Int)) i.span (by omega) (by omega) (eL hz ⟨sE.1,sE.2⟩) (upd _ _ (.inr ⟨a',k',i,z,rfl,rfl,g3,g4,hz⟩));exact⟨BI,C9,at',q1,q2,fun j hj=>by rw[q3 j (by omega),tA _ _ j hj]⟩
structure Laid (e:qo) (n:Int) (dK:List qc) (is:List Int) (i:Nat) (ss:List qc) (fl:Sl (Sl (Sl Int))):Prop where
 len:ss.length=dK.length
 Jx:fl.l.length=dK.length
 fnn:dK≠[]->fl.nil=false
 done: ∀(j:Nat) s,j<i->dK[j]? =some s-> ∃s' f a,ss[j]? =some s' /\fl.l[j]? =some f/\is[j]? =some a/\VX e n s a s' f
 todo: ∀(j:Nat) s,i<=j->dK[j]? =some s->ss[j]? =some s/\ ∃f,fl.l[j]? =some f/\fp s.insts.l f
theorem Gi(n:Int)(he:gx e n)(dK:List qc)(Qi: ∀s∈dK,jX s)(M1: ∀s∈dK,cw s.insts.l n)(is ks:List Int)(ho:aX e dK is ks)(i:Nat)(hi:i<dK.length)(fl:Sl (Sl (Sl Int)))(ss:List qc)(H:Laid e n dK is i ss fl):
  ∃s a k f,ss[i]? =some s/\is[i]? =some a/\ks[i]? =some k/\fl.l[i]? =some f/\fl.nil=false/\ ∀deep mark,∃ s' g,uu s a k e deep mark f=some (s',f,g)/\Laid e n dK is (i+1) (ss.set i s') ⟨false,fl.l.set i ⟨g.nil,g.l⟩⟩:=by
 obtain⟨s,hs⟩:=gl (l:=dK) (k:=i) hi;have tQ:=qX hs;obtain⟨t1,f,t2,t3⟩:=H.todo i s (xJ _) hs;obtain⟨a,k,o1,o2,o3⟩:=ho.2.2 i s hs;have jv:dK≠[]:=fun c=>by rw[c]at hi;simp at hi
 refine⟨s,a,k,f,t1,o1,o2,t2,H.fnn jv,fun deep mark=>?_⟩;obtain⟨s',g,g1,g2⟩:=OC e n he mark s (Qi s tQ) (M1 s tQ) deep e.span (X6 _) a k (by
  rcases o3 with o3|o3
  ·exact .inl o3
  exact .inr (.inr o3)) f t3
 refine⟨s',g,g1,⟨by simp[H.len],by simp[H.Jx],fun _=>rfl, ?_, ?_⟩⟩
 ·intro j s1 hj nh;by_cases c:i=j
  ·subst c;rw[hs]at nh;cases nh;refine⟨s',g,a, ?_, ?_,o1,g2⟩
   ·rw[xP,if_pos ⟨rfl,by rw[H.len];exact hi⟩]
   rw[xP,if_pos ⟨rfl,by rw[H.Jx];exact hi⟩]
  obtain⟨s2,f2,a2,k1,k2,k3,k4⟩:=H.done j s1 (by omega) nh;refine⟨s2,f2,a2, ?_, ?_,k3,k4⟩
  ·rw[xP,if_neg (by omega)];exact k1
  rw[xP,if_neg (by omega)];exact k2
 intro j s1 hj nh;obtain⟨k1,f2,k2,k3⟩:=H.todo j s1 (by omega) nh;refine⟨?_,f2, ?_,k3⟩
 ·rw[xP,if_neg (by omega)];exact k1
 rw[xP,if_neg (by omega)];exact k2
theorem lay_L4(n:Int)(he:gx e n)(dK:List qc)(hs16:dK.length<=16)(Qi: ∀s∈dK,jX s)(M1: ∀s∈dK,cw s.insts.l n)(is ks:List Int)(ho:aX e dK is ks)(top:Int)(qk:ql): ∀(d i:Nat)(fl:Sl (Sl (Sl Int)))(ss:List qc),i+d=dK.length->Laid e n dK is i ss fl->
  ∃OQ Yf,js (top,mark,(i:Int),w,w2,ss,fl,e,is,ks,qk)=some (OQ,Yf)/\Laid e n dK is dK.length OQ Yf:=by
 intro d;induction d with
 |zero=>
  intro i fl ss h H;have:=H.len;obtain rfl:i=dK.length:=by omega
  rw[js.eq_1,if_neg (by simp;omega)];exact⟨ss,fl,rfl,H⟩
 |succ d ih=>
  intro i fl ss h H;have hl:=H.len;obtain⟨s,a,k,f,g1,g2,g3,g4,g5,g6⟩:=Gi n he dK Qi M1 is ks ho i (by omega) fl ss H;rw[js.eq_1,if_pos (by simp;omega),g5,if_neg (by simp),gi g4];simp only[xe,z7];rw[gi g1,gi g2,gi g3,ws (by omega)];simp only[z7,Int.toNat_natCast];cases mark with
  |true=>
   obtain⟨s',g,q1,q2⟩:=g6 true true;rw[if_pos rfl,q1];exact ih (i+1) _ _ (by omega) q2
  |false=>
   obtain⟨s',g,q1,q2⟩:=g6 ((i:Int) != top) false;rw[if_neg (by simp),q1];exact ih (i+1) _ _ (by omega) q2
theorem lay_L42(n:Int)(he:gx e n)(dK:List qc)(hs16:dK.length<=16)(Qi: ∀s∈dK,jX s)(M1: ∀s∈dK,cw s.insts.l n)(is ks:List Int)(ho:aX e dK is ks)(top:Int): ∀(d i:Nat)(fl:Sl (Sl (Sl Int)))(ss:List qc),i+d=dK.length->Laid e n dK is i ss fl->
  ∃OQ Yf,xN (top,mark,(i:Int),w,w2,ss,fl,e,is,ks)=some (OQ,Yf)/\Laid e n dK is dK.length OQ Yf:=by
 intro d;induction d with
 |zero=>
  intro i fl ss h H;have:=H.len;obtain rfl:i=dK.length:=by omega
  rw[xN.eq_1,if_neg (by simp;omega)];exact⟨ss,fl,rfl,H⟩
 |succ d ih=>
  intro i fl ss h H;have hl:=H.len;obtain⟨s,a,k,f,g1,g2,g3,g4,g5,g6⟩:=Gi n he dK Qi M1 is ks ho i (by omega) fl ss H;rw[xN.eq_1,if_pos (by simp;omega),g5,if_neg (by simp),gi g4];simp only[xe,z7];rw[gi g1,gi g2,gi g3,ws (by omega)];simp only[z7,Int.toNat_natCast];cases mark with
  |true=>
   obtain⟨s',g,q1,q2⟩:=g6 true true;rw[if_pos rfl,q1];exact ih (i+1) _ _ (by omega) q2
  |false=>
   obtain⟨s',g,q1,q2⟩:=g6 ((i:Int) != top) false;rw[if_neg (by simp),q1];exact ih (i+1) _ _ (by omega) q2
end
def oZ(e:qo)(s:qx):qx:=⟨mv e.span.qO e.span.to e.text.length true s.anchor,mv e.span.qO e.span.to e.text.length true s.head⟩
theorem move6(e:qo)(n:Int)(he:gx e n)(p:Int)(h0:0<=p)(h1:p<=n):cp p true ⟨false,[e]⟩=some (mv e.span.qO e.span.to e.text.length true p):=by
 unfold cp;rw[Bl _ (by simp),V0 _ [e] [] (by simp)];simp only[List.nil_append,xe,z7];rw[show IntKind.i64.wrap ((([e]:List qo).length:Int)-1)=((0:Nat):Int) by(rw [show (([e]:List qo).length:Int)=1 from rfl];decide),nQ.eq_1,if_pos (by simp),gi (l:=[e]) (k:=0) rfl];simp only[xe,z7,MC e n he p h0 h1];rw[show IntKind.i64.wrap (((0:Nat):Int)-1)= -1 by decide,nQ.eq_1,if_neg (by simp)];rfl
theorem I5(e:qo)(n:Int)(he:gx e n)(p:Int)(h0:0<=p)(h1:p<=n):0<=mv e.span.qO e.span.to e.text.length true p/\mv e.span.qO e.span.to e.text.length true p<=n+(e.text.length-(e.span.to-e.span.qO)):=by
 have:=he.a0;have:=he.ab;have:=he.bn;unfold mv;split
 ·omega
 split
 ·omega
 simp only[if_true];omega
theorem iX(s:qx):(yU s).qO<=s.anchor/\(yU s).qO<=s.head/\s.anchor<=(yU s).to/\s.head<=(yU s).to:=by
 unfold yU;simp only;refine⟨?_, ?_, ?_, ?_⟩<;>split<;>omega
theorem I4(e:qo)(n:Int)(he:gx e n)(q:Sl qx)(hq:q.l.length<=2^19)(hn:JO n q.l): ∀(r:List qx)(i:Nat)(out:List qx),q.l.drop i=r->out.length=i->bf (q,⟨false,[e]⟩,(i:Int),out)=some (out++r.map (oZ e)):=by
 intro r;induction r with
 |nil=>
  intro i out h _;have:=zc h;rw[bf.eq_1,if_neg (by simp;omega)];simp
 |cons x r ih=>
  intro i out h ho;obtain⟨h1,h2,h3⟩:=zp h;have hx:=hn x (qX h1);have hs:=iX x;rw[bf.eq_1,if_pos (by simp;omega),gi h1,ws (by omega)];simp only[xe,z7];rw[move6 e n he x.anchor (by omega) (by omega),move6 e n he x.head (by omega) (by omega)];simp only[z7];rw[if_pos qB];have:=ih (i+1) (out++[oZ e x]) h2 (by simp;omega);rw[show qx.mk (mv e.span.qO e.span.to e.text.length true x.anchor) (mv e.span.qO e.span.to e.text.length true x.head)=oZ e x from rfl,this];simp
theorem Gu(e:qo)(n:Int)(he:gx e n)(q:Sl qx)(hq:q.l.length<=2^19)(hn:JO n q.l):cr q [e]=some ⟨(bV (q.l.map (oZ e))).isEmpty,bV (q.l.map (oZ e))⟩/\JO (n+(e.text.length-(e.span.to-e.span.qO))) (q.l.map (oZ e)):=by
 constructor
 ·unfold cr;rw[show (0:Int)=((0:Nat):Int)from rfl,I4 e n he q hq hn q.l 0 [] rfl rfl];simp only[xe,z7,List.nil_append];rw[Gt _ (by simpa using hq)];rfl
 intro y hy;obtain⟨x,hx,rfl⟩:=List.mem_map.1 hy;have h1:=hn x hx;have h2:=iX x;have h3:=I5 e n he x.anchor (by omega) (by omega);have h4:=I5 e n he x.head (by omega) (by omega);unfold yU oZ;simp only;constructor
 ·split<;>omega
 split<;>omega
end Xr
namespace Xr
def newText(b:qa)(e:qo):qa:=b.take e.span.qO.toNat++e.text++b.drop e.span.to.toNat
theorem ZS(b:qa)(e:qo)(he:gx e b.length):((newText b e).length:Int)=b.length+(e.text.length-(e.span.to-e.span.qO)):=by
 have:=he.a0;have:=he.ab;have:=he.bn;unfold newText;simp only[List.length_append,List.length_take,List.length_drop];omega
structure FP (P:qu->Prop) (b:qa) (e:qo) (ss:List qc) (top inst:Int) (v:qa×Sl qx×List qc×Sl (Sl (Sl Int))):Prop where
 text:v.1=newText b e
 ok:PZ P v.1 v.2.1 v.2.2.1 v.2.2.2
 len:v.2.2.1.length=ss.length
 cur: ∀(j:Nat) s,ss[j]? =some s-> ∃s',v.2.2.1[j]? =some s' /\s'.cur=s.cur
 top: ∀(t:Nat) s,top=t->inst≠ -1->ss[t]? =some s-> ∃s',v.2.2.1[t]? =some s' /\s'.insts.l.length=s.insts.l.length
section
variable {P:qu->Prop} (hP:Cored P) {b:qa} {q:Sl qx} {ss:List qc} {fl:Sl (Sl (Sl Int))}
include hP in
theorem Tx(W:PZ P b q ss fl){e:qo}(he:gx e b.length)(hB:b.length+e.text.length<=2^39)(is ks:List Int)(ho:aX e ss is ks)(top inst:Int)(htop: ∀(t:Nat),top=t->inst≠ -1-> ∀a,is[t]? =some a->a≠ -1)
  {OQ:List qc} {Yf:Sl (Sl (Sl Int))} (H:Laid e b.length ss is ss.length OQ Yf):
  FP P b e ss top inst (newText b e,⟨(bV (q.l.map (oZ e))).isEmpty,bV (q.l.map (oZ e))⟩,OQ,Yf):=by
 have hl:=ZS b e he;have hn:=(Gu e b.length he q (by have:=W.Wg;omega) W.XI).2;rw[<- hl]at hn;have hap:=lC _ _ hn;have JH:=JZ (q.l.map (oZ e));have eM:=he.ab;have hd: ∀(j:Nat) s',OQ[j]? =some s' -> ∃s f a,ss[j]? =some s/\Yf.l[j]? =some f/\is[j]? =some a/\VX e b.length s a s' f:=by
  intro j s' eN;have hj:=(qF eN).1;obtain⟨s,hs⟩:=gl (l:=ss) (k:=j) (by have:=H.len;omega);obtain⟨s2,f,a,k1,k2,k3,k4⟩:=H.done j s (by have:=H.len;omega) hs;rw[eN]at k1;cases k1;exact⟨s,f,a,hs,k2,k3,k4⟩
 refine⟨rfl, ?_,H.len, ?_, ?_⟩
 ·refine⟨by simp only;omega,JH.2 (by simpa using W.ne),by have:=W.Wg;have:=JH.1;simp only[List.length_map]at this;simp only;omega,hap.1,hap.2,by rw[H.len];exact W.sA, ?_, ?_,by rw[H.Jx,H.len], ?_, ?_, ?_⟩
  ·intro s' eN;obtain⟨j,hj⟩:=jz eN;obtain⟨s,f,a,k1,k2,k3,k4⟩:=hd j s' hj;have Qi:=W.small s (qX k1);refine⟨by have:=k4.len;have:=Qi.1;omega,fun i hi=>?_⟩;obtain⟨i0,hi0,h1,_⟩:=k4.core i hi;have:=Qi.2 i0 hi0;omega
  ·intro s' eN;obtain⟨j,hj⟩:=jz eN;obtain⟨s,f,a,k1,k2,k3,k4⟩:=hd j s' hj;rw[hl];exact k4.may
  ·intro jv;refine H.fnn fun c=>?_;have:=H.len;rw[c]at this;exact jv (List.eq_nil_of_length_eq_zero (by simpa using this))
  ·intro j s' f eN hf;obtain⟨s,f2,a,k1,k2,k3,k4⟩:=hd j s' eN;rw[hf]at k2;cases k2;exact k4.fl
  intro s' eN i hi x hx;obtain⟨j,hj⟩:=jz eN;obtain⟨s,f,a,k1,k2,k3,k4⟩:=hd j s' hj;obtain⟨i0,hi0,_,h2⟩:=k4.core i hi;obtain⟨x0,hx0,h3⟩:=h2 x hx;exact hP x x0 h3 (W.stop s (qX k1) i0 hi0 x0 hx0)
 ·intro j s hs;obtain⟨s',f,a,k1,k2,k3,k4⟩:=H.done j s (qF hs).1 hs;exact⟨s',k1,k4.cur⟩
 intro t s ht sE hs;obtain⟨s',f,a,k1,k2,k3,k4⟩:=H.done t s (qF hs).1 hs;exact⟨s',k1,k4.all (htop t ht sE a k3)⟩
include hP in
theorem Mc(W:PZ P b q ss fl){e:qo}(he:gx e b.length)(hB:b.length+e.text.length<=2^39)(top inst stop:Int)(mark:Bool)
  (ho:(inst= -1/\stop= -1)\/ ∃(t:Nat)(s:qc),top=t/\ss[t]? =some s/\inst≠ -1/\OwnE e s inst stop):
  ∃v,jy top inst stop e mark b q ss fl=some v/\FP P b e ss top inst v:=by
 have DF:=W.sA;have eM:=he.ab;have DG:=he.a0;have hbn:=he.bn;obtain⟨is0,ks0,g1,g2,g3,g4⟩:=lay_L0 mark b q ss fl (e:=e) top inst stop DF ss.length 0 (List.replicate ss.length 0) (List.replicate ss.length 0) (by omega) (by simp) (by simp) (fun j hj=>by omega);have ho0:aX e ss is0 ks0:=by
  refine⟨g2,g3,fun j s hs=>?_⟩;have hj:=g4 j (qF hs).1;exact⟨-1,-1,hj.1,hj.2,.inl ⟨rfl,rfl⟩⟩
 have L0: ∀is:List Int,Laid e b.length ss is 0 ss fl:=by
  intro is;refine⟨rfl,W.Jx,W.fnn,fun j s hj=>(by omega),fun j s _ hs=>?_⟩;obtain⟨f,hf⟩:=gl (l:=fl.l) (k:=j) (by rw[W.Jx];exact(qF hs).1);exact⟨hs,f,hf,W.each j s f hs hf⟩
 have hmv:=(Gu e b.length he q (by have:=W.Wg;omega) W.XI).1;have c1:kx b e.span.qO=some (b.take e.span.qO.toNat):=by
  obtain⟨r,k1,k2,_⟩:=qG.kx (l:=b) DG (by omega);rw[k1,k2]
 have c2:bX b e.span.to=some (b.drop e.span.to.toNat):=by
  obtain⟨r,k1,k2,_⟩:=qG.bX (l:=b) (lo:=e.span.to) (by omega) (by omega);rw[k1,k2]
 have hbl:=W.blen;have r1:(b.take e.span.qO.toNat).length+e.text.length<=2^62:=by simp;omega
 have r2:(b.take e.span.qO.toNat++e.text).length+(b.drop e.span.to.toNat).length<=2^62:=by simp;omega
 unfold jy;rw[if_pos (by simp),if_pos (qB (by simp;omega) (by omega)),if_pos (by simp),if_pos (qB (by simp;omega) (by omega))];simp only[Int.toNat_natCast];rw[show (0:Int)=((0:Nat):Int)from rfl,show List.replicate ss.length ((0:Nat):Int)=List.replicate ss.length 0 from rfl,g1];simp only[xe,z7];rcases ho with ⟨rfl,rfl⟩|⟨t,s,rfl,hs,sE,how⟩
 ·rw[if_neg (by simp)];obtain⟨OQ,Yf,k1,k2⟩:=lay_L42 mark b q b.length he ss DF W.small W.may is0 ks0 ho0 top ss.length 0 fl ss (by omega) (L0 is0);rw[k1];simp only[z7,c1,c2,hmv];rw[if_pos r1,if_pos r2];exact⟨_,rfl,Tx hP W he hB is0 ks0 ho0 top (-1) (fun t _ h=>absurd rfl h) k2⟩
 rcases how with ⟨h,_⟩|⟨a',k',i,x,rfl,rfl,h1,h2,h3⟩
 ·exact absurd h sE
 have htl:=(qF hs).1;rw[if_pos (by simp),gi (g4 t htl).1,gi (g4 t htl).2,gi hs];simp only[z7];rw[gi h1];simp only[z7,Int.toNat_natCast];have tQ:=qX hs;have hin' :=(W.may s tQ).may a' i h1 |>.inside k' x h2;have ho1:aX e ss (is0.set t (a' :Int)) (ks0.set t (k' :Int)):=by
  refine⟨by simp[g2],by simp[g3],fun j s' eN=>?_⟩;rw[xP,xP];by_cases c:t=j
  ·subst c;rw[hs]at eN;cases eN;rw[if_pos ⟨rfl,by omega⟩,if_pos ⟨rfl,by omega⟩];exact⟨_,_,rfl,rfl,.inr ⟨a',k',i,x,rfl,rfl,h1,h2,h3⟩⟩
  rw[if_neg (by omega),if_neg (by omega)];exact ho0.2.2 j s' eN
 obtain⟨BI,C9,at',m1,m2,m3⟩:=lay_L2 mark b q ss fl (t:Int) W.small (fun s hs=>⟨_,W.may s hs⟩) t (is0.set t (a' :Int)) (ks0.set t (k' :Int)) i.span (by omega) (by omega) (eL h3 ⟨hin'.1,hin'.2⟩) ho1;rw[show IntKind.i64.wrap ((t:Int)-1)=(t:Int)-1 from qI (by omega) (by omega),m1];simp only[z7];obtain⟨OQ,Yf,k1,k2⟩:=lay_L4 mark b q b.length he ss DF W.small W.may BI C9 m2 (t:Int) at' ss.length 0 fl ss (by omega) (L0 BI);rw[k1];simp only[z7,c1,c2,hmv];rw[if_pos r1,if_pos r2];refine⟨_,rfl,Tx hP W he hB BI C9 m2 (t:Int) (a' :Int) (fun t' ht' _ a ha=>?_) k2⟩;obtain rfl:t=t' :=by omega
 rw[m3 t (xJ _),xP,if_pos ⟨rfl,by omega⟩]at ha;cases ha;omega
end
end Xr
namespace Xr
theorem QW(n:Int)(l:List Int)(hl:l.length<2^60):qG (nA n l) (fun _=>True):=by
 have loop: ∀(d k:Nat),k+d=l.length->qG (yK (n,(k:Int),l)) (fun _=>True):=by
  intro d;induction d with
  |zero=>intro k h;rw[yK.eq_1,if_neg (by simp;omega)];exact .ret trivial
  |succ d ih=>
   intro k h;obtain⟨x,hx⟩:=gl (l:=l) (k:=k) (by omega);rw[yK.eq_1,if_pos (by simp;omega),ws (by omega)];refine .go (gi hx) ?_;split
   ·exact .ret trivial
   exact ih (k+1) (by omega)
 unfold nA;refine .bind (loop l.length 0 (by omega)) fun v _=>?_;rcases v with v|v<;>exact .ret trivial
theorem in_tot(l:Sl qu)(b:Int): ∀(m:Nat)(a:Int),m=(a+1).toNat->qG (si l a b) (fun _=>True):=by
 have loop: ∀(m:Nat)(a:Int),m=(a+1).toNat->qG (gq (l,a,b)) (fun _=>True):=by
  intro m;induction m using Nat.strongRecOn with
  |_ m ih=>
  intro a hm;rw[gq.eq_1];by_cases c:0<=a/\a<(l.l.length:Int)
  ·obtain⟨k,rfl⟩: ∃k:Nat,a=k:=⟨a.toNat,by omega⟩;obtain⟨x,hx⟩:=gl (l:=l.l) (k:=k) (by omega);rw[if_pos (by simp;omega)];refine .go (gi hx) ?_;refine .ite (fun c1=>?_) fun _=> .ret trivial;refine .ite (fun c2=>?_) fun _=> .ret trivial;refine .ite (fun _=> .ret trivial) fun _=>?_;simp only[decide_eq_true_eq]at c1 c2;exact ih (x.up+1).toNat (by omega) x.up rfl
  rw[if_neg (by simp only[zB,decide_eq_true_eq];omega)];exact .ret trivial
 intro m a hm;unfold si;refine .bind (loop m a hm) fun v _=>?_;rcases v with v|v<;>exact .ret trivial
theorem AK(l:Sl qu)(n:Int)(zE:List Int)(hl:l.l.length<2^60)(ht:zE.length<2^60):qG (dd l n zE) (fun _=>True):=by
 have EN: ∀(a:Int)(d k:Nat),k+d=l.l.length->qG (yd (l,n,a,(k:Int),zE)) (fun _=>True):=by
  intro a d;induction d with
  |zero=>intro k h;rw[yd.eq_1,if_neg (by simp;omega)];exact .ret trivial
  |succ d ih=>
   intro k h;obtain⟨x,hx⟩:=gl (l:=l.l) (k:=k) (by omega);rw[yd.eq_1,if_pos (by simp;omega),ws (by omega)];refine .go (gi hx) ?_;refine .ite (fun _=>?_) fun _=>ih (k+1) (by omega);refine .bind (in_tot l _ _ a rfl) fun v _=>?_;exact .ite (fun _=> .ret trivial) fun _=>ih (k+1) (by omega)
 have loop: ∀(d k:Nat),k+d=l.l.length->qG (wD (l,n,(k:Int),zE)) (fun _=>True):=by
  intro d;induction d with
  |zero=>intro k h;rw[wD.eq_1,if_neg (by simp;omega)];exact .ret trivial
  |succ d ih=>
   intro k h;obtain⟨x,hx⟩:=gl (l:=l.l) (k:=k) (by omega);rw[wD.eq_1,if_pos (by simp;omega),ws (by omega)];refine .go (gi hx) ?_;refine .ite (fun _=>ih (k+1) (by omega)) fun _=>?_;refine .bind (QW x.n zE ht) fun v _=>?_;refine .ite (fun _=>ih (k+1) (by omega)) fun _=>?_;refine .bind (EN (k:Int) l.l.length 0 (by omega)) fun w _=>?_;rcases w with w|w
   ·exact .ret trivial
   exact ih (k+1) (by omega)
 unfold dd;refine .bind (loop l.l.length 0 (by omega)) fun v _=>?_;rcases v with v|v<;>exact .ret trivial
theorem TT(ns:Sl Int)(n:Int)(hl:ns.l.length<=2^28):qG (pj ns n) (fun r=>r.l.length<=ns.l.length+1/\(∀ x∈r.l,x=n\/x∈ns.l)/\n∈r.l/\ ∀x∈ns.l,x∈r.l):=by
 have loop: ∀(d k:Nat),k+d=ns.l.length->qG (gQ (ns,n,(k:Int))) (fun v=> ∃j:Nat,v=j/\j<=ns.l.length):=by
  intro d;induction d with
  |zero=>intro k h;rw[gQ.eq_1,if_neg (by simp;omega)];exact .ret ⟨k,rfl,by omega⟩
  |succ d ih=>
   intro k h;obtain⟨x,hx⟩:=gl (l:=ns.l) (k:=k) (by omega);rw[gQ.eq_1,if_pos (by simp;omega),ws (by omega)];refine .go (gi hx) ?_;exact .ite (fun _=>ih (k+1) (by omega)) fun _=> .ret ⟨k,rfl,by omega⟩
 unfold pj;refine .bind (loop ns.l.length 0 (by omega)) fun v hv=>?_;obtain⟨j,rfl,hj⟩:=hv;have mid:(ns.l.take j++[n]++ns.l.drop j).length<=ns.l.length+1/\(∀ x∈ns.l.take j++[n]++ns.l.drop j,x=n\/x∈ns.l)/\n∈ns.l.take j++[n]++ns.l.drop j/\ ∀x∈ns.l,x∈ns.l.take j++[n]++ns.l.drop j:=by
  refine⟨by simp;omega,fun x hx=>?_,by simp,fun x hx=>?_⟩
  ·simp only[List.mem_append,List.mem_singleton]at hx;rcases hx with (hx|hx)|hx
   ·exact .inr (List.mem_of_mem_take hx)
   ·exact .inl hx
   exact .inr (List.mem_of_mem_drop hx)
  rw[<- List.take_append_drop j ns.l]at hx;simp only[List.mem_append,List.mem_singleton]at hx |-;rcases hx with hx|hx
  ·exact .inl (.inl hx)
  exact .inr hx
 have r1:qg (ns.l.take j).length 8=true:=qB (by simp;omega) (by omega);have r2:qg ((ns.l.take j).length+1) 8=true:=qB (by simp;omega) (by omega);have r3:qg ((ns.l.take j++[n]).length+(ns.l.drop j).length) 8=true:=qB (by simp;omega) (by omega);refine .ite (fun c=>?_) fun _=>?_
 ·obtain⟨x,hx⟩:=gl (l:=ns.l) (k:=j) (by simp at c;omega);refine .go (gi hx) ?_;refine .ite (fun c2=>?_) fun _=>?_
  ·refine .ret ⟨by omega,fun y hy=> .inr hy, ?_,fun y hy=>hy⟩;have:=qX hx;simp only[beq_iff_eq]at c2;rw[<- c2];exact this
  refine .go (Xe _ _ hj) ?_;refine .zm r1 (qG.zm r2 ?_);refine .go (Ax _ _ hj) ?_;exact .zm r3 (.ret mid)
 refine .go (Xe _ _ hj) ?_;refine .zm r1 (qG.zm r2 ?_);refine .go (Ax _ _ hj) ?_;exact .zm r3 (.ret mid)
theorem Cm(i:qw)(hl:i.stops.l.length<=2^12):qG (sj i) (fun r=>r.l.length<=2^12):=by
 have loop0: ∀(d k:Nat)(a:Sl Int),k+d=i.stops.l.length->a.l.length<=k->qG (yH (a,(k:Int),i)) (fun r=>r.l.length<=i.stops.l.length):=by
  intro d;induction d with
  |zero=>intro k a h ha;rw[yH.eq_1,if_neg (by simp;omega)];exact .ret (by omega)
  |succ d ih=>
   intro k a h ha;obtain⟨x,hx⟩:=gl (l:=i.stops.l) (k:=k) (by omega);rw[yH.eq_1,if_pos (by simp;omega),ws (by omega)];refine .go (gi hx) ?_;refine .bind (TT a x.n (by omega)) fun v hv=>?_;exact ih (k+1) v (by omega) (by omega)
 have loop4: ∀(a:Sl Int)(zE:List Int),a.l.length<=2^12->zE.length<=2^12-> ∀(d k:Nat)(next:Int)(f:Bool),k+d=a.l.length->qG (kK (a,next,f,(k:Int),i,zE)) (fun _=>True):=by
  intro a zE ha ht d;induction d with
  |zero=>intro k next f h;rw[kK.eq_1,if_neg (by simp;omega)];exact .ret trivial
  |succ d ih=>
   intro k next f h
   obtain⟨x,hx⟩:=gl (l:=a.l) (k:=k) (by omega);rw[kK.eq_1,ws (by omega)];refine .ite (fun _=>?_) fun _=> .ret trivial;refine .go (gi hx) ?_;refine .bind (QW x zE (by omega)) fun v _=>?_;refine .ite (fun _=>?_) fun _=>ih (k+1) _ _ (by omega);refine .bind (AK i.stops x zE (by omega) (by omega)) fun w _=>?_;exact .ite (fun _=>ih (k+1) _ _ (by omega)) fun _=>ih (k+1) _ _ (by omega)
 have loop6: ∀(a:Sl Int)(zE:List Int),a.l.length<=2^12->zE.length<=2^12-> ∀(d k:Nat)(next:Int)(f:Bool),k+d=a.l.length->qG (wL (a,next,f,(k:Int),i,zE)) (fun _=>True):=by
  intro a zE ha ht d;induction d with
  |zero=>intro k next f h;rw[wL.eq_1,if_neg (by simp;omega)];exact .ret trivial
  |succ d ih=>
   intro k next f h
   obtain⟨x,hx⟩:=gl (l:=a.l) (k:=k) (by omega);rw[wL.eq_1,ws (by omega)];refine .ite (fun _=>?_) fun _=> .ret trivial;refine .go (gi hx) ?_;refine .bind (QW x zE (by omega)) fun v _=>?_;exact .ite (fun _=>ih (k+1) _ _ (by omega)) fun _=>ih (k+1) _ _ (by omega)
 have EN: ∀(a:Sl Int),a.l.length<=2^12-> ∀(d:Nat)(zE:List Int),zE.length+d=a.l.length->qG (yI (a,i,zE)) (fun r=>r.length<=2^12):=by
  intro a ha d;induction d with
  |zero=>intro zE h;rw[yI.eq_1,if_neg (by simp;omega)];exact .ret (by omega)
  |succ d ih=>
   intro zE h;rw[yI.eq_1,if_pos (by simp;omega)];refine .bind (loop4 a zE ha (by omega) a.l.length 0 _ _ (by omega)) fun v _=>?_;refine .bind (loop6 a zE ha (by omega) a.l.length 0 _ _ (by omega)) fun w _=>?_;refine .zm qB ?_;exact ih _ (by simp;omega)
 unfold sj;refine .bind (loop0 i.stops.l.length 0 ⟨true,[]⟩ (by omega) (by simp)) fun v hv=>?_;refine .bind (EN v (by omega) v.l.length [] (by simp)) fun w hw=>?_;exact .ret hw
def Nb(m:Nat)(r:Int):Prop:=r<0\/ ∃j:Nat,r=j/\j<m
def SrcQ(m:Nat)(v:(Int×Int×Int)⊕(Int×Int)):Prop:=match v with| .inl w=>Nb m w.1| .inr w=>Nb m w.1/\Nb m w.2
theorem Pq(i:qw)(n:Int)(held:Sl Bool)(hl:i.stops.l.length<2^60):qG (pZ i n held) (fun r=>r<0\/ ∃(k:Nat)(x:qu),r=k/\i.stops.l[k]? =some x):=by
 have ok: ∀(r:Int),Nb i.stops.l.length r->(r<0\/ ∃(k:Nat)(x:qu),r=k/\i.stops.l[k]? =some x):=by
  intro r h;rcases h with h|⟨k,h1,h2⟩
  ·exact .inl h
  obtain⟨x,hx⟩:=gl h2;exact .inr ⟨k,x,h1,hx⟩
 have loop: ∀(d k:Nat)(f a:Int),k+d=i.stops.l.length->Nb i.stops.l.length f->Nb i.stops.l.length a->
   qG (zA (n,held,f,a,(k:Int),i)) (SrcQ i.stops.l.length):=by
  intro d;induction d with
  |zero=>intro k f a h hf ha;rw[zA.eq_1,if_neg (by simp;omega)];exact .ret (show SrcQ _ (.inr (f,a))from⟨hf,ha⟩)
  |succ d ih=>
   intro k f a h hf ha;obtain⟨x,hx⟩:=gl (l:=i.stops.l) (k:=k) (by omega);have hk:Nb i.stops.l.length (k:Int):= .inr ⟨k,rfl,by omega⟩;rw[zA.eq_1,if_pos (by simp;omega),ws (by omega)];refine .go (gi hx) ?_;refine .ite (fun _=>ih (k+1) f a (by omega) hf ha) fun _=>?_;have rest: ∀(f' a' :Int),(f' =f\/f' =k)->(a' =a\/a' =k)->qG (zA (n,held,f',a',((k+1:Nat):Int),i)) (SrcQ i.stops.l.length):=fun f' a' h1 h2=>
    ih (k+1) f' a' (by omega) (h1.elim (fun e=>e ▸ hf) (fun e=>e ▸ hk)) (h2.elim (fun e=>e ▸ ha) (fun e=>e ▸ hk))
   refine .ite (fun c=>?_) fun _=>?_
   ·obtain⟨hb,hhb⟩:=gl (l:=held.l) (k:=k) (by simp at c;omega);refine .go (gi hhb) ?_;refine .ite (fun _=> .ret (show SrcQ _ (.inl _)from hk)) fun _=>?_;refine .ite (fun _=>?_) fun _=>?_
    ·exact .ite (fun _=>rest _ _ (.inr rfl) (.inr rfl)) fun _=>rest _ _ (.inr rfl) (.inl rfl)
    exact .ite (fun _=>rest _ _ (.inl rfl) (.inr rfl)) fun _=>rest _ _ (.inl rfl) (.inl rfl)
   refine .ite (fun _=>?_) fun _=>?_
   ·exact .ite (fun _=>rest _ _ (.inr rfl) (.inr rfl)) fun _=>rest _ _ (.inr rfl) (.inl rfl)
   exact .ite (fun _=>rest _ _ (.inl rfl) (.inr rfl)) fun _=>rest _ _ (.inl rfl) (.inl rfl)
 unfold pZ;refine .bind (loop i.stops.l.length 0 (-1) (-1) (by omega) (.inl (by omega)) (.inl (by omega))) fun v hv=>?_;rcases v with v|v
 ·exact .ret (ok _ hv)
 exact .ite (fun _=> .ret (ok _ hv.1)) fun _=> .ret (ok _ hv.2)
end Xr
set_option maxHeartbeats 1000000
def qK:List Nat->Nat
 |[]=>0
 |a::r=>a+qK r
theorem gu: ∀a b:List Nat,qK (a++b)=qK a+qK b
 |[],b=>by simp[qK]
 |x::a,b=>by simp only[List.cons_append,qK,gu a b];omega
theorem Bv: ∀{l:List Nat}{x:Nat},x∈l->x<=qK l
 |y::l,x,h=>by
  simp only[qK];rcases List.mem_cons.1 h with rfl|h
  ·omega
  have:=Bv h;omega
theorem xg{α:Type}{f:α->Nat}(hf: ∀a,1<=f a): ∀l:List α,l.length<=qK (l.map f)
 |[]=>by simp[qK]
 |a::l=>by
  have:=xg hf l;have:=hf a;simp only[List.map_cons,qK,List.length_cons];omega
theorem jS{α:Type}(f:α->Nat)(l:List α)(a:α):qK ((l++[a]).map f)=qK (l.map f)+f a:=by
 rw[List.map_append,gu];simp[qK]
theorem xA{α:Type}{f:α->Nat}{l:List α}{a:α}(h:a∈l):f a<=qK (l.map f):=Bv (List.mem_map.2 ⟨a,h,rfl⟩)
theorem iZ{α:Type}(f:α->Nat): ∀(l:List α)(i:Nat)(a x:α),l[i]? =some x->qK ((l.set i a).map f)+f x=qK (l.map f)+f a
 |y::l,0,a,x,h=>by
  simp only[List.getElem?_cons_zero,kX]at h;subst h;simp only[List.set_cons_zero,List.map_cons,qK];omega
 |y::l,i+1,a,x,h=>by
  simp only[List.getElem?_cons_succ]at h;have:=iZ f l i a x h;simp only[List.set_cons_succ,List.map_cons,qK];omega
def ei(f:zl):Nat:=1+f.i7.length+f.oH.length
theorem XB(x:zl):1<=ei x:=by unfold ei;omega
theorem K1(w:Int):qG (rf w) (fun r=>r.length<=20):=by
 unfold rf
 repeat' (first|(refine .tI ?_ ?_<;>intro hT)|exact .ret (by decide))
theorem GK(s:qa)(hs:s.length<=BN)(e:Int)(h0:0<=e)(h1:e+1<s.length)(t f:zl): ∀(m:Nat)(w:Int),m=(6-w).toNat->1<=w->
  qG (uE (s,e,w,t,f)) (fun r=> ∀y,r= .inl y->e<y.1/\y.1<=s.length/\ei y.2.2.1=ei f/\y.2.1=true):=by
 unfold BN at hs;intro m;induction m using Nat.strongRecOn with
 |_ m ih=>
 intro w hm h2;rw[uE.eq_1];have:= @K1;exact tW
theorem Jb(s:qa)(hs:s.length<=BN)(qk:Int)(h0:0<=qk)(h1:qk<s.length)(c:Bool):qG (mP s qk c) (fun r=>r=true->qk+1<s.length):=by
 unfold BN at hs;unfold mP;exact tW
theorem Yu(s:qa)(hs:s.length<=BN)(stop:UInt8): ∀(m:Nat)(qk:Int)(b:List UInt8),m=(s.length-qk).toNat->0<=qk->qk<=s.length->b.length<=BN->(b.length:Int)<=qk->
  qG (yA (s,qk,stop,b)) (fun r=>qk<=r.1/\r.1<=s.length/\(r.2.length:Int)+qk<=b.length+r.1):=by
 unfold BN at hs;intro m;induction m using Nat.strongRecOn with
 |_ m ih=>
 intro qk b hm h0 h1 hb hb2;rw[yA.eq_1];have:= @Jb;exact tW
theorem fT(s:qa)(hs:s.length<=BN)(qk:Int)(h0:0<=qk)(h1:qk<=s.length)(stop:UInt8):
  qG (uh s qk stop) (fun r=>r.2.2=true->qk<=r.2.1/\r.2.1<s.length/\(r.1.length:Int)+qk<=r.2.1):=by
 unfold uh;have:= @Yu;exact tW
set_option maxHeartbeats 2000000 in
theorem ME(s:qa)(hs:s.length<=BN)(qk:Int)(h0:0<=qk)(h1:qk<s.length):
  qG (cY s qk) (fun r=>r.2.2=true->qk+1<r.2.1/\r.2.1<=s.length/\(ei r.1:Int)+qk+1<=r.2.1):=by
 have hB:s.length<=8192:=hs;unfold cY
 (repeat (first|(rw [qI];rotate_left;omega;omega)|(rw [xp];rotate_left;omega;omega)))
 refine .bind (cK s hs (qk+1) (by omega) (by omega)) fun v hv=>?_;refine .tI ?_ ?_<;>intro hT
 ·have hc:=hT;have:=hv.2.2 hc;exact .ret fun _=>⟨by simp only;omega,by simp only;omega,by simp only[ei,List.length_nil];omega⟩
 refine .tI ?_ ?_<;>intro hT
 ·exact .ret (by simp)
 refine .bind .get fun b hb=>?_;refine .tI ?_ ?_<;>intro hT
 ·exact .ret (by simp)
 refine .bind (cK s hs (qk+2) (by omega) (by omega)) fun w hw=>?_;refine .tI ?_ ?_<;>intro hT
 ·exact .ret (by simp)
 have hc:=hT;have Tp:=hw.2.2 (by simpa using hc.1);refine .bind .get fun b2 hb2=>?_
 (repeat (first|(rw [qI];rotate_left;omega;omega)|(rw [xp];rotate_left;omega;omega)))
 refine .tI ?_ ?_<;>intro hT
 ·exact .ret fun _=>⟨by simp only;omega,by simp only;omega,by simp only[ei,List.length_nil];omega⟩
 refine .tI ?_ ?_<;>intro hT
 ·exact .ret (by simp)
 refine .bind .get fun b3 hb3=>?_;refine .tI ?_ ?_<;>intro hT
 ·refine .bind (GK s hs w.2.1 (by omega) (by omega) _ _ _ 1 rfl (by omega)) fun y hy=>?_;rcases y with y|y
  ·obtain⟨g1,g2,g3,g4⟩:=hy y rfl;refine .ret fun _=>?_;simp only[ei,List.length_nil]at g3 |-;omega
  exact .ret (by simp)
 (repeat (first|(rw [qI];rotate_left;omega;omega)|(rw [xp];rotate_left;omega;omega)))
 refine .tI ?_ ?_<;>intro hT
 ·refine .bind (fT s hs (w.2.1+2) (by omega) (by omega) 125) fun y hy=>?_;refine .tI ?_ ?_<;>intro hT
  ·exact .ret (by simp)
  have hc:=hT;have hy:=hy hc
  (repeat (first|(rw [qI];rotate_left;omega;omega)|(rw [xp];rotate_left;omega;omega)))
  refine .ret fun _=>?_;simp only[ei,List.length_nil];omega
 refine .tI ?_ ?_<;>intro hT
 ·refine .bind (fT s hs (w.2.1+2) (by omega) (by omega) 58) fun y hy=>?_;refine .tI ?_ ?_<;>intro hT
  ·have hc:=hT;have hy:=hy hc
   (repeat (first|(rw [qI];rotate_left;omega;omega)|(rw [xp];rotate_left;omega;omega)))
   refine .bind (fT s hs (y.2.1+1) (by omega) (by omega) 125) fun z hz=>?_;refine .tI ?_ ?_<;>intro hT
   ·exact .ret (by simp)
   have hc:=hT;have hz:=hz hc
   (repeat (first|(rw [qI];rotate_left;omega;omega)|(rw [xp];rotate_left;omega;omega)))
   refine .ret fun _=>?_;simp only[ei];omega
  exact .ret (by simp)
 refine .tI ?_ ?_<;>intro hT
 ·refine .bind (fT s hs (w.2.1+2) (by omega) (by omega) 125) fun y hy=>?_;refine .tI ?_ ?_<;>intro hT
  ·exact .ret (by simp)
  have hc:=hT;have hy:=hy hc
  (repeat (first|(rw [qI];rotate_left;omega;omega)|(rw [xp];rotate_left;omega;omega)))
  refine .ret fun _=>?_;simp only[ei,List.length_nil];omega
 refine .bind (fT s hs (w.2.1+1) (by omega) (by omega) 125) fun y hy=>?_;refine .tI ?_ ?_<;>intro hT
 ·exact .ret (by simp)
 have hc:=hT;have hy:=hy hc
 (repeat (first|(rw [qI];rotate_left;omega;omega)|(rw [xp];rotate_left;omega;omega)))
 refine .ret fun _=>?_;simp only[ei,List.length_nil];omega
theorem last_eq{α:Type}(l:List α)(a:α):(((l++[a]).length:Int)-1).toNat=l.length:=by simp
theorem Oz{α:Type}(l:List α)(a b:α):(l++[a]).set l.length b=l++[b]:=by simp
theorem PC(c:UInt8)(fs:List zl)(hf:qK (fs.map ei)<=4*BN):
  qG (nw c fs) (fun r=>qK (r.map ei)<=qK (fs.map ei)+2):=by
 unfold BN at hf;have hl:=xg XB fs;have key: ∀z:zl,z.i7=[]->z.oH=[]->qG (qi (fs++[z]) (IntKind.i64.wrap (((fs++[z]).length:Int)-1))) (fun x=>x=z):=by
  intro z h1 h2;have:IntKind.i64.wrap (((fs++[z]).length:Int)-1)=(fs.length:Int):=by
   rw[qI (by simp only[List.length_append,List.length_cons,List.length_nil];omega) (by simp only[List.length_append,List.length_cons,List.length_nil];omega)];simp
  rw[this];refine(qG.get (by omega) (by simp only[List.length_append,List.length_cons,List.length_nil];omega)).mono fun x hx=>?_;have:=hx.1;simp at this;exact this.symm
 have snd: ∀(z y:zl),z.i7=[]->z.oH=[]->y.i7=[c]->y.oH=[]->qK (((fs++[z]).set (IntKind.i64.wrap (((fs++[z]).length:Int)-1)).toNat y).map ei)<=qK (fs.map ei)+2:=by
  intro z y h1 h2 h3 h4;rw[qI (by simp only[List.length_append,List.length_cons,List.length_nil];omega) (by simp only[List.length_append,List.length_cons,List.length_nil];omega),last_eq,Oz,jS];simp[ei,h3,h4]
 unfold nw;refine .tI ?_ ?_<;>intro hT
 ·refine .zm qB ?_;refine .bind (key _ rfl rfl) fun x hx=>?_;subst hx;refine .zm (by simp) ?_;exact .ret (snd _ _ rfl rfl (by simp) rfl)
 have e1:IntKind.i64.wrap ((fs.length:Int)-1)=(fs.length:Int)-1:=qI (by omega) (by omega);rw[e1];refine .bind .get fun x hx=>?_;have Er:=xA (f:=ei) hx.2;refine .tI ?_ ?_<;>intro hT
 ·refine .zm qB ?_;refine .bind (key _ rfl rfl) fun x hx=>?_;subst hx;refine .zm (by simp) ?_;exact .ret (snd _ _ rfl rfl (by simp) rfl)
 refine .zm (by simp only[ei]at Er;simp;omega) ?_;refine .ret ?_;have:=iZ ei fs ((fs.length:Int)-1).toNat (zl.mk x.kind x.n x.WD (x.i7++[c]) x.oH) x hx.1;simp only[ei,List.length_append,List.length_cons,List.length_nil]at this |-;have e2:qK (List.map (fun f=>1+f.i7.length+f.oH.length) (fs.set ((fs.length:Int)-1).toNat (zl.mk x.kind x.n x.WD (x.i7++[c]) x.oH)))=qK (List.map ei (fs.set ((fs.length:Int)-1).toNat (zl.mk x.kind x.n x.WD (x.i7++[c]) x.oH))):=rfl;omega
theorem Wh(s:qa)(hs:s.length<=BN): ∀(m:Nat)(qk:Int)(fs:List zl),m=(s.length-qk).toNat->0<=qk->qk<=s.length->(qK (fs.map ei):Int)<=2*qk->
  qG (kA (s,qk,fs)) (fun r=>qk<=r.1/\r.1<=s.length/\(qK (r.2.map ei):Int)+2*qk<=qK (fs.map ei)+2*r.1):=by
 have hB:s.length<=8192:=hs;intro m;induction m using Nat.strongRecOn with
 |_ m ih=>
 intro qk fs hm h0 h1 hw;have hl:=xg XB fs;rw[kA.eq_1];have:= @PC;have:= @ME;have:= @jS;have:= @Jb;exact tW
theorem MN(s:qa)(hs:s.length<=BN)(qk:Int):
  qG (cX s qk) (fun r=>r.2.2=true->0<=qk/\qk<=r.2.1/\r.2.1<s.length/\(qK (r.1.l.map ei):Int)<=2*(r.2.1-qk)):=by
 unfold cX;refine .tI ?_ ?_<;>intro hT
 ·exact .ret (by simp)
 refine .bind (Wh s hs _ qk [] rfl (by omega) (by omega) (by simp[qK];omega)) fun v hv=>?_;refine .tI ?_ ?_<;>intro hT
 ·exact .ret (by simp)
 refine .ret fun _=>?_;simp only[List.map_nil,qK]at hv |-;omega
def uv(r:qT):Nat:=1+r.qO.length+r.to.length
theorem sw(r:qT):1<=uv r:=by unfold uv;omega
mutual
def tn:qE->Nat
 |⟨_,c,_,rows,_,_,_,qy⟩=>1+c.length+qK (rows.l.map uv)+rxWS qy
def rxWS:Sl qE->Nat
 |⟨_,l⟩=>Ou l
def Ou:List qE->Nat
 |[]=>0
 |x::r=>tn x+Ou r
end
theorem Bf: ∀l:List qE,Ou l=qK (l.map tn)
 |[]=>by simp[Ou,qK]
 |x::r=>by simp[Ou,qK,Bf r]
theorem vS(x:qE):tn x=1+x.char.length+qK (x.rows.l.map uv)+qK (x.qy.l.map tn):=by
 cases x with|mk a b c d e f g h=>cases h;simp[tn,rxWS,Bf]
theorem eF(x:qE):1<=tn x:=by rw[vS];omega
theorem rT(b:UInt8):qG (vh b) (fun _=>True):=by
 unfold vh
 repeat' (first|(refine .tI ?_ ?_<;>intro hT)|exact .ret trivial)
theorem Uj(s:qa)(hs:s.length<=BN): ∀(m:Nat)(f i:Int)(l:List qa),m=(s.length+1-i).toNat->0<=f->f<i->i<=s.length+1->(l.length:Int)<=f->(∀ c∈l,c.length<=s.length)->
  qG (zy (s,f,i,l)) (fun r=>r.length<=s.length+1/\ ∀c∈r,c.length<=s.length):=by
 have hB:s.length<=8192:=hs;intro m;induction m using Nat.strongRecOn with
 |_ m ih=>
 intro f i l hm h0 h1 h2 h3 h4;rw[zy.eq_1];have more:i<=s.length-> ∀r:qa,(r.length:Int)=i-f-> ∀c∈l++[r],c.length<=s.length:=by
  intro hi r hr c hc;rcases List.mem_append.1 hc with hc|hc
  ·exact h4 c hc
  have:c=r:=by simpa using hc
  subst this;omega
 refine .tI ?_ ?_<;>intro hT
 ·refine .tI ?_ ?_<;>intro hT
  ·exact tW
  refine .bind .get fun b hb=>?_;refine .bind (rT b) fun v hv=>?_;refine .tI ?_ ?_<;>intro hT
  ·exact tW
  (repeat (first|(rw [qI];rotate_left;omega;omega)|(rw [xp];rotate_left;omega;omega)))
  exact ih _ (by omega) f (i+1) _ rfl (by omega) (by omega) (by omega) (by omega) h4
 exact .ret ⟨by show l.length<=_;omega,h4⟩
theorem VN(s:qa)(hs:s.length<=BN):qG (vX s) (fun r=>r.l.length<=s.length+1/\ ∀c∈r.l,c.length<=s.length):=by
 unfold vX;have:= @zy.eq_1;have:= @Uj;exact tW
theorem lD(c:qa)(hc:c.length<=BN):qG (jf c) (fun _=>True):=by
 unfold jf;refine .tI ?_ ?_<;>intro hT
 ·refine .bind .get fun b hb=>?_;refine .bind (rT b) fun v hv=>?_;have:= @VN;exact tW
 exact .ret trivial
theorem HU: ∀(m:Nat)(i:Int)(b:List UInt8),m=(b.length-i).toNat->0<=i->b.length<=BN->qG (kz (i,b)) (fun r=>r.length=b.length):=by
 intro m;induction m using Nat.strongRecOn with
 |_ m ih=>
 intro i b hm h0 hb;have hB:b.length<=8192:=hb;rw[kz.eq_1];exact tW
theorem AJ(s:qa)(hs:s.length<=BN):qG (uC s) (fun r=>r.length=s.length):=by
 unfold uC;have:= @HU;exact tW
theorem Vc(c:UInt8):qG (pf c) (fun r=>qK (r.1.l.map uv)<=12):=by
 unfold pf
 repeat' (first|(refine .tI ?_ ?_<;>intro hT)|exact .ret (by decide))
theorem Jr(c:qa):qG (wA c) (fun r=>r.1.length<=c.length+1/\(r.2=true->0<c.length)):=by
 unfold wA;refine .tI ?_ ?_<;>intro hT
 ·exact .ret (by simp)
 have h0:=hT;have h1:0<c.length:=List.length_pos_iff.2 h0
 repeat' (first|(refine .tI ?_ ?_<;>intro hT)|exact .ret ⟨by simp,fun _=>h1⟩)
 refine .bind .get fun b hb=>?_;refine .bind (mN b) fun v hv=>?_;refine .tI ?_ ?_<;>intro hT
 ·exact .ret (by simp)
 refine .bind (bL b) fun w hw=>?_;refine .tI ?_ ?_<;>intro hT
 ·exact .ret (by simp)
 exact .ret ⟨by simp,fun _=>h1⟩
structure lY (cs:Sl qa):Prop where
 many:cs.l.length<=257
 each: ∀c∈cs.l,c.length<=256
theorem sX{cs:Sl qa}(hc:lY cs)(b:qd)(h:b.cs=cs)(h0:0<=b.qk):
  qG (zU b) (fun r=>r.length<=256/\(r≠[]->b.qk<cs.l.length)):=by
 unfold zU;rw[h];refine .tI ?_ ?_<;>intro hT
 ·exact .ret (by simp)
 refine .bind (qG.get h0 (by omega)) fun x hx=>?_;exact .ret ⟨hc.each x hx.2,fun _=>by omega⟩
theorem Kz{cs:Sl qa}(hc:lY cs)(c:qa)(b:qd)(h:b.cs=cs)(h0:0<=b.qk):
  qG (qH c b) (fun r=>r.2.cs=cs/\(r.1=true->r.2.qk=b.qk+1/\b.qk<cs.l.length)/\(r.1=false->r.2=b)):=by
 have hm:=hc.many;unfold qH;exact tW
def md(rows:List qT):Prop:= ∀r∈rows,r.qO.length<=300/\r.to.length<=300
theorem md.app{a b:List qT}(h1:md a)(h2:md b):md (a++b):=by
 intro r hr;rcases List.mem_append.1 hr with hr|hr
 ·exact h1 r hr
 exact h2 r hr
theorem md.one{f t:qa}(h1:f.length<=300)(h2:t.length<=300):md [qT.mk f t]:=by
 intro r hr;have:r=qT.mk f t:=by simpa using hr
 subst this;exact⟨h1,h2⟩
theorem md.light{rows:List qT}(h:qK (rows.map uv)<=300):md rows:=by
 intro r hr;have:=xA (f:=uv) hr;simp only[uv]at this;exact tW
section
variable {cs:Sl qa} (hc:lY cs)
include hc
theorem Gb(b:qd)(h:b.cs=cs)(h0:0<=b.qk)(h1:b.qk<=cs.l.length):
  qG (wX b) (fun r=>r.2.2.2.cs=cs/\0<=r.2.2.2.qk/\(r.2.2.1=true->b.qk<r.2.2.2.qk/\r.2.2.2.qk<=cs.l.length/\qK (r.1.l.map uv)<=12/\r.2.1.length<=257)):=by
 have hm:=hc.many;unfold wX;refine .bind (sX hc b h h0) fun v hv=>?_;refine .tI ?_ ?_<;>intro hT
 ·exact .ret ⟨h,h0,by simp⟩
 have h2:=hT;have h3:=hv.2 h2.1
 (repeat (first|(rw [qI];rotate_left;omega;omega)|(rw [xp];rotate_left;omega;omega)))
 refine .tI ?_ ?_<;>intro hT
 ·exact .ret ⟨h,by simp only;omega,fun _=>⟨by simp only;omega,by simp only;omega,by simp[qK],by simp only;omega⟩⟩
 refine .bind (sX hc (qd.mk b.cs (b.qk+1)) h (by simp only;omega)) fun w hw=>?_;simp only at hw
 (repeat (first|(rw [qI];rotate_left;omega;omega)|(rw [xp];rotate_left;omega;omega)))
 have esc:qG (wA w>>=fun vK=>
   some ((⟨true,([]:List qT)⟩:Sl qT),vK.1,vK.2,(qd.mk b.cs (b.qk+1+1))))
   (fun r=>r.2.2.2.cs=cs/\0<=r.2.2.2.qk/\(r.2.2.1=true->b.qk<r.2.2.2.qk/\r.2.2.2.qk<=cs.l.length/\qK (r.1.l.map uv)<=12/\r.2.1.length<=257)):=by
  refine .bind (Jr w) fun y hy=>?_;refine .ret ⟨h,by simp only;omega,fun Wb=>?_⟩;simp only at Wb |-;have hy3:=hy.2 Wb;have Tp:=hw.2 (List.ne_nil_of_length_pos hy3);exact⟨by omega,by omega,by simp[qK],by omega⟩
 have:= @Vc;exact tW
theorem Yc(t:qE)(x:qE)(a0:Int): ∀(m:Nat)(b:qd)(rows:List qT),m=(cs.l.length-b.qk).toNat->b.cs=cs->0<=a0->a0<=b.qk->b.qk<=cs.l.length->(qK (rows.map uv):Int)<=600*(b.qk-a0)->md rows->
  qG (zo (b,t,x,rows)) (fun r=>(∀ y,r= .inl y->y.1≠0/\y.2.1.cs=cs)/\
   ∀y,r= .inr y->y.1.cs=cs/\b.qk<y.1.qk/\y.1.qk<=cs.l.length/\(qK (y.2.map uv):Int)<=600*(y.1.qk-a0)/\md y.2):=by
 have hm:=hc.many;intro m;induction m using Nat.strongRecOn with
 |_ m ih=>
 intro b rows E9 h DG h0 h1 hw hro;have hl:=xg sw rows;rw[zo.eq_1];refine .bind (Kz hc _ b h (by omega)) fun v hv=>?_;have next: ∀(b2:qd)(Bc:List qT),b2.cs=cs->b.qk<b2.qk->b2.qk<=cs.l.length->(qK (Bc.map uv):Int)<=600*(b2.qk-a0)->md Bc->
   qG (zo (b2,t,x,Bc)) (fun r=>(∀ y,r= .inl y->y.1≠0/\y.2.1.cs=cs)/\
    ∀y,r= .inr y->y.1.cs=cs/\b.qk<y.1.qk/\y.1.qk<=cs.l.length/\(qK (y.2.map uv):Int)<=600*(y.1.qk-a0)/\md y.2):=by
  intro b2 Bc g1 g2 g3 g4 g5;refine(ih _ (by omega) b2 Bc rfl g1 DG (by omega) g3 g4 g5).mono fun r hr=>⟨hr.1,fun y hy=>?_⟩;have:=hr.2 y hy;exact⟨this.1,by omega,this.2.2.1,this.2.2.2⟩
 refine .tI ?_ ?_<;>intro hT
 ·have Ql:=hT;have e:=hv.2.2 Ql;rw[e];refine .bind (Gb hc b h (by omega) h1) fun w JM=>?_;refine .tI ?_ ?_<;>intro hT
  ·refine .ret ⟨fun y hy=>?_,fun y hy=>by cases hy⟩;cases hy;exact⟨by simp,JM.1⟩
  have sG:=hT;obtain⟨g1,g2,g3⟩:=JM;obtain⟨g3,g4,g5,g6⟩:=g3 sG;have NZ:=xg sw w.1.l;refine .tI ?_ ?_<;>intro hT
  ·refine .tI ?_ ?_<;>intro hT
   ·exact next _ _ g1 g3 g4 (by omega) hro
   refine .zm qB ?_;exact next _ _ g1 g3 g4 (by rw[List.map_append,gu];omega) (hro.app (md.light (by omega)))
  refine .bind (sX hc w.2.2.2 g1 g2) fun y hy=>?_;have one:qG (if qg (rows.length+1) 32=true then zo (w.2.2.2,t,x,(rows++[(qT.mk w.2.1 w.2.1)]))else none)
    (fun r=>(∀ y,r= .inl y->y.1≠0/\y.2.1.cs=cs)/\
     ∀y,r= .inr y->y.1.cs=cs/\b.qk<y.1.qk/\y.1.qk<=cs.l.length/\(qK (y.2.map uv):Int)<=600*(y.1.qk-a0)/\md y.2):=by
   refine .zm qB ?_;exact next _ _ g1 g3 g4 (by rw[jS];simp only[uv];omega) (hro.app (md.one (by omega) (by omega)))
  rw[g1];refine .tI ?_ ?_<;>intro hT
  ·(repeat (first|(rw [qI];rotate_left;omega;omega)|(rw [xp];rotate_left;omega;omega)))
   refine .bind .get fun c Yp=>?_;refine .tI ?_ ?_<;>intro hT
   ·refine .bind (Gb hc (qd.mk cs (w.2.2.2.qk+1)) rfl (by simp only;omega) (by simp only;omega)) fun z hz=>?_;simp only at hz;refine .tI ?_ ?_<;>intro hT
    ·refine .ret ⟨fun y hy=>?_,fun y hy=>by cases hy⟩;cases hy;exact⟨by simp,hz.1⟩
    have hok2:=hT;obtain⟨k1,k2,k3⟩:=hz;obtain⟨k3,k4,k5,k6⟩:=k3 hok2.1;refine .zm qB ?_;exact next _ _ k1 (by omega) k4 (by rw[jS];simp only[uv];omega) (hro.app (md.one (by omega) (by omega)))
   exact one
  exact one
 have Ql:=hT;obtain⟨g1,g2⟩:=hv.2.1 Ql;refine .ret ⟨fun y hy=>(by cases hy),fun y hy=>?_⟩;cases hy;exact⟨hv.1,by simp only;omega,by simp only;omega,by simp only;omega,hro⟩
end
theorem Us(rows s:Sl qT)(i:Int)(x:qT)(hs:s.l.length<=1000000): ∀(m:Nat)(k:Int),m=k.toNat->0<=k->k<=s.l.length->qG (yx (rows,s,i,k,x)) (fun r=>0<=r/\r<=s.l.length):=by
 intro m;induction m using Nat.strongRecOn with
 |_ m ih=>
 intro k hm h0 h1;rw[yx.eq_1];exact tW
theorem Ur(rows:Sl qT)(hw:qK (rows.l.map uv)<=1000000)(he: ∀r∈rows.l,r.qO.length<=BN/\r.to.length<=BN): ∀(r:List qT)(k:Nat)(s:Sl qT),rows.l.drop k=r->qK (s.l.map uv)+qK (r.map uv)<=qK (rows.l.map uv)->
  qG (kC (rows,s,(k:Int))) (fun t=>qK (t.l.map uv)<=qK (rows.l.map uv)):=by
 have hl:=xg sw rows.l;intro r;induction r with
 |nil=>
  intro k s hk hs;rw[kC.eq_1];have:=wU hk;refine .tI ?_ ?_<;>intro hT
  ·omega
  exact .ret (by simp[qK]at hs;exact hs)
 |cons x r ih=>
  intro k s hk hs;obtain⟨h1,h2,h3⟩:=drop_cons hk;have hx:=he x (qX h1);have NZ:=xg sw s.l;simp only[List.map_cons,qK]at hs;rw[kC.eq_1];have e1:IntKind.i64.wrap ((k:Int)+1)=((k+1:Nat):Int):=ct (by omega);rw[e1];refine .tI ?_ ?_<;>intro hT
  ·refine .bind (P:=fun y=>y=x) ⟨x,by rw[j8 h3];simpa[kU h3]using h1,rfl⟩ fun y hy=>?_;subst hy;refine .bind (lD _ hx.1) fun v hv=>?_;refine .tI ?_ ?_<;>intro hT
   ·exact ih (k+1) s h2 (by omega)
   refine .bind (lD _ hx.2) fun w Tp=>?_;refine .tI ?_ ?_<;>intro hT
   ·exact ih (k+1) s h2 (by omega)
   refine .bind (Us rows s k y (by omega) _ _ rfl (by omega) (by omega)) fun z hz=>?_;refine .bind (qG.kx hz.1 hz.2) fun a ha=>?_;refine .zm qB ?_;refine .zm qB ?_;refine .bind (qG.bX hz.1 hz.2) fun b hb=>?_;refine .zm (qB (by simp;omega) (by omega)) ?_;refine ih (k+1) _ h2 ?_;have e2:qK (s.l.map uv)=qK (a.map uv)+qK (b.map uv):=by
    rw[<- gu,<- List.map_append,ha.1,hb.1,List.take_append_drop]
   simp only[List.map_append,gu,List.map_cons,List.map_nil,qK];omega
  omega
theorem Ut(s:Sl qT)(hw:qK (s.l.map uv)<=1000000): ∀(r:List qT)(k:Nat)(out:List qT),s.l.drop k=r->qK (out.map uv)+qK (r.map uv)<=qK (s.l.map uv)->
  qG (kD (s,(k:Int),out)) (fun t=>qK (t.map uv)<=qK (s.l.map uv)):=by
 have hl:=xg sw s.l;intro r;induction r with
 |nil=>
  intro k out hk hs;rw[kD.eq_1];have:=wU hk;refine .tI ?_ ?_<;>intro hT
  ·omega
  exact .ret (by simp[qK]at hs;exact hs)
 |cons x r ih=>
  intro k out hk hs;obtain⟨h1,h2,h3⟩:=drop_cons hk;have NZ:=xg sw out;simp only[List.map_cons,qK]at hs;rw[kD.eq_1];have e1:IntKind.i64.wrap ((k:Int)+1)=((k+1:Nat):Int):=ct (by omega);rw[e1];have hg:qG (qi s.l (k:Int)) (fun y=>y=x):=⟨x,by rw[j8 h3];simpa[kU h3]using h1,rfl⟩;refine .tI ?_ ?_<;>intro hT
  ·refine .tI ?_ ?_<;>intro hT
   ·refine .bind hg fun y hy=>?_;subst hy;have e2:IntKind.i64.wrap ((out.length:Int)-1)=(out.length:Int)-1:=qI (by omega) (by omega);rw[e2];refine .bind .get fun z hz=>?_;refine .tI ?_ ?_<;>intro hT
    ·refine ih (k+1) _ h2 ?_;have:=iZ uv out ((out.length:Int)-1).toNat (qT.mk z.qO (if jP z.to y.to=true then y.to else z.to)) z hz.1;have e3:uv (qT.mk z.qO (if jP z.to y.to=true then y.to else z.to))<=uv z+uv y:=by
      simp only[uv];split<;>omega
     omega
    refine .zm qB ?_;exact ih (k+1) _ h2 (by rw[jS];omega)
   refine .bind hg fun y hy=>?_;subst hy;refine .zm qB ?_;exact ih (k+1) _ h2 (by rw[jS];omega)
  omega
theorem Zq(rows:Sl qT)(hw:qK (rows.l.map uv)<=1000000)(he: ∀r∈rows.l,r.qO.length<=BN/\r.to.length<=BN):qG (s9 rows) (fun t=>qK (t.l.map uv)<=qK (rows.l.map uv)):=by
 unfold s9;have h:=Ur rows hw he rows.l 0 (⟨true,[]⟩:Sl qT) rfl (by simp[qK]);rw[show ((0:Nat):Int)=0 from rfl]at h;refine .bind h fun v hv=>?_;have h2:=Ut v (by omega) v.l 0 [] rfl (by simp[qK]);exact tW
section
variable {cs:Sl qa} (hc:lY cs)
include hc
theorem Sn(b:qd)(h:b.cs=cs)(h0:0<=b.qk)(h1:b.qk<=cs.l.length):
  qG (yz b) (fun r=>r.2.2.cs=cs/\(r.2.1=0->b.qk<r.2.2.qk/\r.2.2.qk<=cs.l.length/\(tn r.1:Int)<=600*(r.2.2.qk-b.qk)+1)):=by
 have hm:=hc.many;unfold yz;refine .bind (Kz hc _ b h h0) fun v hv=>?_;have hb:b.qk<=v.2.qk/\v.2.qk<=cs.l.length:=by
  cases Ql:v.1
  ·rw[hv.2.2 Ql];omega
  have:=hv.2.1 Ql;omega
 refine .bind (Yc hc _ _ b.qk _ v.2 [] rfl hv.1 h0 hb.1 hb.2 (by simp[qK];omega) (by intro r hr;cases hr)) fun w hw=>?_;rcases w with y|y
 ·exact tW
 obtain⟨g1,g2,g3,g4,g5⟩:=hw.2 y rfl;refine .bind (Zq (⟨y.2.isEmpty,y.2⟩:Sl qT) (by simp only;omega) (fun r hr=>by have:=g5 r hr;unfold BN;omega)) fun z hz=>?_;refine .ret ⟨g1,fun _=>⟨by simp only;omega,g3, ?_⟩⟩;simp only[vS,List.length_nil,List.map_nil,qK]at hz |-;omega
theorem Nr(b:qd)(h:b.cs=cs)(h0:0<=b.qk)(h1:b.qk<=cs.l.length):
  qG (ug b) (fun r=>r.2.2.cs=cs/\(r.2.1=0->b.qk<r.2.2.qk/\r.2.2.qk<=cs.l.length/\tn r.1<=300)):=by
 have hm:=hc.many;unfold ug;refine .bind (sX hc b h h0) fun v hv=>?_;refine .bind (AJ v (by unfold BN;omega)) fun w hw=>?_
 (repeat (first|(rw [qI];rotate_left;omega;omega)|(rw [xp];rotate_left;omega;omega)))
 have esc:qG (wA v>>=fun nT=>
   if(!nT.2)then
    some ((qE.mk (0:Int) ([]:qa) false (⟨true,([]:List qT)⟩:(Sl qT)) (0:Int) (0:Int) false (⟨true,([]:List qE)⟩:(Sl qE))),(10:Int),b)
   else
    some ((qE.mk (2:Int) nT.1 false (⟨true,([]:List qT)⟩:(Sl qT)) (0:Int) (0:Int) false (⟨true,([]:List qE)⟩:(Sl qE))),(0:Int),(qd.mk b.cs (b.qk+1))))
   (fun r=>r.2.2.cs=cs/\(r.2.1=0->b.qk<r.2.2.qk/\r.2.2.qk<=cs.l.length/\tn r.1<=300)):=by
  refine .bind (Jr v) fun y hy=>?_;refine .tI ?_ ?_<;>intro hT
  ·exact .ret ⟨h,by simp⟩
  have hy1:=hT;have Wb:=hy.2 hy1;have DO:=hv.2 (List.ne_nil_of_length_pos Wb);refine .ret ⟨h,fun _=>⟨by simp only;omega,by simp only;omega, ?_⟩⟩;simp only[vS,List.map_nil,qK];omega
 refine .tI ?_ ?_<;>intro hT
 ·refine .bind .get fun c Yp=>?_;refine .bind (Vc c) fun y hy=>?_;refine .tI ?_ ?_<;>intro hT
  ·have DO:=hv.2 (List.ne_nil_of_length_pos (by omega));refine .ret ⟨h,fun _=>⟨by simp only;omega,by simp only;omega, ?_⟩⟩;simp only[vS,List.length_nil,List.map_nil,qK];omega
  exact esc
 exact esc
theorem Xq: ∀(m:Nat)(n k:Int)(b:qd),m=(3-k).toNat->0<=k->b.cs=cs->0<=b.qk->b.qk<=cs.l.length->0<=n->(k=0/\n<1\/k=1/\n<10\/k=2/\n<100\/k=3/\n<1000)->
  qG (jD (n,k,b)) (fun r=>0<=r.1/\r.1<1000/\k<=r.2.1/\r.2.2.cs=cs/\b.qk<=r.2.2.qk/\r.2.2.qk<=cs.l.length):=by
 have hm:=hc.many;intro m;induction m using Nat.strongRecOn with
 |_ m ih=>
 intro n k b E9 hk h h0 h1 hn hkn;rw[jD.eq_1];refine .tI ?_ ?_<;>intro hT
 ·refine .bind (sX hc b h h0) fun v hv=>?_;refine .tI ?_ ?_<;>intro hT
  ·have DO:=hv.2 (List.ne_nil_of_length_pos (by omega));refine .bind .get fun c Yp=>?_;refine .bind (bL c) fun w hw=>?_;refine .tI ?_ ?_<;>intro hT
   ·have JM:=hT;have Tp:=hw JM
    (try simp(disch:=omega) only[qI,xp])
    exact(ih _ (by omega) _ (k+1) (qd.mk b.cs (b.qk+1)) rfl (by omega) h (by simp only;omega) (by simp only;omega) (by omega) (by omega)).mono fun r hr=>by
     simp only at hr;exact⟨hr.1,hr.2.1,by omega,hr.2.2.2.1,by omega,hr.2.2.2.2.2⟩
   exact .ret ⟨hn,by simp only;omega,by simp,h,by simp,h1⟩
  exact .ret ⟨hn,by simp only;omega,by simp,h,by simp,h1⟩
 exact .ret ⟨hn,by simp only;omega,by simp,h,by simp,h1⟩
theorem Qu(b:qd)(h:b.cs=cs)(h0:0<=b.qk)(h1:b.qk<=cs.l.length):
  qG (kO b) (fun r=>0<=r.1/\r.1<1000/\r.2.2.cs=cs/\b.qk<=r.2.2.qk/\r.2.2.qk<=cs.l.length):=by
 unfold kO;have:= @Xq;exact tW
end
theorem rep_W(x:qE)(a b:Int)(l:Bool):tn (qE.mk (7:Int) ([]:qa) false (⟨true,[]⟩:(Sl qT)) a b l (⟨false,[x]⟩:(Sl qE)))=1+tn x:=by
 rw[vS];simp[qK]
theorem Ge(kind:Int)(xs:Sl qE)(hw:qK (xs.l.map tn)<=1000000): ∀(r:List qE)(k:Nat)(l:List qE),xs.l.drop k=r->qK (l.map tn)+qK (r.map tn)<=qK (xs.l.map tn)->
  qG (wz (kind,xs,(k:Int),l)) (fun t=>qK (t.map tn)<=qK (xs.l.map tn)):=by
 have hl:=xg eF xs.l;intro r;induction r with
 |nil=>
  intro k l hk hs;rw[wz.eq_1];have:=wU hk;exact tW
 |cons x r ih=>
  intro k l hk hs;obtain⟨h1,h2,h3⟩:=drop_cons hk;have NZ:=xg eF l;have hl3:=xg eF x.qy.l;have hx:=vS x;simp only[List.map_cons,qK]at hs;rw[wz.eq_1];have:= @gu;have:= @jS;exact tW
theorem Gg(kind:Int)(xs:Sl qE)(hw:qK (xs.l.map tn)<=1000000):qG (rb kind xs) (fun t=>qK (t.l.map tn)<=qK (xs.l.map tn)):=by
 unfold rb;have h:=Ge kind xs hw xs.l 0 [] rfl (by simp[qK]);exact tW
theorem seq_tot(xs:Sl qE)(hw:qK (xs.l.map tn)<=1000000):qG (an xs) (fun t=>tn t<=1+qK (xs.l.map tn)):=by
 unfold an;refine .bind (Gg 0 xs hw) fun v hv=>?_;refine .tI ?_ ?_<;>intro hT
 ·have:= @xA;exact tW
 refine .ret ?_;simp only[vS,List.length_nil,List.map_nil,qK];omega
theorem alt_tot(xs:Sl qE)(hw:qK (xs.l.map tn)<=1000000):qG (aj xs) (fun t=>tn t<=1+qK (xs.l.map tn)):=by
 unfold aj;refine .bind (Gg 1 xs hw) fun v hv=>?_;refine .tI ?_ ?_<;>intro hT
 ·refine .ret ?_;simp only[vS,List.length_nil,List.map_nil,qK];omega
 refine .tI ?_ ?_<;>intro hT
 ·have:= @xA;exact tW
 refine .ret ?_;simp only[vS,List.length_nil,List.map_nil,qK];omega
section
variable {cs:Sl qa} (hc:lY cs)
include hc
theorem jG(c:qa)(b:qd)(h:b.cs=cs)(h0:0<=b.qk)(h1:b.qk<=cs.l.length):
  qG (qH c b) (fun r=>r.2.cs=cs/\b.qk<=r.2.qk/\r.2.qk<=cs.l.length/\(r.1=true->r.2.qk=b.qk+1)/\(r.1=false->r.2.qk=b.qk)):=by
 refine(Kz hc c b h h0).mono fun r hr=>?_;cases h2:r.1
 ·exact tW
 exact tW
def FU(cs:Sl qa)(x:qE)(a:Int)(r:qE×Int×qd):Prop:=
 r.2.2.cs=cs/\(r.2.1=0->a<=r.2.2.qk/\r.2.2.qk<=cs.l.length/\(tn r.1:Int)<=tn x+(r.2.2.qk-a))
theorem Ds(x:qE)(b:qd)(h:b.cs=cs)(h0:0<=b.qk)(h1:b.qk<=cs.l.length):
  qG (kc x b) (FU cs x b.qk):=by
 have last: ∀(w:qd)(p q:Int),w.cs=cs->b.qk<w.qk->w.qk<=cs.l.length->qG (qH ([63]:qa) w>>=fun v5=>
   some ((qE.mk (7:Int) ([]:qa) false (⟨true,[]⟩:(Sl qT)) p q v5.1 (⟨false,[x]⟩:(Sl qE))),(0:Int),v5.2)) (FU cs x b.qk):=by
  intro w p q g1 g2 g3;refine .bind (jG hc _ w g1 (by omega) g3) fun z hz=>?_;refine .ret ⟨hz.1,fun _=>⟨by simp only;omega,by simp only;omega, ?_⟩⟩;simp only[rep_W];omega
 unfold kc;refine .bind (jG hc _ b h h0 h1) fun v hv=>?_;refine .tI ?_ ?_<;>intro hT
 ·exact last _ _ _ hv.1 (by have g:=hT;have:=hv.2.2.2.1 g;omega) (by omega)
 have g1:=hT;have Ql:=hv.2.2.2.2 g1;refine .bind (jG hc _ v.2 hv.1 (by omega) (by omega)) fun w hw=>?_;refine .tI ?_ ?_<;>intro hT
 ·exact last _ _ _ hw.1 (by have g:=hT;have:=hw.2.2.2.1 g;omega) (by omega)
 have g2:=hT;have JM:=hw.2.2.2.2 g2;refine .bind (jG hc _ w.2 hw.1 (by omega) (by omega)) fun y hy=>?_;refine .tI ?_ ?_<;>intro hT
 ·exact last _ _ _ hy.1 (by have g:=hT;have:=hy.2.2.2.1 g;omega) (by omega)
 have g3:=hT;have hy1:=hy.2.2.2.2 g3;refine .bind (jG hc _ y.2 hy.1 (by omega) (by omega)) fun z hz=>?_;refine .tI ?_ ?_<;>intro hT
 ·have g4:=hT;have hz1:=hz.2.2.2.1 g4;refine .bind (Qu hc z.2 hz.1 (by omega) (by omega)) fun n hn=>?_;refine .tI ?_ ?_<;>intro hT
  ·exact .ret ⟨hn.2.2.1,by simp⟩
  refine .bind (jG hc _ n.2.2 hn.2.2.1 (by omega) (by omega)) fun k hk=>?_;refine .tI ?_ ?_<;>intro hT
  ·refine .bind (sX hc k.2 hk.1 (by omega)) fun s hs=>?_;refine .tI ?_ ?_<;>intro hT
   ·refine .bind (Qu hc k.2 hk.1 (by omega) (by omega)) fun q hq=>?_;refine .tI ?_ ?_<;>intro hT
    ·exact .ret ⟨hq.2.2.1,by simp⟩
    refine .bind (jG hc _ q.2.2 hq.2.2.1 (by omega) (by omega)) fun p hp=>?_;refine .tI ?_ ?_<;>intro hT
    ·exact .ret ⟨hp.1,by simp⟩
    exact last _ _ _ hp.1 (by omega) (by omega)
   refine .bind (jG hc _ k.2 hk.1 (by omega) (by omega)) fun p hp=>?_;refine .tI ?_ ?_<;>intro hT
   ·exact .ret ⟨hp.1,by simp⟩
   exact last _ _ _ hp.1 (by omega) (by omega)
  refine .bind (jG hc _ k.2 hk.1 (by omega) (by omega)) fun p hp=>?_;refine .tI ?_ ?_<;>intro hT
  ·exact .ret ⟨hp.1,by simp⟩
  exact last _ _ _ hp.1 (by omega) (by omega)
 have g4:=hT;have hz1:=hz.2.2.2.2 g4;exact .ret ⟨hz.1,fun _=>⟨by simp only;omega,by simp only;omega,by simp only;omega⟩⟩
end
end Go.Proofs.YtmllebdamdnhoaaGreat
