/-
  An edit is laid: the document's lay.
-/
import Derived.Test.YtnojdepmnnebnaaGreatQak
open Go.IntKind renaming i64->q?
open Int renaming toNat_natCast->d?,le_refl->h!,toNat_zero->q1x
open List renaming length_cons->h?,replicate->b?,mem_append->m?,length_append->t?,getElem?_append_left->r?,map_cons->s?,getElem?_cons_zero->c?,mem_singleton->a?,length_nil->e?,getElem?_append_right->J?,mem_cons->U?,mem_map->N?,nil_append->F?,length_pos_iff->q!,pairwise_append->o!,getElem?_replicate->Q!,pairwise_cons->J!,eq_nil_of_length_eq_zero->N_
open Nat renaming strongRecOn->p?,add_zero->M?,lt_trichotomy->E!
set_option linter.unusedSimpArgs false
set_option linter.unusedVariables false
namespace Go.Proofs.YtnojdepmnnebnaaGreat
open Go Go.Gm
namespace Xr
abbrev NI(e:ql)(sd:List Int):=vN e.span.qB e.span.to e.text.length (pC sd)
def core(x:qq):Int×Bool×Bool×zn×Sl qa:=(x.n,x.first,x.qL,x.qR,x.opts)
theorem mJ(i:qj)(is:List qj)(a:Nat):qm (i::is) (a+1)=1+i.stops.l.length+qm is a:=by simp[qm]
theorem row_at: ∀(is:List qj)(b a:Nat)(i:qj),is[a]? =some i-> ∀r,r<1+i.stops.l.length->(yy b is)[qm is a+r]? =(aF (b+qm is a) i)[r]? :=by intro is;induction is with|nil=>intro b a i h;simp at h|cons i0 is ih=>intro b a i h r hr;have hL:=an b i0;cases a with|zero=>(simp only[c?,ki]at h;subst h;have:qm (i0::is) 0=0:=by simp[qm]);rw[this,yy,Nat.zero_add,r? o?,M?]|succ a=>simp only[List.getElem?_cons_succ]at h;rw[mJ,yy,J? o?,hL,show 1+i0.stops.l.length+qm is a+r-(1+i0.stops.l.length)=qm is a+r by omega,ih (b+1+i0.stops.l.length) a i h r hr];rw[show b+1+i0.stops.l.length+qm is a=b+(1+i0.stops.l.length+qm is a) by omega]
section
variable (e:ql) (n:Int) (he:kM e n) (mark:Bool) (sd:List Int) (s:qb) (aB:qb) (cur:Int)
include he in
theorem shift_L0(hs:xH s)(hm:mm s.insts.l n)(hsd:sd.length<=2^30)
  (Ly: ∀(b0:Nat)(i:qj),i∈s.insts.l->(∀ r x,(aF b0 i)[r]? =some x->(yy 0 s.insts.l)[b0+r]? =some x)-> ∀(k:Nat)(x:qq),i.stops.l[k]? =some x-> -1<=x.up/\ ∀p:Nat,x.up=p->p<k/\(pC sd (b0+1+k)≠1->pC sd (b0+1+p)≠1))
  (fl:Sl (Sl Int)) (QE:sA s.insts.l fl):
  ∀(r:List qj)(a b0:Nat)(flags:Sl (Sl Int))(out:List qj),s.insts.l.drop a=r->(∀ q x,(yy b0 r)[q]? =some x->(yy 0 s.insts.l)[b0+q]? =some x)->b0+(yy b0 r).length=sd.length->sA out flags->out.length<=a->
  ∃H9,vB (mark,⟨false,sd⟩,(b0:Int),(a:Int),fl,s,e,aB,cur,flags,out)=some (fl,H9,out++NI e sd b0 r)/\sA (out++NI e sd b0 r) H9:=by
 intro r;have nK:=hs.1;induction r with
  |nil=>intro a b0 flags out h _ _ hF _;have:=ze h;rw[vB.eq_1,if_neg v?];exact⟨flags,by simp[vN],by simpa[vN]using hF⟩
  |cons i r ih=>
   (intro a b0 flags out h eB hlen hF ho;obtain⟨h1,h2,h3⟩:=zr h;have sG:=z6 h1;have hi:=hs.2 i sG;have hmi:=hm.may a i h1;have hrg:=hmi.Qr;have hL:=an b0 i;have jz:s.insts.l≠[]:=fun c=>by rw[c]at h3;simp at h3);(have hr1: ∀q x,(aF b0 i)[q]? =some x->(yy 0 s.insts.l)[b0+q]? =some x:=by intro q x hx;have hq:=(qF hx).1;exact eB q x (by rw[yy,r? o?];exact hx));(have hr2: ∀q x,(yy (b0+1+i.stops.l.length) r)[q]? =some x->(yy 0 s.insts.l)[b0+1+i.stops.l.length+q]? =some x:=by intro q x hx;have:=eB (1+i.stops.l.length+q) x (by rw[yy,J? o?,hL,show 1+i.stops.l.length+q-(1+i.stops.l.length)=q by omega];exact hx);rwa[show b0+(1+i.stops.l.length+q)=b0+1+i.stops.l.length+q by omega]at this);(have Lo:b0+1+i.stops.l.length+(yy (b0+1+i.stops.l.length) r).length=sd.length:=by rw[yy,t?,hL]at hlen;omega);(obtain⟨sv,hsv⟩:=gl (l:=sd) (k:=b0) o?;have LC:pC sd b0=sv:=by simp[pC,hsv]);obtain⟨f0,hf0⟩:=gl (l:=fl.l) (k:=a) (by rw[QE.len];omega);obtain⟨k1,k2,k3⟩:=QE.each a i f0 h1 hf0;rw[vB.eq_1,if_pos v?,gi h1];simp only[zF,qS];rw[gi hsv];simp only[qS];rw[NO e n he i.span hrg.1 hrg.2.1 hrg.2.2 sv];simp only[qS];rw[if_pos z?,if_pos (qA v? o?),ws (k:=b0) o?,ws (k:=a) o?];have dK: ∀x∈i.stops.l,0<=x.span.qB/\x.span.qB<=x.span.to/\x.span.to<=n:=by intro x hx;obtain⟨k,hk⟩:=kb hx;have:=hmi.inside k x hk;have:=hmi.le k x hk;omega
   obtain⟨A7,f',g1,g2,g3⟩:=shift_L2 e n he mark sd s aB cur flags out (Xa e.span.qB e.span.to e.text.length sv i.span).qB (Xa e.span.qB e.span.to e.text.length sv i.span).to a b0 (sv != 1) i h1 o? hsd hi dK (Ly b0 i sG hr1) f0 k1 k2 k3
    i.stops.l 0 fl (b? i.stops.l.length 0) [] [] rfl o? hf0 (QE.nn jz) z? (fun j hj=>o?) (by simp[aA]) z? z? z?
   simp only[d?];rw[show ((b0+1+0:Nat):Int)=((b0+1:Nat):Int)from rfl,show((0:Nat):Int)=0 from rfl]at g1;rw[g1];simp only[qS];by_cases c1:sv=1;(rw[if_neg (by simpa using c1)];have e1:NI e sd b0 (i::r)=NI e sd (b0+1+i.stops.l.length) r:=by show vN _ _ _ _ _ (i::r)=_;rw[vN,if_pos (by rw[LC];exact c1)]);rw[e1];exact ih (a+1) (b0+1+i.stops.l.length) flags out h2 hr2 Lo hF o?;(rw[if_pos (by simpa using c1),if_pos qA,if_pos (qA (by have:=hF.len;omega) o?)];have e1:NI e sd b0 (i::r)=l9 e.span.qB e.span.to e.text.length (pC sd) b0 i::NI e sd (b0+1+i.stops.l.length) r:=by show vN _ _ _ _ _ (i::r)=_;rw[vN,if_neg (by rw[LC];exact c1)]);have e2:qj.mk (Xa e.span.qB e.span.to e.text.length sv i.span) (⟨([]++NS e sd (b0+1) 0 i.stops.l).isEmpty,[]++NS e sd (b0+1) 0 i.stops.l⟩:Sl qq)=l9 e.span.qB e.span.to e.text.length (pC sd) b0 i:=by unfold l9;rw[LC,F?]
   rw[e2,e1];obtain⟨H9,q1,q2⟩:=ih (a+1) (b0+1+i.stops.l.length) ⟨false,flags.l++[⟨f'.isEmpty,f'⟩]⟩ (out++[l9 e.span.qB e.span.to e.text.length (pC sd) b0 i]) h2 hr2 Lo (by
    refine⟨by simp[hF.len],fun _=>rfl, ?_⟩
    intro a' i' f'' yw Fx
    by_cases c:a' <out.length
    ·rw[r? c]at yw
     rw[r? (by rw[hF.len];exact c)]at Fx
     exact hF.each a' i' f'' yw Fx
    rw[J? o?]at yw
    rw[J? (by have:=hF.len;simp only at *; omega)]at Fx
    have hz:a' -out.length=0:=by
     have:=(qF yw).1
     simp at this
     omega
    rw[hz]at yw
    rw[hF.len,hz]at Fx
    simp only[c?,ki]at yw Fx
    subst yw Fx
    have P7:f'.length=(NS e sd (b0+1) 0 i.stops.l).length:=by simpa using g2
    refine⟨P7,fun c=>?_,g3⟩
    have:(NS e sd (b0+1) 0 i.stops.l)≠[]:=c
    cases Hm:f' with
    |nil=>
     rw[Hm]at P7
     exact absurd (List.length_eq_zero_iff.1 P7.symm) this
    |cons _ _=>rfl) v?
   refine⟨H9,by rw[q1];simp,by simpa using q2⟩
theorem YX(a b c:Int)(sF:Nat->Int): ∀(is:List qj)(b0:Nat),(∀ k i,is[k]? =some i->sF (b0+qm is k)≠1)->(vN a b c sF b0 is).length=is.length:=by
 intro is;induction is with
 |nil=>intro b0 _;rfl
 |cons i is ih=>
  intro b0 h;have h0:=h 0 i rfl;rw[show qm (i::is) 0=0 by simp[qm],M?]at h0;rw[vN,if_neg h0,h?,h?,ih (b0+1+i.stops.l.length) (fun k j hj=>by
   have:=h (k+1) j (by simpa using hj)
   rw[mJ]at this
   rwa[show b0+1+i.stops.l.length+qm is k=b0+(1+i.stops.l.length+qm is k) by omega])]
theorem WE(a b c:Int)(sF:Nat->Int){l:List QA}(is:List qj)(b0:Nat)(hl: ∀(r:Nat)(x:QA),(yy b0 is)[r]? =some x->l[b0+r]? =some x): ∀y∈vN a b c sF b0 is,∃ i∈is,y.stops.l.length<=i.stops.l.length/\ ∀z∈y.stops.l,∃ x∈i.stops.l,core z=core x:=by intro y hy;obtain⟨j,hj⟩:=kb hy;obtain⟨k,i,b1,h1,_,_,rfl,_⟩:=J1 is b0 hl j y hj;refine⟨i,z6 h1,A2 _ _ _,fun z hz=>?_⟩;obtain⟨x,hx,k,rfl⟩:=A3 _ _ _ z hz;exact⟨x,hx,rfl⟩
theorem q0C(a b c:Int)(sF:Nat->Int): ∀(is:List qj)(b0:Nat),(vN a b c sF b0 is).length<=is.length:=by intro is;induction is with|nil=>intro b0;simp[vN]|cons i is ih=>intro b0;have:=ih (b0+1+i.stops.l.length);rw[vN];split<;>simp<;>omega
structure UK (e:ql) (n:Int) (s:qb) (a:Int) (s' :qb) (flags:Sl (Sl Int)):Prop where
 cur:s'.cur=s.cur
 may:mm s'.insts.l (n+(e.text.length-(e.span.to-e.span.qB)))
 fl:sA s'.insts.l flags
 len:s'.insts.l.length<=s.insts.l.length
 core: ∀y∈s'.insts.l,∃ i∈s.insts.l,y.stops.l.length<=i.stops.l.length/\ ∀z∈y.stops.l,∃ x∈i.stops.l,core z=core x
 all:a≠ -1->s'.insts.l.length=s.insts.l.length
structure Sv (e:ql) (n:Int) (s:qb) (deep:Bool) (a k:Int) (L:List TS) (h:List Bool) (sd:List Int) (last o:Int):Prop where
 rows:L.map strOf=yy 0 s.insts.l
 row:O1 L n
 hl:h.length=L.length
 sl:sd.length=L.length
 small:L.length<=2^25
 hold:Vx (L.map strOf).length (FL L) (TL L) (UL L) (fun y=>h[y]? =some true) e.span.qB e.span.to
 side:DD (L.map strOf).length (FL L) (TL L) (UL L) (fun y=>h[y]? =some true) e.span.qB e.span.to last (pC sd)
 own:(a= -1/\k= -1/\o= -1/\ ∀y:Nat,h[y]? ≠some true)\/ ∃(a' k' :Nat)(i:qj)(x:qq),a=a' /\k=k' /\o=((qm s.insts.l a' +1+k' :Nat):Int)/\s.insts.l[a']? =some i/\i.stops.l[k']? =some x/\zY e.span x.span
 has: ∀o' :Nat,o=o' ->h[o']? =some true
 ex:deep=true-> ∀o' :Nat,o=o' ->HE L.length (FL L) (TL L) (UL L) e.span.qB e.span.to o' (fun y=>h[y]? =some true)
theorem QC{L:List TS}(SN:L.map strOf=yy 0 s.insts.l): ∀(a' k' :Nat)(i:qj)(x:qq),s.insts.l[a']? =some i->i.stops.l[k']? =some x->qm s.insts.l a' +1+k' <L.length/\FL L (qm s.insts.l a' +1+k')=x.span.qB/\TL L (qm s.insts.l a' +1+k')=x.span.to/\UL L (qm s.insts.l a' +1+k')=qm s.insts.l a' +1+x.up:=by intro a' k' i x h1 h2;have pf:=(qF h2).1;have h3:=row_at s.insts.l 0 a' i h1 (k' +1) o?;rw[show (aF (0+qm s.insts.l a') i)[k' +1]? =some (x.span.qB,x.span.to,((0+qm s.insts.l a' :Nat):Int)+1+x.up) by simp[aF,h2],<- SN]at h3;rw[show qm s.insts.l a' +1+k' =qm s.insts.l a' +(k' +1) by omega];have h4:=eE h3;exact⟨by have:=(qF h3).1;simpa using this,h4.1,h4.2.1,by show DE _ _=_;rw[h4.2.2];simp⟩
theorem PU{L:List TS}(SN:L.map strOf=yy 0 s.insts.l): ∀(j:Nat)(y:qj),s.insts.l[j]? =some y->qm s.insts.l j<L.length/\FL L (qm s.insts.l j)=y.span.qB/\TL L (qm s.insts.l j)=y.span.to/\UL L (qm s.insts.l j)= -1:=by intro j y hy;have h3:=row_at s.insts.l 0 j y hy 0 o?;rw[show (aF (0+qm s.insts.l j) y)[0]? =some (y.span.qB,y.span.to,-1) by simp[aF],<- SN,M?]at h3;have h4:=eE h3;exact⟨by have:=(qF h3).1;simpa using this,h4.1,h4.2.1,h4.2.2⟩
include he in
theorem MB(hs:xH s)(hm:mm s.insts.l n)(deep:Bool)(qp:qn)(Tp:zY e.span qp)(a k:Int)(ho:(a= -1/\k= -1)\/JM s qp a k\/ ∃(a' k' :Nat)(i:qj)(x:qq),a=a' /\k=k' /\s.insts.l[a']? =some i/\i.stops.l[k']? =some x/\zY e.span x.span)(fl:Sl (Sl Int))(QE:sA s.insts.l fl):
  ∃L h sd last o flags,wq s a k e deep mark fl=some (⟨s.cur,⟨(NI e sd 0 s.insts.l).isEmpty,NI e sd 0 s.insts.l⟩⟩,fl,flags)/\Sv e n s deep a k L h sd last o/\sA (NI e sd 0 s.insts.l) flags:=by
 have eL:=he.ab;have hms: ∀i∈s.insts.l,∀ x∈i.stops.l,-1<=x.up/\x.up<=2^20:=by intro i hi x hx;obtain⟨a,ha⟩:=kb hi;obtain⟨k,hk⟩:=kb hx;have h1:=(hm.may a i ha).up k x hk;have h2:=(qF hk).1;have h3:=hs.2 i hi;omega
 obtain⟨L,hL1,SN⟩:=row_ok s hs hms;have hB:=rowS_ok n s.insts.l 0 0 hm (fun a i hi=>(hm.may a i hi).Qr.1);have hR:O1 L n:=by have:=hB.row;rw[<- SN]at this;exact this
 have h4:=X6 hs.2;have h5:s.insts.l.length*2^12<=2^12*2^12:=Nat.mul_le_mul hs.1 (jx _);have nK:=hs.1;have rl: ∀(is:List qj)(b:Nat),(yy b is).length=is.length+many is:=by intro is;induction is with|nil=>intro b;simp[yy,many]|cons i is ih=>intro b;have:=an b i;have:=ih (b+1+i.stops.l.length);simp only[yy,many,List.length_append,List.map_cons,List.sum_cons,List.length_cons]at*;omega
 have hLn:L.length=s.insts.l.length+many s.insts.l:=by rw[<- rl s.insts.l 0,<- SN];simp
 have Ni: ∃o:Int,mW s a k=some o/\((a= -1/\k= -1/\o= -1)\/ ∃(a' k' :Nat)(i:qj)(x:qq),a=a' /\k=k' /\o=((qm s.insts.l a' +1+k' :Nat):Int)/\s.insts.l[a']? =some i/\i.stops.l[k']? =some x/\zY e.span x.span):=by
  rcases ho with ⟨rfl,rfl⟩|ho|⟨a',k',i,x,rfl,rfl,h1,h2,h3⟩;obtain⟨o,g1,g2⟩:=M1 s hs qp (-1) (-1) (.inl ⟨rfl,rfl⟩);refine⟨o,g1, ?_⟩;rcases g2 with g2|⟨a',k',g2,_⟩;exact .inl ⟨g2.1,rfl,g2.2⟩;omega;obtain⟨o,g1,g2⟩:=M1 s hs qp a k (.inr ho);refine⟨o,g1, ?_⟩;obtain⟨a',k',i,x,rfl,rfl,h1,h2,_,_,h3⟩:=ho;rcases g2 with ⟨g2,_⟩|⟨a'',k'',g2,g3,g4⟩;omega;obtain rfl:a' =a'' :=o?;obtain rfl:k' =k'' :=o?;refine .inr ⟨a',k',i,x,rfl,rfl,g4,h1,h2, ?_⟩;unfold zY at*;omega;have h7:JM ⟨x.n,s.insts⟩ x.span a' k' \/x.qL=true:=by cases ht:x.qL with|true=>exact .inr rfl|false=>exact .inl ⟨a',k',i,x,rfl,rfl,h1,h2,rfl,ht,by unfold zY;omega⟩
  have Vp:=(qF h1).1;have pf:=(qF h2).1;have EK:=hs.2 i (z6 h1);refine⟨((qm s.insts.l a' +1+k' :Nat):Int), ?_,.inr ⟨a',k',i,x,rfl,rfl,rfl,h1,h2,h3⟩⟩;unfold mW;rw[if_neg v?,gi h1];simp only[zF,qS];rw[if_neg v?,ws o?,show(0:Int)=((0:Nat):Int)from rfl,M0 s hs a' o? a' 0 (k' +1) o? (by
   have:a' *(2^12+1)<=2^12*(2^12+1):=Nat.mul_le_mul o? (jx _)
   omega)]
  (have:qm s.insts.l 0=0:=by simp[qm]);rw[this,show k' +1+(qm s.insts.l a' -0)=qm s.insts.l a' +1+k' by omega];rfl
 obtain⟨o,ho1,ho2⟩:=Ni;have at_o:=QC s SN;obtain⟨h,hh1,hh2,hh3,hh4,hh5,hh6⟩:=hold_ok L e hR o? he L.isEmpty deep o (by
  rcases ho2 with ⟨_,_,rfl⟩|⟨a',k',i,x,_,_,rfl,h1,h2,h3⟩
  ·exact .inl rfl
  obtain⟨q1,q2,q3,_⟩:=at_o a' k' i x h1 h2
  refine .inr ⟨_,rfl,q1, ?_⟩
  unfold zY at h3
  omega)
 obtain⟨sd,last,hd1,P1,hd3⟩:=sides_ok L e hR L.isEmpty h hh2 o?;have Ly: ∀(b0:Nat)(i:qj),i∈s.insts.l->(∀ r x,(aF b0 i)[r]? =some x->(yy 0 s.insts.l)[b0+r]? =some x)-> ∀(k:Nat)(x:qq),i.stops.l[k]? =some x-> -1<=x.up/\ ∀p:Nat,x.up=p->p<k/\(pC sd (b0+1+k)≠1->pC sd (b0+1+p)≠1):=by intro b0 i hi eB k x hx;obtain⟨a',ha'⟩:=kb hi;have hu:=(hm.may a' i ha').up k x hx;refine⟨hu.1,fun p hp=>⟨o?,fun jz=>?_⟩⟩;have h3:=eB (k+1) (x.span.qB,x.span.to,b0+1+x.up) (by simp[aF,hx]);rw[<- SN,show b0+(k+1)=b0+1+k by omega]at h3;have h4:=eE h3;have h5:=(qF h3).1;exact cx hR hh3 hd3 h5 jz (p:=b0+1+p) (by show DE _ _=_;rw[h4.2.2];simp only;omega)
 have hz:sA [] ⟨true,[]⟩:=⟨rfl,fun c=>absurd rfl c,fun a i f hi=>by simp at hi⟩;obtain⟨flags,hs5,hs6⟩:=shift_L0 e n he mark sd s (qb.mk 0 ⟨true,[]⟩) s.cur hs hm o? Ly fl QE s.insts.l 0 0 ⟨true,[]⟩ [] rfl (fun q x hx=>by rw[Nat.zero_add];exact hx) (by rw[rl];omega) hz z?;refine⟨L,h,sd,last,o,flags, ?_,⟨SN,hR,hh2,P1,o?,hh3,hd3, ?_,hh4,hh6⟩,by simpa using hs6⟩;unfold wq;simp only[hL1,ho1,hh1,hd1,zF,qS];rw[show ((0:Nat):Int)=0 from rfl]at hs5;rw[hs5];simp;exact ho2.imp (fun h=>⟨h.1,h.2.1,h.2.2,hh5 h.2.2⟩) id
include he in
theorem shift_ok(hs:xH s)(hm:mm s.insts.l n)(deep:Bool)(qp:qn)(Tp:zY e.span qp)(a k:Int)(ho:(a= -1/\k= -1)\/JM s qp a k\/ ∃(a' k' :Nat)(i:qj)(x:qq),a=a' /\k=k' /\s.insts.l[a']? =some i/\i.stops.l[k']? =some x/\zY e.span x.span)(fl:Sl (Sl Int))(QE:sA s.insts.l fl):
  ∃s' flags,wq s a k e deep mark fl=some (s',fl,flags)/\UK e n s a s' flags:=by
 have eL:=he.ab;obtain⟨L,h,sd,last,o,flags,h1,X,hs6⟩:=MB e n he mark s hs hm deep qp Tp a k ho fl QE;refine⟨_,flags,h1, ?_⟩;have SN:=X.rows;have hR:=X.row;have hh3:=X.hold;have hd3:=X.side;refine⟨rfl, ?_,hs6,q0C _ _ _ _ _ _, ?_, ?_⟩;have:=YY (c:=(e.text.length:Int)) hR hh3 hd3 he.a0 eL he.bn (Int.natCast_nonneg _) SN hm;exact this;exact WE _ _ _ _ s.insts.l 0 (l:=yy 0 s.insts.l) (fun r x hx=>by rw[Nat.zero_add];exact hx);intro hna;refine YX _ _ _ _ s.insts.l 0 fun j y hy=>?_;rw[Nat.zero_add];intro Lh;rcases X.own with ⟨h7,_⟩|⟨a',k',i,x,h6,_,h7,h8,h9,h10⟩;exact hna h7;have FK:=(hm.may a' i h8).inside k' x h9;have hxl:=(hm.may a' i h8).le k' x h9;obtain⟨r1',r2,r3,r4⟩:=PU s SN j y hy;have r1:qm s.insts.l j<(L.map strOf).length:=by simpa using r1'
 have hnoH: ¬h[qm s.insts.l j]? =some true:=fun c=>by have:=hd3.holds _ r1 c;have h11:sd.getD (qm s.insts.l j) 0=1:=Lh;omega
 have hyr:=(hm.may j y hy).Qr;rcases gX hR hd3 r1 with ⟨c,_⟩|⟨c,c2⟩|⟨c,c2⟩|⟨c,c2⟩;exact hnoH c;by_cases cut:y.span.qB<e.span.to/\e.span.qB<y.span.to;unfold zY at h10;rcases Nat.lt_trichotomy j a' with q|q|q;have:=hm.G9 j a' y i q hy h8;omega;(subst q;rw[hy]at h8;cases h8;have Tv:=X.has _ h7;obtain⟨q1,_,_,_⟩:=QC s SN j k' y x hy h9;have QR:pV (UL L) (qm s.insts.l j+1+k') (qm s.insts.l j):=by (have gen: ∀(k:Nat)(x:qq),y.stops.l[k]? =some x->pV (UL L) (qm s.insts.l j+1+k) (qm s.insts.l j):=by intro k;induction k using Nat.strongRecOn with|_ k ih=>intro x hx;have hu:=(hm.may j y hy).up k x hx;have pf:=(qF hx).1;have h4:=(QC s SN j k y x hy hx).2.2.2;by_cases c:x.up= -1;exact .up _ _ .self o?;obtain⟨p,hp⟩: ∃p:Nat,x.up=p:=⟨x.up.toNat,o?⟩;have cp:y.stops.l[p]? =some y.stops.l[p]:=wu o?;exact Qf (p:=qm s.insts.l j+1+p) o? (ih p o? _ cp));exact gen k' x h9);(have: ∀q,pV (UL L) (qm s.insts.l j+1+k') q->q<(L.map strOf).length/\h[q]? =some true:=by intro q hq;induction hq with|self=>exact⟨by simpa using q1,Tv⟩|up x p _ hp ih=>have:=hR.up x ih.1;exact⟨o?,hh3.up x ih.1 ih.2 p hp⟩);exact hnoH (this _ QR).2;have:=hm.G9 a' j i y q h8 hy;omega;by_cases z:TL L (qm s.insts.l j)<e.span.qB\/TL L (qm s.insts.l j)=e.span.qB/\(FL L (qm s.insts.l j)<TL L (qm s.insts.l j)\/((qm s.insts.l j:Nat):Int)<last\/last<0);have:=hd3.left _ r1 c (fun p hp=>o?) (by rw[r2,r3];exact cut) z;omega;have:=hd3.right _ r1 c (fun p hp=>o?) (by rw[r2,r3];exact cut) z;omega;have h11:sd.getD (qm s.insts.l j) 0=1:=Lh;omega;have h11:sd.getD (qm s.insts.l j) 0=1:=Lh;omega
end
end Xr
namespace Xr
theorem sortE(e:ql):cA [e]=some [e]:=by
 have h1:qX 0 1 [e]=some [e]:=by unfold qX;rw[qU.eq_1,if_neg (by decide)];rfl
 have h2:zs 1 [e]=some [e]:=by unfold zs;rw[zd.eq_1,if_neg (by decide)];simp only[zF,qS,h1];rw[zE.eq_1,if_neg (by decide)];rfl
 unfold cA nI zJ;rw[if_pos (qA z? o?)];simp[h2]
theorem NN(e:ql)(n:Int)(he:kM e n)(qp:Int)(h0:0<=qp)(h1:qp<=n)(right:Bool):tZ qp right [e]=some (mv e.span.qB e.span.to e.text.length right qp):=by
 have:=he.a0;have:=he.ab;have:=he.bn;have:=he.len;have:=he.nn;have w1:q?.wrap ((0:Int)+1)=1:=by decide
 have o4: ∀x:Int,kg (x,right,1,1,[e],[e])=some x:=fun x=>by rw[kg.eq_1,if_neg (by decide)]
 have hr:kJ [e]=some [e]:=by unfold kJ;rw[xU.eq_1,if_neg (by rw[show (([e].length:Nat):Int)-1=0 from rfl];decide)];rfl
 unfold tZ;rw[sortE];simp only[zF,qS,hr];rw[kg.eq_1,if_pos z?,show qh [e] (0:Int)=some e from gi (k:=0) rfl];simp only[zF,qS,h?,e?,w1,wU];rw[show (((0+1:Nat)):Int)=1 from rfl];simp only[o4];rw[qH (n:=e.span.to-e.span.qB) o? o?,qH (n:=(e.text.length:Int)-(e.span.to-e.span.qB)) o? o?,qH (n:=e.span.qB+(e.text.length:Int)) o? o?,qH (n:=qp+((e.text.length:Int)-(e.span.to-e.span.qB))) o? o?];unfold mv;by_cases h2:qp<e.span.qB;simp[h2];by_cases h3:qp>e.span.to;simp[h2,h3];cases right<;>simp[h2,h3]
theorem Uc(r:zK)(n:Int)(he:kM r.e n)(p:qn)(h0:0<=p.qB)(h1:p.qB<=p.to)(h2:p.to<=n)(side:Int):wB p (side+1) r=some (Xa r.e.span.qB r.e.span.to r.e.text.length side p):=by
 have:=he.a0;have:=he.ab;have:=he.bn;have:=he.len;have:=he.nn;unfold wB Xa wU;by_cases h:side=0;subst h;simp only[zF,qS];rw[if_pos z?,qH (n:=p.to+(r.e.text.length:Int)) o? o?,qH (n:=r.e.span.to-r.e.span.qB) o? o?,qH (n:=p.to+(r.e.text.length:Int)-(r.e.span.to-r.e.span.qB)) o? o?];simp;omega;have e1:(side+1==4)=decide (side=3):=by by_cases h:side=3<;>simp[h];omega
 rw[if_neg v?,NN r.e n he p.qB o? o?,NN r.e n he p.to o? o?,if_neg h,e1];rfl
def Yj(x:qq):Prop:=df x.qR=some x.qR/\vF x.opts=some x.opts
def lU(i:qj):qj:=⟨i.span,⟨i.stops.l.isEmpty,i.stops.l⟩⟩
theorem OO(s:qb)(hs:xH s)(hc: ∀i∈s.insts.l,∀ x∈i.stops.l,Yj x):rM s=some ⟨s.cur,⟨(s.insts.l.map lU).isEmpty,s.insts.l.map lU⟩⟩:=by
 have nK:=hs.1;have l2: ∀(i:qj)(oX:Sl qj)(UF eg:Int)(t2:qb)(insts:List qj),i.stops.l.length<=2^12-> ∀(r:List qq)(k:Nat)(acc:List qq),i.stops.l.drop k=r->acc.length+r.length<=2^12->(∀ x∈r,Yj x)->
   vY (oX,UF,eg,i.stops,(i.stops.l.length:Int),(k:Int),s,t2,insts,i,acc)=some (acc++r):=by
  intro i oX UF eg t2 insts hl r;induction r with
  |nil=>
   intro k acc h _ _;have:=ze h;rw[vY.eq_1,if_neg v?];simp
  |cons x r ih=>
   intro k acc h ha hx;obtain⟨g1,g2,g3⟩:=zr h;have hxc:=hx x z?;simp only[h?]at ha;rw[vY.eq_1,if_pos v?,gi g1];simp only[zF,qS,hxc.1,hxc.2];rw[if_pos qA,ws o?,ih (k+1) _ g2 v? (fun y hy=>hx y (by simp[hy]))];simp
 have l0: ∀(r:List qj)(a:Nat)(acc:List qj),s.insts.l.drop a=r->acc.length+r.length<=2^12-> ∀t2,vX (s.insts,(s.insts.l.length:Int),(a:Int),s,t2,acc)=some (acc++r.map lU):=by intro r;induction r with|nil=>intro a acc h _ t2;have:=ze h;rw[vX.eq_1,if_neg v?];simp|cons i r ih=>intro a acc h ha t2;obtain⟨g1,g2,g3⟩:=zr h;have hm:=z6 g1;have hl:=hs.2 i hm;simp only[h?]at ha;rw[vX.eq_1,if_pos v?,gi g1];simp only[zF,qS];have:=l2 i s.insts (s.insts.l.length:Int) (a:Int) t2 acc hl i.stops.l 0 [] rfl (by simpa using hl) (hc i hm);rw[show ((0:Nat):Int)=0 from rfl]at this;rw[this];simp only[qS,F?];rw[if_pos qA,ws o?,ih (a+1) _ g2 v?];simp[lU]
 unfold rM;have:=l0 s.insts.l 0 [] rfl (by simpa using nK) (qb.mk 0 ⟨true,[]⟩);rw[show ((0:Nat):Int)=0 from rfl]at this;rw[this];simp
structure O0 (is:List qj) (m:List (Sl qN)):Prop where
 len:m.length=is.length
 each: ∀(a:Nat)(i:qj)(f:Sl qN),is[a]? =some i->m[a]? =some f->f.l.length=i.stops.l.length
theorem A6(s:qb)(hs:xH s)(hc: ∀i∈s.insts.l,∀ x∈i.stops.l,Yj x): ∃m,pt s=some ⟨⟨s.cur,⟨(s.insts.l.map lU).isEmpty,s.insts.l.map lU⟩⟩,⟨m.isEmpty,m⟩⟩/\O0 s.insts.l m:=by
 have nK:=hs.1;have l2: ∀(eg:Sl qj)(Yf aB:Int)(t2:zh)(o1:Int)(o2:Sl qj)(r3:List (Sl qN))(b4:qj)(L:Nat),L<=2^12-> ∀(d k:Nat)(m:List qN),k+d=L->m.length=L->
   ∃m',yb (eg,Yf,aB,(L:Int),(k:Int),s,t2,o1,o2,r3,b4,m)=some m' /\m'.length=L:=by
  intro eg Yf aB t2 o1 o2 r3 b4 L hL d;induction d with
  |zero=>
   intro k m h hm;rw[yb.eq_1,if_neg v?];exact⟨m,rfl,hm⟩
  |succ d ih=>
   intro k m h hm;obtain⟨x,hx⟩:=gl (l:=m) (k:=k) o?;rw[yb.eq_1,if_pos v?,gi hx];simp only[zF,qS];rw[ws o?];exact ih (k+1) _ o? (by simpa using hm)
 have l0: ∀(t2:zh)(o1:Int)(o2:Sl qj)(r:List qj)(a:Nat)(acc:List (Sl qN)),s.insts.l.drop a=r->acc.length=a->
   ∃m,vZ (s.insts,(s.insts.l.length:Int),(a:Int),s,t2,o1,o2,acc)=some (acc++m)/\O0 r m:=by
  intro t2 o1 o2 r;induction r with
  |nil=>
   intro a acc h _;have:=ze h;rw[vZ.eq_1,if_neg v?];exact⟨[],z?,rfl,fun a i f h=>by simp at h⟩
  |cons i r ih=>
   intro a acc h ha;obtain⟨g1,g2,g3⟩:=zr h;have hl:=hs.2 i (z6 g1);rw[vZ.eq_1,if_pos v?,gi g1];simp only[zF,qS];rw[if_pos o?,if_pos (qA v? o?)];obtain⟨m',k1,k2⟩:=l2 s.insts (s.insts.l.length:Int) (a:Int) t2 o1 o2 acc i i.stops.l.length hl i.stops.l.length 0 (b? i.stops.l.length (qN.mk 0 false)) o? z?;simp only[d?,List.length_replicate];rw[show ((0:Nat):Int)=0 from rfl]at k1;rw[k1];simp only[qS];rw[if_pos qA,ws o?];obtain⟨m,q1,q2⟩:=ih (a+1) (acc++[⟨false,m'⟩]) g2 (by simp[ha]);refine⟨⟨false,m'⟩::m,by rw[q1];simp,by simp[q2.len],fun a j f hj hf=>?_⟩;cases a with
   |zero=>simp only[c?,ki]at hj hf;subst hj hf;exact k2
   |succ a=>exact q2.each a j f hj hf
 unfold pt;rw[OO s hs hc];simp only[zF,qS];obtain⟨m,q1,q2⟩:=l0 _ s.cur ⟨(s.insts.l.map lU).isEmpty,s.insts.l.map lU⟩ s.insts.l 0 [] rfl rfl;rw[show ((0:Nat):Int)=0 from rfl]at q1;rw[q1];exact⟨m,z?,q2⟩
end Xr
namespace Xr
theorem aL: ∀(is:List qj)(a b:Nat)(i:qj),a<b->is[a]? =some i->b<=is.length->qm is a+1+i.stops.l.length<=qm is b:=by intro is;induction is with|nil=>intro a b i _ h;simp at h|cons j is ih=>intro a b i h1 h2 h3;obtain⟨b,rfl⟩: ∃c,b=c+1:=⟨b-1,o?⟩;rw[mJ];cases a with|zero=>simp only[c?,ki]at h2;subst h2;simp[qm]|succ a=>rw[mJ];have:=ih a b i o? (by simpa using h2) (by simpa using h3);omega
theorem AU: ∀(is:List qj)(b y:Nat),y<(yy b is).length-> ∃j i r,is[j]? =some i/\r<=i.stops.l.length/\y=qm is j+r:=by intro is;induction is with|nil=>intro b y h;simp[yy]at h|cons i is ih=>intro b y h;have hL:=an b i;rw[yy,t?,hL]at h;by_cases c:y<1+i.stops.l.length;exact⟨0,i,y,rfl,o?,by simp[qm]⟩;obtain⟨j,i',r,h1,h2,h3⟩:=ih (b+1+i.stops.l.length) (y-(1+i.stops.l.length)) o?;exact⟨j+1,i',r,by simpa using h1,h2,by rw[mJ];omega⟩
section
variable {e:ql} {n:Int} {s:qb} {a k:Int} {L:List TS} {h:List Bool} {sd:List Int} {last o:Int}
theorem Zd(X:Sv e n s true a k L h sd last o)(hm:mm s.insts.l n){A K:Nat}{i:qj}{x:qq}(ho:o=((qm s.insts.l A+1+K:Nat):Int))(hi:s.insts.l[A]? =some i)(hx:i.stops.l[K]? =some x):
  ∀y:Nat,h[y]? =some true->qm s.insts.l A<=y/\y<=qm s.insts.l A+i.stops.l.length:=by
 have hKl:=(qF hx).1;have hE:=X.ex rfl _ ho;have Ew: ∀y,pV (UL L) (qm s.insts.l A+1+K) y->qm s.insts.l A<=y/\y<=qm s.insts.l A+i.stops.l.length:=by intro y hy;induction hy with|self=>omega|up z p _ hp ih=>by_cases c:z=qm s.insts.l A;subst c;have:=(PU s X.rows A i hi).2.2.2;omega;obtain⟨q,rfl⟩: ∃q,z=qm s.insts.l A+1+q:=⟨z-qm s.insts.l A-1,o?⟩;obtain⟨w,hw⟩:=gl (l:=i.stops.l) (k:=q) o?;have h1:=(QC s X.rows A q i w hi hw).2.2.2;have h2:=(hm.may A i hi).up q w hw;omega
 intro y;induction y using p? with|_ y ih=>intro hy;rcases hE.fw y hy with c|⟨c1,c2,c3,_⟩;exact Ew y c;(have Pa:y<L.length:=by have:=(qF hy).1;have:=X.hl;omega);obtain⟨j,i',r,g1,g2,g3⟩:=AU s.insts.l 0 y (by rw[<- X.rows];simpa using Pa);have Vr:=(qF g1).1;have hAl:=(qF hi).1;rcases E! j A with q|q|q;have:=aL s.insts.l j A i' q g1 o?;omega;subst q;rw[hi]at g1;cases g1;omega;have hb:=aL s.insts.l A j i q hi o?;cases r with|zero=>have:=(PU s X.rows j i' g1).2.2.2;rw[M?]at g3;rw[g3]at c2;omega|succ r=>(obtain⟨w,hw⟩:=gl (l:=i'.stops.l) (k:=r) o?;have h1:=(QC s X.rows j r i' w g1 hw).2.2.2;have h2:=(hm.may j i' g1).up r w hw;have h3:UL L y=qm s.insts.l j+1+w.up:=by rw[g3,show qm s.insts.l j+(r+1)=qm s.insts.l j+1+r by omega];exact h1);obtain⟨p,hp⟩: ∃p:Nat,UL L y=p:=⟨(UL L y).toNat,o?⟩;have:=ih p o? (c3 p hp);omega
end
structure DoesH (B:Nat) (len:Nat) (h:List Bool) (r:Nat) (d:List Int):Prop where
 len:d.length=len+1
 one: ∀j,j<r->(d[j]? =some 1↔h[B+j]? =some true)
 zero: ∀(j:Nat)(v:Int),d[j]? =some v->v=0\/v=1
 rest: ∀j,r<=j->d[j]? ≠some 1
theorem Hj(l:List Int)(k j:Nat)(hk:k<l.length):(l.set k 1)[j]? =some 1↔j=k\/l[j]? =some 1:=by rw[zl];by_cases c:k=j;subst c;simp[hk];simp[c];omega
section
variable (i:qj) (stop:Int) (deep:Bool) (q1 q2:Int) (q3:qa) (q4 q5:Int) (r1:List (Sl Int)) (n1:Nat)
theorem Ds(hu: ∀(k:Nat)(x:qq),i.stops.l[k]? =some x-> -1<=x.up/\x.up<(k:Nat)){k:Nat}{x:qq}(hx:i.stops.l[k]? =some x):rb i (k:Int)=some x.up:=by unfold rb;have:=hu k x hx;rw[gi hx];simp only[zF,qS];by_cases c:0<=x.up;rw[if_pos v?];rw[if_neg v?,show x.up= -1 by omega]
theorem phold_L0(hl:i.stops.l.length<=2^12)(hu: ∀(k:Nat)(x:qq),i.stops.l[k]? =some x-> -1<=x.up/\x.up<(k:Nat))(U:Nat->Int)(B:Nat)(hU: ∀(k:Nat) x,i.stops.l[k]? =some x->U (B+1+k)=B+1+x.up)(hB:U B= -1):
  ∀(c:Nat)(d:List Int),c<i.stops.l.length->d.length=i.stops.l.length+1->d[0]? =some 1->
  ∃d' :List Int,kx (stop,deep,(c:Int),q1,q2,q3,q4,q5,r1,n1,i,d)=some d' /\d'.length=i.stops.l.length+1/\(∀(j:Nat)(v:Int),d'[j]? =some v->v=1\/d[j]? =some v)/\ ∀j,d'[j]? =some 1↔d[j]? =some 1\/pV U (B+1+c) (B+j):=by intro c;induction c using p? with|_ c ih=>(intro d hc hd hd0;obtain⟨x,hx⟩:=gl (l:=i.stops.l) (k:=c) hc;have P8:=hu c x hx;have hUx:=hU c x hx;obtain⟨w,hw⟩:=gl (l:=d) (k:=c+1) o?;rw[kx.eq_1,if_pos z?,ws o?,gi hw,Ds i hu hx];simp only[zF,qS,d?];have hs:=fun j=>Hj d (c+1) j o?;have hv: ∀(j:Nat)(v:Int),(d.set (c+1) 1)[j]? =some v->v=1\/d[j]? =some v:=by intro j v h;rw[zl]at h;split at h;left;simpa using h.symm;exact .inr h);by_cases hp:0<=x.up;obtain⟨p,hp⟩: ∃p:Nat,x.up=p:=⟨x.up.toNat,o?⟩;obtain⟨d',g1,g2,g4,g3⟩:=ih p o? (d.set (c+1) 1) o? (by simpa using hd) (by rw[zl,if_neg o?];exact hd0);refine⟨d',by rw[hp,g1],g2,fun j v h=>?_,fun j=>?_⟩;rcases g4 j v h with k|k;exact .inl k;exact hv j v k;rw[g3,hs];constructor;rintro((rfl|k)|k);exact .inr (by rw[show B+(c+1)=B+1+c by omega];exact .self);exact .inl k;exact .inr (Qf (by rw[hUx,hp];omega) k);rintro(k|k);exact .inl (.inr k);rcases eO k with e1|⟨q,hq,k⟩;exact .inl (.inl o?);obtain rfl:q=B+1+p:=o?;exact .inr k;rw[kx.eq_1,if_neg (by simpa using hp)];refine⟨_,rfl,by simpa using hd,hv,fun j=>?_⟩;rw[hs];constructor;rintro(rfl|k);exact .inr (by rw[show B+(c+1)=B+1+c by omega];exact .self);exact .inl k;rintro(k|k);exact .inr k;rcases eO k with e1|⟨q,hq,k⟩;exact .inl o?;obtain rfl:q=B:=o?;rcases eO k with e1|⟨q',EJ,_⟩;obtain rfl:j=0:=o?;exact .inr hd0;omega
theorem DS(x:qn)(r:List (Sl Int))(n2:Nat)(d:List Int):vJ x q1 q2 q3 q4 q5 r n2 d=some (decide (x.qB<q1/\q2<x.to\/q1<q2/\x.qB<=q1/\q2<=x.to)):=by unfold vJ;by_cases c1:x.qB<q1/\q2<x.to;simp[c1];rw[if_neg v?];by_cases c2:q1<q2;rw[if_pos (by simpa using c2)];show(gv ⟨q1,q2⟩ x>>=fun v=>some v)=_;rw[show gv ⟨q1,q2⟩ x=_ from iZ _ _];simp only[zF,qS,ki,decide_eq_decide];unfold zY;simp only;omega;rw[if_neg (by simpa using c2)];simp;omega
structure PI (B K:Nat) (h:List Bool) (r:Nat) (d:List Int) (ins:List Bool) (P:Nat):Prop where
 dl:d.length=i.stops.l.length+1
 il:ins.length=i.stops.l.length
 zo: ∀(j:Nat)(v:Int),d[j]? =some v->v=0\/v=1
 one: ∀j,j<=r->(d[j]? =some 1↔h[B+j]? =some true)
 rest: ∀j,r<j->d[j]? ≠some 1
 i1: ∀j,j<r->d[j+1]? =some 1->K<=j->ins[j]? =some true
 i2: ∀j,ins[j]? =some true->K<=j
 p1:d[P]? =some 1
 p2: ∀j,d[j]? =some 1->j<=P
theorem PI.next{B K:Nat}{h:List Bool}{r:Nat}{d:List Int}{ins:List Bool}{P:Nat}(H:PI i B K h r d ins P)(hr:r<i.stops.l.length)(hP:P<=r)(t v:Bool)(ht:t=true↔h[B+(r+1)]? =some true)(Zf:t=true->v=true)(TA:v=true->K<=r):
  PI i B K h (r+1) (if t=true then d.set (r+1) 1 else d) (ins.set r v) (if t=true then r+1 else P):=by have SR:=H.dl;have dh:=H.il;have hs:=fun j=>Hj d (r+1) j o?;have hn:=H.rest (r+1) o?;cases t with|true=>have h1:=ht.1 rfl;simp only[if_true];refine⟨by simpa using SR,by simpa using dh,fun j w hw=>?_,fun j hj=>?_,fun j hj hc=>?_,fun j hj h2 h3=>?_,fun j hj=>?_,(hs _).2 (.inl rfl),fun j hj=>?_⟩;rw[zl]at hw;split at hw;right;simpa using hw.symm;exact H.zo j w hw;rw[hs];by_cases c:j=r+1;subst c;simp[h1];rw[H.one j o?];simp[c];rcases(hs j).1 hc with c|c;omega;exact H.rest j o? c;rw[zl];by_cases c:r=j;rw[if_pos ⟨c,o?⟩,Zf rfl];rw[if_neg o?];rcases(hs (j+1)).1 h2 with c2|c2;omega;exact H.i1 j o? c2 h3;rw[zl]at hj;split at hj;rename_i c;have:=TA (by simpa using hj);omega;exact H.i2 j hj;rcases(hs j).1 hj with c|c;omega;have:=H.p2 j c;omega|false=>(have h1: ¬h[B+(r+1)]? =some true:=fun c=>by have:=ht.2 c;cases this);simp only[ko,if_false];refine⟨SR,by simpa using dh,H.zo,fun j hj=>?_,fun j hj=>H.rest j o?,fun j hj h2 h3=>?_,fun j hj=>?_,H.p1,H.p2⟩;by_cases c:j=r+1;subst c;simp[h1,hn];exact H.one j o?;by_cases c:r=j;subst c;exact absurd h2 hn;rw[zl,if_neg o?];exact H.i1 j o? h2 h3;rw[zl]at hj;split at hj;rename_i c;have:=TA (by simpa using hj);omega;exact H.i2 j hj
end
section
variable {e:ql} {n:Int} {s:qb} {a k:Int} {L:List TS} {h:List Bool} {sd:List Int} {last o:Int}
theorem phold_L2(X:Sv e n s true a k L h sd last o)(hm:mm s.insts.l n)(cG:xH s){A K:Nat}{i:qj}{x:qq}(ho:o=((qm s.insts.l A+1+K:Nat):Int))(hi:s.insts.l[A]? =some i)(hx:i.stops.l[K]? =some x)
  (q3:qa) (q4:Int) (r1:List (Sl Int)) (n1:Nat): ∀(m r:Nat)(d:List Int)(ins:List Bool)(P:Nat),r+m=i.stops.l.length->K<r->P<=r->PI i (qm s.insts.l A) K h r d ins P->
  ∃(d' :List Int)(FM:List Bool)(P' :Nat),zv (true,(r:Int),e.span.qB,e.span.to,q3,q4,(P:Int),r1,n1,i,d,ins)=some ((P' :Int),d',FM)/\PI i (qm s.insts.l A) K h i.stops.l.length d' FM P' :=by
 have hE:=X.ex rfl _ ho;have hKl:=(qF hx).1;have dh:=cG.2 i (z6 hi);have hu:=(hm.may A i hi).up;intro m;induction m with
  |zero=>intro r d ins P hr _ _ H;obtain rfl:r=i.stops.l.length:=o?;rw[zv.eq_1,if_neg z?];exact⟨d,ins,P,rfl,H⟩
  |succ m ih=>
   intro r d ins P hr hKr hPr H;obtain⟨y,hy⟩:=gl (l:=i.stops.l) (k:=r) o?;have huy:=hu r y hy;obtain⟨f0,f1,f2,f3⟩:=QC s X.rows A r i y hi hy;obtain⟨w,hw⟩:=gl (l:=ins) (k:=r) (by rw[H.il];omega);have SR:=H.dl;have hiL:=H.il;have o4: ∀(t v:Bool),(t=true↔h[qm s.insts.l A+(r+1)]? =some true)->(t=true->v=true)->(v=true->K<=r)-> ∃(d' :List Int)(FM:List Bool)(P' :Nat),zv (true,((r+1:Nat):Int),e.span.qB,e.span.to,q3,q4,((if t=true then r+1 else P:Nat):Int),r1,n1,i,(if t=true then d.set (r+1) 1 else d),ins.set r v)=some ((P' :Int),d',FM)/\PI i (qm s.insts.l A) K h i.stops.l.length d' FM P' :=
    fun t v h1 h2 h3=>ih (r+1) _ _ _ o? o? (by split<;>omega) (H.next i o? hPr t v h1 h2 h3)
   (have fw:h[qm s.insts.l A+(r+1)]? =some true-> ∃p:Nat,y.up=p/\K<=p/\h[qm s.insts.l A+(p+1)]? =some true/\Kw (FL L) (TL L) e.span.qB e.span.to (qm s.insts.l A+1+r):=by intro c;rw[show qm s.insts.l A+(r+1)=qm s.insts.l A+1+r by omega]at c;rcases hE.fw _ c with g|⟨_,g2,g3,g4⟩;have:=eo X.row (by simpa using(QC s X.rows A K i x hi hx).1) g;omega;refine⟨y.up.toNat,o?,o?, ?_,g4⟩;have:=g3 (qm s.insts.l A+(y.up.toNat+1)) o?;exact this);have gs: ∀v,qh (ins.set r v) (r:Int)=some v:=fun v=>gi (by rw[zl,if_pos ⟨rfl,o?⟩]);rw[zv.eq_1,if_pos v?,Ds i hu hy,ws o?,gi hw];simp only[zF,qS,d?,gs];by_cases c0:0<=y.up;(obtain⟨p,hp⟩: ∃p:Nat,y.up=p:=⟨y.up.toNat,o?⟩;obtain⟨v,hv⟩:=gl (l:=ins) (k:=p) o?;obtain⟨dv,hdv⟩:=gl (l:=d) (k:=p+1) o?;obtain⟨dr,hdr⟩:=gl (l:=d) (k:=r+1) o?;rw[if_pos (by simpa using c0),hp,gi hv,ws (k:=p) o?,gi hdv,gi hy,gi hdr];simp only[qS,DS];have f2' :=H.i2 p;cases v with|false=>simp only[ko,if_false];refine o4 false false ⟨fun c=>(by cases c),fun c=>?_⟩ (fun c=>by cases c) (fun c=>by cases c);obtain⟨p',g1,g2,g3,_⟩:=fw c;obtain rfl:p=p' :=o?;have:=H.i1 p o? ((H.one (p+1) o?).2 g3) g2;rw[hv]at this;cases this|true=>have hKp:=f2' hv;simp only[if_true];by_cases c1:dv=1;subst c1;rw[if_pos z?];by_cases c2:y.span.qB<e.span.qB/\e.span.to<y.span.to\/e.span.qB<e.span.to/\y.span.qB<=e.span.qB/\e.span.to<=y.span.to;simp only[c2,decide_true,if_true];refine o4 true true ⟨fun _=>?_,fun _=>rfl⟩ (fun _=>rfl) (fun _=>o?);rw[show qm s.insts.l A+(r+1)=qm s.insts.l A+1+r by omega];refine hE.bw _ f0 o? o? (fun p' SZ=>?_) (by unfold Kw;rw[f1,f2];exact c2);obtain rfl:p' =qm s.insts.l A+(p+1):=o?;exact(H.one (p+1) o?).1 hdv;simp only[c2,decide_false,ko,if_false];refine o4 false true ⟨fun c=>(by cases c),fun c=>?_⟩ (fun _=>rfl) (fun _=>o?);obtain⟨p',_,_,_,g4⟩:=fw c;unfold Kw at g4;rw[f1,f2]at g4;exact absurd g4 c2;rw[if_neg (by simpa using c1)];refine o4 false true ⟨fun c=>(by cases c),fun c=>?_⟩ (fun _=>rfl) (fun _=>o?);obtain⟨p',g1,g2,g3,_⟩:=fw c;obtain rfl:p=p' :=o?;have:=(H.one (p+1) o?).2 g3;rw[hdv]at this;cases this;exact absurd rfl c1);rw[if_neg (by simpa using c0)];simp only[ko,if_false];refine o4 false false ⟨fun c=>(by cases c),fun c=>?_⟩ (fun c=>by cases c) (fun c=>by cases c);obtain⟨p',g1,_⟩:=fw c;omega
end
end Xr
namespace Xr
def Ba(s:qb)(last b4 b5:Int):Prop:=(b4= -1/\last<0)\/ ∃(A P:Nat)(i:qj),b4=A/\b5=P/\last=((qm s.insts.l A+P:Nat):Int)/\s.insts.l[A]? =some i/\P<=i.stops.l.length
theorem Nv{s:qb}{last b4 b5:Int}(hL:Ba s last b4 b5){j q:Nat}{i:qj}(hj:s.insts.l[j]? =some i)(hq:q<=i.stops.l.length):
  (b4<0\/(j:Int)<b4\/(j:Int)=b4/\(q:Int)<b5)↔(((qm s.insts.l j+q:Nat):Int)<last\/last<0):=by have Vr:=(qF hj).1;rcases hL with ⟨rfl,h⟩|⟨A,P,iA,rfl,rfl,rfl,hA,hP⟩;omega;have hAl:=(qF hA).1;rcases E! j A with c|c|c;have:=aL s.insts.l j A i c hj o?;omega;subst c;omega;have:=aL s.insts.l A j iA c hA o?;omega
section
variable {m:Nat} {F W U:Nat->Int} {n:Int} {H:Nat->Prop} {a b last:Int} {sF:Nat->Int}
theorem Dg(hR:Row m F W U n)(hH:Vx m F W U H a b)(hS:DD m F W U H a b last sF){y:Nat}(hy:y<m)(hn: ¬H y)(x:qn)(h1:x.qB=F y)(h2:x.to=W y)(oi inst qY b4 b5:Int)(b3:qa)(r:List (Sl Int))(n2:Nat)(d:List Int)
  (har:(U y= -1/\oi=1)\/ ∃p:Nat,U y=p/\oi=sF p+1) (hl:(b4<0\/inst<b4\/inst=b4/\qY<b5)↔((y:Int)<last\/last<0)):
  jI x oi inst qY a b b3 b4 b5 r n2 d=some (sF y+1):=by
 have hu:=hR.up y hy;have last3:(∀ p:Nat,U y=p->sF p≠1/\H p)->jI x 1 inst qY a b b3 b4 b5 r n2 d=some (sF y+1):=by intro hp;unfold jI;rw[if_neg z?];by_cases c:F y<b/\a<W y;rw[if_pos v?,hS.cut y hy hn (fun p h=>(hp p h).1) c.1 c.2];rfl;rw[if_neg v?];by_cases c2:W y<a\/W y=a/\(F y<W y\/(y:Int)<last\/last<0);rw[if_pos v?,hS.left y hy hn hp c c2];rfl;rw[if_neg v?,hS.right y hy hn hp c c2];rfl
 rcases har with ⟨g1,rfl⟩|⟨p,g1,rfl⟩;exact last3 fun p hp=>o?;have one: ∀p' :Nat,U y=p' ->p' =p:=fun p' h=>o?;have Tt:=hR.nest y hy p g1;rcases gX hR hS (r:=p) o? with ⟨k1,k2⟩|⟨k1,k2⟩|⟨k1,k2⟩|⟨k1,k2⟩;(rw[k2];exact last3 fun p' SZ=>by rw[one p' SZ,k2];exact⟨o?,k1⟩);rw[k2,hS.gone y hy hn p g1 k2];unfold jI;rw[if_pos z?];have:=Qo hR hH hS o? k2;have:=hS.Zj y hy hn (fun p' SZ=>by rw[one p' SZ,k2];omega) o? p g1 k1;rw[this,k2];unfold jI;rw[if_pos z?];have:=cd hR hH hS o? k2;have:=hS.Zj y hy hn (fun p' SZ=>by rw[one p' SZ,k2];omega) o? p g1 k1;rw[this,k2];unfold jI;rw[if_pos z?]
end
section
variable {e:ql} {n:Int} {s:qb} {a k:Int} {L:List TS} {h:List Bool} {sd:List Int} {last o:Int}
theorem Om(hL:L.map strOf=yy 0 s.insts.l)(hm:mm s.insts.l n){A:Nat}{i:qj}(hi:s.insts.l[A]? =some i): ∀(k:Nat)(x:qq),i.stops.l[k]? =some x->pV (UL L) (qm s.insts.l A+1+k) (qm s.insts.l A):=by intro k;induction k using p? with|_ k ih=>intro x hx;have hu:=(hm.may A i hi).up k x hx;have pf:=(qF hx).1;have h4:=(QC s hL A k i x hi hx).2.2.2;by_cases c:x.up= -1;exact .up _ _ .self o?;obtain⟨p,hp⟩: ∃p:Nat,x.up=p:=⟨x.up.toNat,o?⟩;obtain⟨w,hw⟩:=gl (l:=i.stops.l) (k:=p) o?;exact Qf (p:=qm s.insts.l A+1+p) o? (ih p o? w hw)
def IX(B len:Nat)(h:List Bool)(d:List Int):Prop:=d.length=len+1/\ ∀j,j<=len->(d[j]? =some 1↔h[B+j]? =some true)
theorem phold_ok(X:Sv e n s true a k L h sd last o)(hm:mm s.insts.l n)(cG:xH s){A K:Nat}{i:qj}{x:qq}(ho:o=((qm s.insts.l A+1+K:Nat):Int))(hi:s.insts.l[A]? =some i)(hx:i.stops.l[K]? =some x)
  (q3:qa) (q5:Int) (r:Sl (Sl Int)) (hr:r.nil=false) (hz:r.l[A]? =some ⟨false,b? (i.stops.l.length+1) 0⟩):
  ∃(d:List Int)(P:Nat),nR i (K:Int) true e.span.qB e.span.to q3 (A:Int) q5 r=some ((P:Int),⟨false,r.l.set A ⟨false,d⟩⟩)/\IX (qm s.insts.l A) i.stops.l.length h d/\Ba s last (A:Int) (P:Int):=by
 have hE:=X.ex rfl _ ho;have hKl:=(qF hx).1;have dh:=cG.2 i (z6 hi);have hu:=(hm.may A i hi).up;have hU:=fun k x hx=>(QC s X.rows A k i x hi hx).2.2.2;have hB:=(PU s X.rows A i hi).2.2.2;have Ho:=(QC s X.rows A K i x hi hx).1;have rep: ∀(j:Nat)(v:Int),(b? (i.stops.l.length+1) (0:Int))[j]? =some v->v=0:=fun j v hv=>by rw[Q!]at hv;split at hv;simpa using hv.symm;cases hv
 have gs:=fun j=>Hj (b? (i.stops.l.length+1) (0:Int)) 0 j z?;obtain⟨d,d1,d2,d4,d3⟩:=phold_L0 i (K:Int) true e.span.qB e.span.to q3 (A:Int) q5 r.l A dh hu (UL L) (qm s.insts.l A) hU hB K ((b? (i.stops.l.length+1) (0:Int)).set 0 1) hKl z? ((gs 0).2 (.inl rfl));have dd: ∀j,d[j]? =some 1↔j=0\/pV (UL L) (qm s.insts.l A+1+K) (qm s.insts.l A+j):=by intro j;rw[d3,gs];constructor;rintro((k|k)|k);exact .inl k;have:=rep j 1 k;omega;exact .inr k;rintro(k|k);exact .inl (.inl k);exact .inr k
 have aI:=Om X.rows hm hi K x hx;have le:=fun q=>eo (q:=q) X.row (by simpa using Ho);have PI0:PI i (qm s.insts.l A) K h (K+1) d ((b? i.stops.l.length false).set K true) (K+1):=by (have ins: ∀j,((b? i.stops.l.length false).set K true)[j]? =some true↔j=K:=by intro j;rw[zl,Q!];by_cases c:K=j;subst c;simp[hKl];simp[c];omega);refine⟨d2,z?,fun j v hv=>?_,fun j hj=>?_,fun j hj hc=>?_,fun j hj _ hc=>(ins j).2 o?,fun j hj=>by have:=(ins j).1 hj;omega,(dd _).2 (.inr ?_),fun j hj=>?_⟩;rcases d4 j v hv with c|c;exact .inr c;rw[zl]at c;split at c;right;simpa using c.symm;exact .inl (rep j v c);rw[dd];constructor;rintro(rfl|c);exact hE.Ew _ aI;exact hE.Ew _ c;intro c;rcases hE.fw _ c with g|⟨g,_⟩;exact .inr g;omega;rcases(dd j).1 hc with c|c;omega;have:=le _ c;omega;rw[show qm s.insts.l A+(K+1)=qm s.insts.l A+1+K by omega];exact .self;rcases(dd j).1 hj with c|c;omega;have:=le _ c;omega
 obtain⟨d',FM,P,g1,g2⟩:=phold_L2 X hm cG ho hi hx q3 (A:Int) r.l A (i.stops.l.length-(K+1)) (K+1) d _ (K+1) o? o? o? PI0;have hz0:qh (b? (i.stops.l.length+1) (0:Int)) 0=some 0:=by rw[show (0:Int)=((0:Nat):Int)from rfl];exact gi z?
 have hins:qh (b? i.stops.l.length false) (K:Int)=some false:=gi (by simp[hKl]);refine⟨d',P, ?_,⟨g2.dl,g2.one⟩,.inr ⟨A,P,i,rfl,rfl, ?_,hi, ?_⟩⟩;unfold nR;rw[hr,if_neg z?,gi hz];simp only[zF,qS];rw[if_neg z?,hz0];simp only[qS,d?,q1x];rw[d1];simp only[qS];rw[if_pos o?,if_pos qA,hins,ws o?];simp only[qS];rw[g1];rfl;have hp:=(g2.one P (by have:=(qF g2.p1).1;have:=g2.dl;omega)).1 g2.p1;have hl1:=X.side.q04 (qm s.insts.l A+P) (by have:=(qF hp).1;have:=X.hl;simp;omega) hp;obtain⟨y,y1,y2,y3⟩:=X.side.q05 o?;have yr:=Zd X hm ho hi hx y y3;have:=g2.p2 (y-qm s.insts.l A) ((g2.one _ o?).2 (by rw[show qm s.insts.l A+(y-qm s.insts.l A)=y by omega];exact y3));omega;have:=(qF g2.p1).1;have:=g2.dl;omega
def Be(B len:Nat)(sd:List Int)(d:List Int):Prop:=d.length=len+1/\ ∀j,j<=len->d[j]? =some (pC sd (B+j)+1)
theorem q0R{deep:Bool}(X:Sv e n s deep a k L h sd last o)(hm:mm s.insts.l n)(cG:xH s){b4 b5:Int}(hL:Ba s last b4 b5){j:Nat}{i:qj}(hj:s.insts.l[j]? =some i)(q3:qa)(r:Sl (Sl Int))(hr:r.nil=false){d:List Int}(hd:r.l[j]? =some ⟨false,d⟩)(hH:IX (qm s.insts.l j) i.stops.l.length h d):
  ∃d' :List Int,bg i (j:Int) e.span.qB e.span.to q3 b4 b5 r=some ⟨false,r.l.set j ⟨false,d'⟩⟩/\Be (qm s.insts.l j) i.stops.l.length sd d' :=by
 have dh:=cG.2 i (z6 hj);have hu:=(hm.may j i hj).up;obtain⟨I1,I2,I3,I4⟩:=PU s X.rows j i hj;have loop: ∀(m q:Nat)(d' :List Int),q+m=i.stops.l.length->d'.length=i.stops.l.length+1->(∀ p,p<=q->d'[p]? =some (pC sd (qm s.insts.l j+p)+1))->(∀ p,q<p->d'[p]? =d[p]?)->
   ∃d'' :List Int,xL ((j:Int),i.stops,(i.stops.l.length:Int),(q:Int),e.span.qB,e.span.to,q3,b4,b5,r.l,j,i,d')=some d'' /\Be (qm s.insts.l j) i.stops.l.length sd d'' :=by
  intro m;induction m with
  |zero=>
   intro q d' hq hl hp _;rw[xL.eq_1,if_neg v?];exact⟨d',rfl,hl,fun p hp2=>hp p o?⟩
  |succ m ih=>
   intro q d' hq hl hp hp2;obtain⟨x,hx⟩:=gl (l:=i.stops.l) (k:=q) o?;obtain⟨v,hv⟩:=gl (l:=d) (k:=q+1) (by have:=hH.1;omega);have Hq:d'[q+1]? =some v:=by rw[hp2 _ o?];exact hv
   obtain⟨f0,f1,f2,f3⟩:=QC s X.rows j q i x hj hx;have P8:=hu q x hx;have oC:=hH.2 (q+1) o?;rw[show qm s.insts.l j+(q+1)=qm s.insts.l j+1+q by omega]at oC;rw[xL.eq_1,if_pos v?,gi hx,ws o?,gi Hq];simp only[zF,qS,d?];by_cases c:v=1
   ·subst c;rw[if_neg z?];refine ih (q+1) d' o? hl (fun p hp3=>?_) (fun p hp3=>hp2 p o?);by_cases c2:p=q+1
    ·subst c2;rw[Hq,show qm s.insts.l j+(q+1)=qm s.insts.l j+1+q by omega,X.side.holds _ (by simpa using f0) (oC.1 hv)];rfl
    exact hp p o?
   rw[if_pos (by simpa using c),Ds i hu hx];simp only[qS];obtain⟨w,hw⟩: ∃w:Nat,x.up+1=w:=⟨(x.up+1).toNat,o?⟩;have hdw:=hp w o?;rw[qH (n:=x.up+1) o? o?,hw,gi hdw];simp only[qS];have hnh: ¬h[qm s.insts.l j+1+q]? =some true:=fun c2=>by
    have:=oC.2 c2;rw[hv]at this;cases this;exact c rfl
   have LD:=Dg X.row X.hold X.side (y:=qm s.insts.l j+1+q) (by simpa using f0) hnh x.span o? o? (pC sd (qm s.insts.l j+w)+1) (j:Int) ((q+1:Nat):Int) b4 b5 q3 r.l j d'
    (.inr ⟨qm s.insts.l j+w,o?,rfl⟩) (by
     have:=Nv hL hj (q:=q+1) o?
     rwa[show qm s.insts.l j+(q+1)=qm s.insts.l j+1+q by omega]at this)
   rw[LD];simp only[qS];refine ih (q+1) _ o? (by simpa using hl) (fun p hp3=>?_) (fun p hp3=>?_)
   ·rw[zl];by_cases c2:q+1=p
    ·subst c2;rw[if_pos ⟨rfl,o?⟩,show qm s.insts.l j+(q+1)=qm s.insts.l j+1+q by omega]
    rw[if_neg o?];exact hp p o?
   rw[zl,if_neg o?];exact hp2 p o?
 obtain⟨v,hv⟩:=gl (l:=d) (k:=0) (by have:=hH.1;omega);have oC:=hH.2 0 o?;rw[M?]at oC;unfold bg;rw[hr,if_neg z?,gi hd];simp only[zF,qS];rw[if_neg z?,show qh d (0:Int)=some v from gi (k:=0) hv];simp only[qS,d?,q1x];by_cases c:v=1
 ·subst c;rw[if_neg z?];obtain⟨d'',g1,g2⟩:=loop i.stops.l.length 0 d o? hH.1 (fun p hp=>by
   obtain rfl:p=0:=o?
   rw[hv,M?,X.side.holds _ (by simpa using I1) (oC.1 hv)]
   rfl) (fun _ _=>rfl)
  rw[show ((0:Nat):Int)=0 from rfl]at g1;rw[g1];exact⟨d'',rfl,g2⟩
 rw[if_pos (by simpa using c)];have hnh: ¬h[qm s.insts.l j]? =some true:=fun c2=>by have:=oC.2 c2;rw[hv]at this;cases this;exact c rfl
 have LD:=Dg X.row X.hold X.side (y:=qm s.insts.l j) (by simpa using I1) hnh i.span o? o? 1 (j:Int) 0 b4 b5 q3 r.l j d (.inl ⟨I4,rfl⟩) (by
  have:=Nv hL hj (q:=0) o?
  rwa[M?]at this)
 rw[LD];simp only[qS];obtain⟨d'',g1,g2⟩:=loop i.stops.l.length 0 (d.set 0 (pC sd (qm s.insts.l j)+1)) o? (by simpa using hH.1) (fun p hp=>by
  obtain rfl:p=0:=o?
  rw[zl,if_pos ⟨rfl,by have:=hH.1;omega⟩,M?]) (fun p hp=>by rw[zl,if_neg o?])
 rw[show ((0:Nat):Int)=0 from rfl]at g1;rw[g1];exact⟨d'',rfl,g2⟩
end
end Xr
namespace Xr
def sL(s:qb):qb:=⟨s.cur,⟨(s.insts.l.map lU).isEmpty,s.insts.l.map lU⟩⟩
theorem Kn{is:List qj}{a:Nat}{i:qj}(h:(is.map lU)[a]? =some i): ∃j,is[a]? =some j/\i=lU j:=by rw[List.getElem?_map]at h;obtain⟨j,h1,h2⟩:=Option.map_eq_some_iff.1 h;exact⟨j,h1,h2.symm⟩
theorem Cm: ∀(is:List qj)(b:Nat),yy b (is.map lU)=yy b is
 |[],_=>rfl
 |i::is,b=>by simp only[s?,yy,Cm is];rfl
theorem q0H(is:List qj)(a:Nat):qm (is.map lU) a=qm is a:=by unfold qm;rw[<- List.map_take,List.map_map];rfl
theorem Cl(a b c:Int)(sF:Nat->Int): ∀(is:List qj)(b0:Nat),vN a b c sF b0 (is.map lU)=vN a b c sF b0 is
 |[],_=>rfl
 |i::is,b0=>by simp only[s?,vN,Cl a b c sF is];rfl
theorem nrm_may{is:List qj}{n:Int}(h:mm is n):mm (is.map lU) n:=by refine⟨fun a i hi=>?_,fun a b i j eL hi hj=>?_⟩;obtain⟨i',h1,rfl⟩:=Kn hi;have:=h.may a i' h1;exact⟨this.Qr,this.up,this.le,this.top,this.nest,this.B3,this.pre⟩;obtain⟨i',h1,rfl⟩:=Kn hi;obtain⟨j',h2,rfl⟩:=Kn hj;exact h.G9 a b i' j' eL h1 h2
theorem A4{s:qb}(h:xH s):xH (sL s):=by refine⟨by simpa[sL]using h.1,fun i hi=>?_⟩;obtain⟨j,hj,rfl⟩:=N?.1 hi;exact h.2 j hj
section
variable {e:ql} {n:Int} {s:qb} {a k:Int} {L:List TS} {h:List Bool} {sd:List Int} {last o:Int}
theorem nrm_X{deep:Bool}(X:Sv e n s deep a k L h sd last o):Sv e n (sL s) deep a k L h sd last o:=by refine⟨by rw[X.rows];exact(Cm _ _).symm,X.row,X.hl,X.sl,X.small,X.hold,X.side, ?_,X.has,X.ex⟩;rcases X.own with h|⟨a',k',i,x,h1,h2,h3,h4,h5,h6⟩;exact .inl h;refine .inr ⟨a',k',lU i,x,h1,h2,by rw[h3];simp only[sL,q0H],by simp[sL,h4],h5,h6⟩
structure IV (s:qb) (sd:List Int) (D:List (Sl Int)):Prop where
 len:D.length=s.insts.l.length
 each: ∀(j:Nat)(i:qj),s.insts.l[j]? =some i-> ∃d,D[j]? =some ⟨false,d⟩/\Be (qm s.insts.l j) i.stops.l.length sd d
theorem Ow(X:Sv e n s true a k L h sd last o)(hm:mm s.insts.l n)(cG:xH s): ∃(D:Sl (Sl Int))(b4 b5:Int),rO s a k e true=some ⟨e,D,b4,b5⟩/\IV s sd D.l:=by
 have nK:=cG.1;have l0: ∀(z:zK)(r:List qj)(q:Nat)(acc:Sl (Sl Int)),s.insts.l.drop q=r->acc.l.length=q->
   ∃nl,wm (a,k,true,s.insts,(s.insts.l.length:Int),(q:Int),s,e,z,e.span.qB,e.span.to,e.text,-1,0,acc)=some ⟨nl,acc.l++r.map fun i=>⟨false,b? (i.stops.l.length+1) 0⟩⟩/\(r≠[]->nl=false):=by
  intro z r;induction r with
  |nil=>
   intro q acc h _;have:=ze h;rw[wm.eq_1,if_neg v?];exact⟨acc.nil,z?,fun c=>absurd rfl c⟩
  |cons i r ih=>
   intro q acc h hq;obtain⟨g1,g2,g3⟩:=zr h;have hl:=cG.2 i (z6 g1);rw[wm.eq_1,if_pos v?,gi g1];simp only[zF,qS];rw[ws o?,if_pos o?,if_pos (qA v? o?),if_pos qA,ws o?];obtain⟨nl,q1,q2⟩:=ih (q+1) ⟨false,acc.l++[⟨false,b? (i.stops.l.length+1) 0⟩]⟩ g2 (by simp[hq]);refine⟨nl, ?_,fun _=>?_⟩
   ·simp only[d?];rw[q1];simp
   cases r with
   |nil=>
    have:=ze g2;rw[wm.eq_1,if_neg v?]at q1;simp only[ki,Sl.mk.injEq]at q1;exact q1.1.symm
   |cons _ _=>exact q2 z?
 have l2: ∀(z:zK)(b4 b5:Int),Ba s last b4 b5-> ∀(r:List qj)(q:Nat)(D:Sl (Sl Int)),s.insts.l.drop q=r->(s.insts.l≠[]->D.nil=false)->D.l.length=s.insts.l.length->
   (∀(j:Nat)(i:qj),j<q->s.insts.l[j]? =some i-> ∃d,D.l[j]? =some ⟨false,d⟩/\Be (qm s.insts.l j) i.stops.l.length sd d)->
   (∀(j:Nat)(i:qj),q<=j->s.insts.l[j]? =some i-> ∃d,D.l[j]? =some ⟨false,d⟩/\IX (qm s.insts.l j) i.stops.l.length h d)->
   ∃D',kp (s.insts,(s.insts.l.length:Int),(q:Int),s,e,z,e.span.qB,e.span.to,e.text,b4,b5,D)=some D' /\IV s sd D'.l:=by
  intro z b4 b5 hL r;induction r with
  |nil=>
   intro q D h _ hlen hd _;have:=ze h;rw[kp.eq_1,if_neg v?];exact⟨D,rfl,hlen,fun j i hj=>hd j i (by have:=(qF hj).1;omega) hj⟩
  |cons i r ih=>
   intro q D h hn hlen hd P1;obtain⟨g1,g2,g3⟩:=zr h;have jz:s.insts.l≠[]:=fun c=>by rw[c]at g3;simp at g3
   obtain⟨d,e1,e2⟩:=P1 q i o? g1;obtain⟨d',e3,e4⟩:=q0R X hm cG hL g1 e.text D (hn jz) e1 e2;rw[kp.eq_1,if_pos v?,gi g1];simp only[zF,qS];rw[e3,ws o?];simp only[qS];refine ih (q+1) _ g2 (fun _=>rfl) (by simpa using hlen) (fun j i' hj yw=>?_) (fun j i' hj yw=>?_)
   ·by_cases c:q=j
    ·subst c;rw[g1]at yw;cases yw;exact⟨d',by simp only;rw[zl,if_pos ⟨rfl,o?⟩],e4⟩
    obtain⟨d2,k1,k2⟩:=hd j i' o? yw;exact⟨d2,by simp only;rw[zl,if_neg o?];exact k1,k2⟩
   obtain⟨d2,k1,k2⟩:=P1 j i' o? yw;exact⟨d2,by simp only;rw[zl,if_neg o?];exact k1,k2⟩
 obtain⟨nl,z1,z2⟩:=l0 ⟨⟨⟨0,0⟩,[]⟩,⟨true,[]⟩,0,0⟩ s.insts.l 0 ⟨true,[]⟩ rfl rfl;rw[show ((0:Nat):Int)=0 from rfl]at z1;have Z: ∀(j:Nat)(i:qj),s.insts.l[j]? =some i->(s.insts.l.map fun i=>(⟨false,b? (i.stops.l.length+1) 0⟩:Sl Int))[j]? =some ⟨false,b? (i.stops.l.length+1) 0⟩:=fun j i hj=>by simp[hj]
 have rep: ∀(m j:Nat),(b? m (0:Int))[j]? ≠some 1:=fun m j hv=>by rw[Q!]at hv;split at hv<;>simp at hv
 unfold rO;rw[z1];simp only[zF,qS,F?];rcases X.own with ⟨rfl,rfl,rfl,Xx⟩|⟨A,K,i,x,rfl,rfl,ho,hi,hx,hw⟩
 ·rw[if_neg z?];have hL:Ba s last (-1) 0:= .inl ⟨rfl,by
   rcases Int.lt_or_le last 0 with c|c
   ·exact c
   obtain⟨r,_,_,c2⟩:=X.side.q05 c
   exact absurd c2 (Xx r)⟩
  obtain⟨D',k1,k2⟩:=l2 ⟨⟨⟨0,0⟩,[]⟩,⟨true,[]⟩,0,0⟩ (-1) 0 hL s.insts.l 0 ⟨nl,s.insts.l.map fun i=>⟨false,b? (i.stops.l.length+1) 0⟩⟩ rfl z2 z? (fun j i hj=>o?) (fun j i _ hj=>⟨_,Z j i hj,z?,fun p _=>⟨fun c=>absurd c (rep _ _),fun c=>absurd c (Xx _)⟩⟩);rw[show ((0:Nat):Int)=0 from rfl]at k1;rw[k1];exact⟨D',-1,0,rfl,k2⟩
 have hAl:=(qF hi).1;have hKl:=(qF hx).1;have jz:s.insts.l≠[]:=fun c=>by rw[c]at hAl;simp at hAl
 rw[if_pos v?,gi hi];simp only[qS];rw[if_pos v?];obtain⟨d,P,k1,k2,k3⟩:=phold_ok X hm cG ho hi hx e.text 0 ⟨nl,s.insts.l.map fun i=>⟨false,b? (i.stops.l.length+1) 0⟩⟩ (z2 jz) (Z A i hi);rw[k1];simp only[qS];obtain⟨D',k4,k5⟩:=l2 ⟨⟨⟨0,0⟩,[]⟩,⟨true,[]⟩,0,0⟩ A P k3 s.insts.l 0 ⟨false,(s.insts.l.map fun i=>(⟨false,b? (i.stops.l.length+1) 0⟩:Sl Int)).set A ⟨false,d⟩⟩ rfl (fun _=>rfl) z? (fun j i hj=>o?) (fun j i' _ hj=>by
  by_cases c:A=j
  ·subst c
   rw[hi]at hj
   cases hj
   exact⟨d,by simp only;rw[zl,if_pos ⟨rfl,by simpa using hAl⟩],k2⟩
  refine⟨b? (i'.stops.l.length+1) 0,by simp only;rw[zl,if_neg o?];exact Z j i' hj,z?,fun p hp=>⟨fun c=>absurd c (rep _ _),fun c2=>?_⟩⟩
  have hr:=Zd X hm ho hi hx _ c2
  have Vr:=(qF hj).1
  rcases Nat.lt_or_gt_of_ne c with q|q
  ·have:=aL s.insts.l A j i q hi o?
   omega
  have:=aL s.insts.l j A i' q hj o?
  omega)
 rw[show ((0:Nat):Int)=0 from rfl]at k4;rw[k4];exact⟨D',A,P,rfl,k5⟩
theorem inst_ok{deep:Bool}(X:Sv e n s deep a k L h sd last o)(he:kM e n)(hm:mm s.insts.l n)(cG:xH s){j:Nat}{i:qj}(hi:s.insts.l[j]? =some i){d:List Int}(hd:Be (qm s.insts.l j) i.stops.l.length sd d)(ms:Sl qN)(hms:ms.l.length=i.stops.l.length)(D:Sl (Sl Int))(b4 b5:Int):
  ∃m,yv i ⟨false,d⟩ ms false ⟨e,D,b4,b5⟩=some (l9 e.span.qB e.span.to e.text.length (pC sd) (qm s.insts.l j) i,m):=by
 have hmi:=hm.may j i hi;have dh:=cG.2 i (z6 hi);have loop: ∀(oX:qj)(o1 o2:Int)(r:List qq)(q:Nat)(places:List Int)(bh:List qN)(out:List qq),i.stops.l.drop q=r->q<=i.stops.l.length->places.length=i.stops.l.length->
   (∀ p,p<q->pC sd (qm s.insts.l j+1+p)≠1->places[p]? =some ((aA (pC sd) (qm s.insts.l j+1) p:Nat):Int))->out.length=aA (pC sd) (qm s.insts.l j+1) q->out.length<=q->bh.length<=q->
   ∃(A7:List Int)(kp' :List qN),zk (⟨false,d⟩,ms,false,i.stops,(i.stops.l.length:Int),(q:Int),⟨e,D,b4,b5⟩,i,oX,o1,o2,places,bh,out)=some (A7,kp',out++NS e sd (qm s.insts.l j+1) q r):=by
  intro oX o1 o2 r;induction r with
  |nil=>
   intro q places bh out h hq _ _ _ _ _;have:=ze h;rw[zk.eq_1,if_neg v?];exact⟨places,bh,by simp[NS,bj]⟩
  |cons x r ih=>
   intro q places bh out h hq cp Tx lN hoq hkq;obtain⟨g1,g2,g3⟩:=zr h;obtain⟨f0,f1,f2,f3⟩:=QC s X.rows j q i x hi g1;have hrx:=X.row.Qr (qm s.insts.l j+1+q) (by simpa using f0);have P8:=hmi.up q x g1;have hdv:=hd.2 (q+1) o?;rw[show qm s.insts.l j+(q+1)=qm s.insts.l j+1+q by omega]at hdv;obtain⟨pv,hpv⟩:=gl (l:=places) (k:=q) o?;obtain⟨mv',hmv⟩:=gl (l:=ms.l) (k:=q) o?;rw[zk.eq_1,if_pos v?,gi g1,ws o?,gi hdv];simp only[zF,qS,d?];by_cases c1:pC sd (qm s.insts.l j+1+q)=1
   ·rw[if_pos (by rw[c1];simp)];have e1:NS e sd (qm s.insts.l j+1) q (x::r)=NS e sd (qm s.insts.l j+1) (q+1) r:=by
     show bj _ _ _ _ _ _ (x::r)=_;rw[bj,if_pos c1]
    rw[e1];refine ih (q+1) places bh out g2 o? cp (fun p hp hs=>?_) ?_ o? o?
    ·by_cases c:p=q
     ·subst c;exact absurd c1 hs
     exact Tx p o? hs
    rw[aA,if_pos c1];simpa using lN
   rw[if_neg (by rw[beq_iff_eq];omega),gi hpv,Ds i hmi.up g1];simp only[qS];have e1:NS e sd (qm s.insts.l j+1) q (x::r)=U5 e.span.qB e.span.to e.text.length (pC sd) (qm s.insts.l j+1) q x::NS e sd (qm s.insts.l j+1) (q+1) r:=by
    show bj _ _ _ _ _ _ (x::r)=_;rw[bj,if_neg c1]
   have hplq:aA (pC sd) (qm s.insts.l j+1) (q+1)=aA (pC sd) (qm s.insts.l j+1) q+1:=by rw[aA,if_neg c1]
   have o4: ∀(up:Int)(m:qN),(if 0<=x.up then((aA (pC sd) (qm s.insts.l j+1) x.up.toNat:Nat):Int)else x.up)=up->
     ∃(A7:List Int)(kp' :List qN),zk (⟨false,d⟩,ms,false,i.stops,(i.stops.l.length:Int),((q+1:Nat):Int),⟨e,D,b4,b5⟩,i,oX,o1,o2,places.set q (out.length:Int),bh++[m],out++[qq.mk (Xa e.span.qB e.span.to e.text.length (pC sd (qm s.insts.l j+1+q)) x.span) x.n up x.first x.qL x.qR x.opts])=some (A7,kp',out++NS e sd (qm s.insts.l j+1) q (x::r)):=by
    intro up m hu;have lO:qq.mk (Xa e.span.qB e.span.to e.text.length (pC sd (qm s.insts.l j+1+q)) x.span) x.n up x.first x.qL x.qR x.opts=U5 e.span.qB e.span.to e.text.length (pC sd) (qm s.insts.l j+1) q x:=by
     unfold U5;rw[hu]
    rw[lO,e1];obtain⟨A7,kp',q1⟩:=ih (q+1) (places.set q (out.length:Int)) (bh++[m]) (out++[U5 e.span.qB e.span.to e.text.length (pC sd) (qm s.insts.l j+1) q x]) g2 o? (by simpa using cp) (fun p hp hs=>by
     rw[zl]
     by_cases c:q=p
     ·subst c
      rw[if_pos ⟨rfl,o?⟩,lN]
     rw[if_neg o?]
     exact Tx p o? hs) (by rw[hplq];simp[lN]) v? v?
    exact⟨A7,kp',by rw[q1];simp⟩
   have Lz:=Uc ⟨e,D,b4,b5⟩ n he x.span o? o? o? (pC sd (qm s.insts.l j+1+q));simp only at Lz;by_cases c2:0<=x.up
   ·obtain⟨p,hp⟩: ∃p:Nat,x.up=p:=⟨x.up.toNat,o?⟩;have Vp:=cx X.row X.hold X.side (r:=qm s.insts.l j+1+q) (by simpa using f0) c1 (p:=qm s.insts.l j+1+p) o?;have hpp:=Tx p o? Vp;have QR:(if 0<=x.up then((aA (pC sd) (qm s.insts.l j+1) x.up.toNat:Nat):Int)else x.up)=((aA (pC sd) (qm s.insts.l j+1) p:Nat):Int):=by rw[if_pos c2,show x.up.toNat=p by omega]
    have hgp:qh (places.set q (out.length:Int)) (p:Int)=some ((aA (pC sd) (qm s.insts.l j+1) p:Nat):Int):=gi (by rw[zl,if_neg o?];exact hpp);rw[if_pos (by simpa using c2),hp,hgp,Lz,gi hmv];simp only[qS,ko,if_false];split<;>(rw [if_pos qA,if_pos qA];exact o4 _ _ QR)
   have QR:(if 0<=x.up then((aA (pC sd) (qm s.insts.l j+1) x.up.toNat:Nat):Int)else x.up)=x.up:=by rw[if_neg c2]
   rw[if_neg (by simpa using c2),Lz,gi hmv];simp only[qS,ko,if_false];split<;>(rw [if_pos qA,if_pos qA];exact o4 _ _ QR)
 have h0:=hd.2 0 o?;rw[M?]at h0;have hrg:=hmi.Qr;unfold yv;rw[show qh d (0:Int)=_ from gi (k:=0) h0];simp only[zF,qS];have Lz:=Uc ⟨e,D,b4,b5⟩ n he i.span hrg.1 hrg.2.1 hrg.2.2 (pC sd (qm s.insts.l j));simp only at Lz;rw[Lz];simp only[qS];rw[if_pos o?,if_pos (qA v? o?)];simp only[d?];obtain⟨A7,kp',q1⟩:=loop (qj.mk ⟨0,0⟩ ⟨true,[]⟩) (Xa e.span.qB e.span.to e.text.length (pC sd (qm s.insts.l j)) i.span).qB (Xa e.span.qB e.span.to e.text.length (pC sd (qm s.insts.l j)) i.span).to i.stops.l 0 (b? i.stops.l.length 0) [] [] rfl o? z? (fun p hp=>o?) (by simp[aA]) z? z?;rw[show ((0:Nat):Int)=0 from rfl]at q1;rw[q1];exact⟨_,rfl⟩
theorem Ab(X:Sv e n s true a k L h sd last o)(he:kM e n)(hm:mm s.insts.l n)(cG:xH s)(hc: ∀i∈s.insts.l,∀ x∈i.stops.l,Yj x):uV s a k e=some ⟨s.cur,⟨(NI e sd 0 s.insts.l).isEmpty,NI e sd 0 s.insts.l⟩⟩:=by
 obtain⟨ms,b1,b2⟩:=A6 s cG hc;have X' :=nrm_X X;have EG:=nrm_may hm;have hsm' :=A4 cG;obtain⟨D,b4,b5,q1,q2⟩:=Ow X' EG hsm';have nK:=cG.1;have ml:ms.length=(sL s).insts.l.length:=by rw[b2.len];simp[sL]
 have loop: ∀(XZ:zh)(eg:zh)(oc:Int),XZ.marks.l=ms-> ∀(r:List qj)(q:Nat)(out:List qj)(mk:List (Sl qN)),(sL s).insts.l.drop q=r->out.length<=q->mk.length<=q->
   ∃m',xr (false,(sL s).insts,((sL s).insts.l.length:Int),(q:Int),XZ,e,eg,⟨e,D,b4,b5⟩,oc,out,mk)=some (out++NI e sd (qm (sL s).insts.l q) r,m'):=by
  intro XZ eg oc hlv r;induction r with
  |nil=>
   intro q out mk h _ _;have:=ze h;rw[xr.eq_1,if_neg v?];exact⟨mk,by simp[vN]⟩
  |cons i r ih=>
   intro q out mk h ho hk;obtain⟨g1,g2,g3⟩:=zr h;obtain⟨d,d1,d2⟩:=q2.each q i g1;have hql:q<2^12+1:=by have:=hsm'.1;omega
   have h0:=d2.2 0 o?;rw[M?]at h0;obtain⟨f,hf⟩:=gl (l:=ms) (k:=q) o?;obtain⟨j,hj1,hj2⟩:=Kn g1;have QE:f.l.length=i.stops.l.length:=by rw[b2.each q j f hj1 hf,hj2];rfl
   obtain⟨m,hm1⟩:=inst_ok X' he EG hsm' g1 d2 f QE D b4 b5;have hbase:qm (sL s).insts.l (q+1)=qm (sL s).insts.l q+1+i.stops.l.length:=by
    unfold qm;rw[List.take_succ_eq_append_getElem o?,List.map_append,List.sum_append];have:(sL s).insts.l[q]=i:=(qF g1).2;simp[this];omega
   rw[xr.eq_1,if_pos v?,gi g1];simp only[zF,qS];rw[show qh D.l (q:Int)=_ from gi d1];simp only[qS];rw[show qh d (0:Int)=_ from gi (k:=0) h0,hlv,ws o?];simp only[qS];by_cases c1:pC sd (qm (sL s).insts.l q)=1
   ·rw[if_neg (by rw[c1];simp)];obtain⟨m',k1⟩:=ih (q+1) out mk g2 o? o?;refine⟨m', ?_⟩;rw[k1,hbase];have e1:NI e sd (qm (sL s).insts.l q) (i::r)=NI e sd (qm (sL s).insts.l q+1+i.stops.l.length) r:=by
     show vN _ _ _ _ _ (i::r)=_;rw[vN,if_pos c1]
    rw[e1]
   rw[if_pos (by rw[bne_iff_ne];omega),gi hf];simp only[qS];rw[hm1];simp only[qS];rw[if_pos qA,if_pos qA];obtain⟨m',k1⟩:=ih (q+1) (out++[l9 e.span.qB e.span.to e.text.length (pC sd) (qm (sL s).insts.l q) i]) (mk++[m]) g2 v? v?;refine⟨m', ?_⟩;rw[k1,hbase];have e1:NI e sd (qm (sL s).insts.l q) (i::r)=l9 e.span.qB e.span.to e.text.length (pC sd) (qm (sL s).insts.l q) i::NI e sd (qm (sL s).insts.l q+1+i.stops.l.length) r:=by
    show vN _ _ _ _ _ (i::r)=_;rw[vN,if_neg c1]
   rw[e1];simp
 have b1' :pt s=some ⟨sL s,⟨ms.isEmpty,ms⟩⟩:=b1;unfold uV uS;rw[b1'];simp only[zF,qS];rw[q1];simp only[qS];obtain⟨m',k1⟩:=loop ⟨sL s,⟨ms.isEmpty,ms⟩⟩ ⟨⟨0,⟨true,[]⟩⟩,⟨true,[]⟩⟩ (sL s).cur rfl (sL s).insts.l 0 [] [] rfl z? z?;have Xv:qm (sL s).insts.l 0=0:=by simp[qm]
 have hni:NI e sd 0 (sL s).insts.l=NI e sd 0 s.insts.l:=Cl _ _ _ _ _ _;rw[Xv,hni,show((0:Nat):Int)=0 from rfl]at k1;rw[k1];rfl
end
theorem shift_eq(e:ql)(n:Int)(he:kM e n)(s:qb)(hs:xH s)(hm:mm s.insts.l n)(qp:qn)(Tp:zY e.span qp)(a k:Int)(ho:(a= -1/\k= -1)\/JM s qp a k\/ ∃(a' k' :Nat)(i:qj)(x:qq),a=a' /\k=k' /\s.insts.l[a']? =some i/\i.stops.l[k']? =some x/\zY e.span x.span)(fl:Sl (Sl Int))(QE:sA s.insts.l fl)(hc: ∀i∈s.insts.l,∀ x∈i.stops.l,Yj x):
  ∃s' flags L h sd last o,wq s a k e true false fl=some (s',fl,flags)/\uV s a k e=some s' /\Sv e n s true a k L h sd last o/\s' =⟨s.cur,⟨(NI e sd 0 s.insts.l).isEmpty,NI e sd 0 s.insts.l⟩⟩:=by obtain⟨L,h,sd,last,o,flags,h1,X,_⟩:=MB e n he false s hs hm true qp Tp a k ho fl QE;exact⟨_,flags,L,h,sd,last,o,h1,Ab X he hm hs hc,X,rfl⟩
end Xr
namespace Xr
def cK(a b:qn):Prop:=a.qB<b.qB\/a.qB=b.qB/\a.to<b.to
instance(a b:qn):Decidable (cK a b):=by unfold cK;infer_instance
theorem Hy(a b:qn):sX a b=some (decide (cK a b)):=by unfold sX cK;by_cases h:a.qB<b.qB;simp[h];by_cases h2:a.qB=b.qB<;>simp[h,h2]
section
variable {α:Type} (key:α->qn)
def pos(x:α)(s:List α):Nat->Nat
 |0=>0
 |k+1=>match s[k]? with
  |some y=>if cK (key x) (key y)then pos x s k else k+1
  |none=>k+1
def sI(s:List α)(x:α):List α:=s.take (pos key x s s.length)++x::s.drop (pos key x s s.length)
def jg(s r:List α):List α:=r.foldl (sI key) s
theorem HU(x:α)(s:List α): ∀k,pos key x s k<=k:=by intro k;induction k with|zero=>simp[pos]|succ k ih=>rw[pos];split;split<;>omega;omega
def Pd(a b:α):Prop:= ¬cK (key b) (key a)
theorem pos_spec(x:α)(s:List α): ∀k,k<=s.length->(∀ j y,pos key x s k<=j->j<k->s[j]? =some y->cK (key x) (key y))/\(∀ y,0<pos key x s k->s[pos key x s k-1]? =some y-> ¬cK (key x) (key y)):=by intro k;induction k with|zero=>intro _;exact⟨fun j y h1 h2=>o?,fun y h=>by simp[pos]at h⟩|succ k ih=>intro hk;obtain⟨y,hy⟩:=gl (l:=s) (k:=k) o?;rw[pos,hy];simp only;split;rename_i c;obtain⟨h1,h2⟩:=ih o?;refine⟨fun j z hj Vq hz=>?_,h2⟩;by_cases e:j=k;subst e;rw[hy]at hz;cases hz;exact c;exact h1 j z hj o? hz;rename_i c;refine⟨fun j z hj Vq=>o?,fun z _ hz=>?_⟩;rw[Nat.add_sub_cancel,hy]at hz;cases hz;exact c
theorem YF(s:List α)(x:α):(sI key s x).Perm (s++[x]):=by unfold sI;refine(List.perm_middle).trans ?_;rw[List.take_append_drop];exact(List.perm_append_singleton x s).symm
theorem re: ∀(r s:List α),(jg key s r).Perm (s++r):=by intro r;induction r with|nil=>intro s;simp[jg]|cons x r ih=>intro s;have:=ih (sI key s x);simp only[jg,List.foldl_cons]at this |-;refine this.trans ?_;have h1:=(YF key s x).append_right r;simpa using h1
theorem YM{a b c:α}(h1:Pd key a b)(h2:Pd key b c):Pd key a c:=by unfold Pd cK at*;omega
theorem Nm{s:List α}(x:α)(h:s.Pairwise (Pd key)):(sI key s x).Pairwise (Pd key):=by
 obtain⟨h1,h2⟩:=pos_spec key x s s.length (jx _);have hp:=HU key x s s.length;unfold sI;generalize pos key x s s.length=p at*;have ht: ∀a∈s.take p,Pd key a x:=by intro a ha;by_cases hp0:0<p;(obtain⟨y,hy⟩:=gl (l:=s) (k:=p-1) o?;have hyx:=h2 y hp0 hy;obtain⟨j,hj⟩:=kb ha;have hjp:j<p:=by have:=(qF hj).1;simp at this;omega);rw[List.getElem?_take_of_lt hjp]at hj;by_cases e:j=p-1;subst e;rw[hy]at hj;cases hj;exact hyx;have:=List.pairwise_iff_getElem.1 h j (p-1) o? o? o?;rw[wu o?]at hj hy;cases hj;cases hy;exact YM key this hyx;have:p=0:=o?;subst this;simp at ha
 have hd: ∀b∈s.drop p,Pd key x b:=by intro b hb;obtain⟨j,hj⟩:=kb hb;rw[List.getElem?_drop]at hj;have:=h1 (p+j) b o? (qF hj).1 hj;unfold Pd;unfold cK at*;omega
 rw[o!];refine⟨h.sublist (List.take_sublist _ _),J!.2 ⟨hd,h.sublist (List.drop_sublist _ _)⟩,fun a ha b hb=>?_⟩;rcases U?.1 hb with rfl|hb;exact ht a ha;exact YM key (ht a ha) (hd b hb)
theorem VX: ∀(r s:List α),s.Pairwise (Pd key)->(jg key s r).Pairwise (Pd key):=by intro r;induction r with|nil=>intro s h;exact h|cons x r ih=>intro s h;exact ih _ (Nm key x h)
theorem LX(s:List α)(x:α)(h: ∀y∈s,¬ cK (key x) (key y)):sI key s x=s++[x]:=by
 have:pos key x s s.length=s.length:=by cases hs:s.length with|zero=>simp[pos]|succ k=>obtain⟨y,hy⟩:=gl (l:=s) (k:=k) o?;rw[pos,hy];simp only;rw[if_neg (h y (z6 hy))]
 unfold sI;rw[this];simp
theorem YG: ∀(r s:List α),(s++r).Pairwise (Pd key)->jg key s r=s++r:=by intro r;induction r with|nil=>intro s _;simp[jg]|cons x r ih=>intro s h;have h1: ∀y∈s,¬ cK (key x) (key y):=fun y hy=>(o!.1 h).2.2 y hy x z?;show jg key (sI key s x) r=_;rw[LX key s x h1,ih (s++[x]) (by simpa using h)];simp
end
def uK(s:qy):qn:=⟨if s.head<s.anchor then s.head else s.anchor,if s.head>s.anchor then s.head else s.anchor⟩
theorem JH(s:qy):yX s=some (uK s):=rfl
theorem eJ(s:qy):(uK s).qB<=(uK s).to:=by unfold uK;simp only;split<;>split<;>omega
theorem q0q(l s:Sl qy)(i:Nat)(x:qy)(hx:l.l[i]? =some x): ∀k,k<=s.l.length->k<2^60->gU (l,s,(i:Int),(k:Int))=some ((pos uK x s.l k:Nat):Int):=by intro k;induction k with|zero=>intro _ _;rw[gU.eq_1,if_neg z?];rfl|succ k ih=>intro hk hb;obtain⟨y,hy⟩:=gl (l:=s.l) (k:=k) o?;rw[gU.eq_1,if_pos (by simp<;>omega),gi hx,show q?.wrap (((k+1:Nat):Int)-1)=(k:Int)from by rw[qH o? o?];omega,gi hy,pos,hy];simp only[zF,qS,JH,Hy];by_cases c:cK (uK x) (uK y);rw[if_pos (by simpa using c),if_pos c];exact ih o? o?;rw[if_neg (by simpa using c),if_neg c]
theorem sort6_L2(l s:Sl ql)(i:Nat)(x:ql)(hx:l.l[i]? =some x): ∀k,k<=s.l.length->k<2^60->ny (l,s,(i:Int),(k:Int))=some ((pos (·.span) x s.l k:Nat):Int):=by intro k;induction k with|zero=>intro _ _;rw[ny.eq_1,if_neg z?];rfl|succ k ih=>intro hk hb;obtain⟨y,hy⟩:=gl (l:=s.l) (k:=k) o?;rw[ny.eq_1,if_pos (by simp<;>omega),gi hx,show q?.wrap (((k+1:Nat):Int)-1)=(k:Int)from by rw[qH o? o?];omega,gi hy,pos,hy];simp only[zF,qS,Hy];by_cases c:cK x.span y.span;rw[if_pos (by simpa using c),if_pos c];exact ih o? o?;rw[if_neg (by simpa using c),if_neg c]
theorem sort5_L2(l s:Sl qn)(i:Nat)(x:qn)(hx:l.l[i]? =some x): ∀k,k<=s.l.length->k<2^60->nv (l,s,(i:Int),(k:Int))=some ((pos id x s.l k:Nat):Int):=by intro k;induction k with|zero=>intro _ _;rw[nv.eq_1,if_neg z?];rfl|succ k ih=>intro hk hb;obtain⟨y,hy⟩:=gl (l:=s.l) (k:=k) o?;rw[nv.eq_1,if_pos (by simp<;>omega),gi hx,show q?.wrap (((k+1:Nat):Int)-1)=(k:Int)from by rw[qH o? o?];omega,gi hy,pos,hy];simp only[zF,qS,Hy];by_cases c:cK (id x) (id y);rw[if_pos (by simpa using c),if_pos c];exact ih o? o?;rw[if_neg (by simpa using c),if_neg c]
theorem JT{α:Type}(s:List α)(p:Nat)(h:p<=s.length):kF s (p:Int)=some (s.take p):=by obtain⟨r,h1,h2,_⟩:=qJ.kF (l:=s) (hi:=(p:Int)) o? o?;rw[h1,h2,d?]
theorem OR{α:Type}(s:List α)(p:Nat)(h:p<=s.length):bH s (p:Int)=some (s.drop p):=by obtain⟨r,h1,h2,_⟩:=qJ.bH (l:=s) (lo:=(p:Int)) o? o?;rw[h1,h2,d?]
theorem Wq{α:Type}(key:α->qn)(s:List α)(x:α):(sI key s x).length=s.length+1:=by simpa using(YF key s x).length_eq
theorem q0p(l:Sl qy): ∀(r:List qy)(i:Nat)(s:Sl qy),l.l.drop i=r->s.l.length+r.length<=2^20->l.l.length<=2^20->(s.nil=s.l.isEmpty)->
  gT (l,s,(i:Int))=some ⟨(jg uK s.l r).isEmpty,jg uK s.l r⟩:=by
 intro r;induction r with
 |nil=>
  intro i s h _ _ hn;have:=ze h;rw[gT.eq_1,if_neg v?];show some s=some ⟨s.l.isEmpty,s.l⟩;rw[<- hn]
 |cons x r ih=>
  intro i s h hb hl hn;obtain⟨h1,h2,h3⟩:=zr h;simp only[h?]at hb;have hp:=HU uK x s.l s.l.length;rw[gT.eq_1,if_pos v?,q0q l s i x h1 s.l.length (jx _) o?];simp only[zF,qS];rw[JT _ _ hp];simp only[qS];rw[if_pos (qA v? o?),gi h1];simp only[qS];rw[if_pos (qA v? o?),OR _ _ hp];simp only[qS];rw[if_pos (qA v? o?),ws o?];have e:s.l.take (pos uK x s.l s.l.length)++[x]++s.l.drop (pos uK x s.l s.l.length)=sI uK s.l x:=by simp[sI]
  rw[e];have:=Wq uK s.l x;exact ih (i+1) ⟨false,sI uK s.l x⟩ h2 u? hl (by cases h7:sI uK s.l x with
   |nil=>rw[h7]at this;simp at this
   |cons _ _=>rfl)
theorem sort6_L0(l:Sl ql): ∀(r:List ql)(i:Nat)(s:Sl ql),l.l.drop i=r->s.l.length+r.length<=2^20->l.l.length<=2^20->(s.nil=s.l.isEmpty)->
  nw (l,s,(i:Int))=some ⟨(jg (·.span) s.l r).isEmpty,jg (·.span) s.l r⟩:=by
 intro r;induction r with
 |nil=>
  intro i s h _ _ hn;have:=ze h;rw[nw.eq_1,if_neg v?];show some s=some ⟨s.l.isEmpty,s.l⟩;rw[<- hn]
 |cons x r ih=>
  intro i s h hb hl hn;obtain⟨h1,h2,h3⟩:=zr h;simp only[h?]at hb;have hp:=HU (·.span) x s.l s.l.length;rw[nw.eq_1,if_pos v?,sort6_L2 l s i x h1 s.l.length (jx _) o?];simp only[zF,qS];rw[JT _ _ hp];simp only[qS];rw[if_pos (qA v? o?),gi h1];simp only[qS];rw[if_pos (qA v? o?),OR _ _ hp];simp only[qS];rw[if_pos (qA v? o?),ws o?];have e:s.l.take (pos (·.span) x s.l s.l.length)++[x]++s.l.drop (pos (·.span) x s.l s.l.length)=sI (·.span) s.l x:=by simp[sI]
  rw[e];have:=Wq (·.span) s.l x;exact ih (i+1) ⟨false,sI (·.span) s.l x⟩ h2 u? hl (by cases h7:sI (·.span) s.l x with
   |nil=>rw[h7]at this;simp at this
   |cons _ _=>rfl)
theorem sort5_L0(l:Sl qn): ∀(r:List qn)(i:Nat)(s:Sl qn),l.l.drop i=r->s.l.length+r.length<=2^20->l.l.length<=2^20->(s.nil=s.l.isEmpty)->
  nu (l,s,(i:Int))=some ⟨(jg id s.l r).isEmpty,jg id s.l r⟩:=by
 intro r;induction r with
 |nil=>
  intro i s h _ _ hn;have:=ze h;rw[nu.eq_1,if_neg v?];show some s=some ⟨s.l.isEmpty,s.l⟩;rw[<- hn]
 |cons x r ih=>
  intro i s h hb hl hn;obtain⟨h1,h2,h3⟩:=zr h;simp only[h?]at hb;have hp:=HU id x s.l s.l.length;rw[nu.eq_1,if_pos v?,sort5_L2 l s i x h1 s.l.length (jx _) o?];simp only[zF,qS];rw[JT _ _ hp];simp only[qS];rw[if_pos (qA v? o?),gi h1];simp only[qS];rw[if_pos (qA v? o?),OR _ _ hp];simp only[qS];rw[if_pos (qA v? o?),ws o?];have e:s.l.take (pos id x s.l s.l.length)++[x]++s.l.drop (pos id x s.l s.l.length)=sI id s.l x:=by simp[sI]
  rw[e];have:=Wq id s.l x;exact ih (i+1) ⟨false,sI id s.l x⟩ h2 u? hl (by cases h7:sI id s.l x with
   |nil=>rw[h7]at this;simp at this
   |cons _ _=>rfl)
theorem MH(l:Sl ql)(hl:l.l.length<=2^20):dU l=some ⟨(jg (·.span) [] l.l).isEmpty,jg (·.span) [] l.l⟩:=by unfold dU;rw[show (0:Int)=((0:Nat):Int)from rfl,sort6_L0 l l.l 0 ⟨true,[]⟩ rfl (by simpa using hl) hl rfl];rfl
theorem MG(l:Sl qn)(hl:l.l.length<=2^20):dS l=some ⟨(jg id [] l.l).isEmpty,jg id [] l.l⟩:=by unfold dS;rw[show (0:Int)=((0:Nat):Int)from rfl,sort5_L0 l l.l 0 ⟨true,[]⟩ rfl (by simpa using hl) hl rfl];rfl
end Xr
namespace Xr
def QY(a b:qn):Prop:=(if b.qB>a.qB then b.qB else a.qB)<=(if b.to<a.to then b.to else a.to)
instance(a b:qn):Decidable (QY a b):=by unfold QY;infer_instance
def join(y x:qy):qy:=if y.head<y.anchor then⟨if (uK x).to>(uK y).to then(uK x).to else(uK y).to,(uK y).qB⟩else⟨(uK y).qB,if(uK x).to>(uK y).to then(uK x).to else(uK y).to⟩
theorem join_sp(y x:qy):uK (join y x)=⟨(uK y).qB,if(uK x).to>(uK y).to then(uK x).to else(uK y).to⟩:=by
 have hy:=eJ y;have hx:=eJ x;generalize hY:uK y=Y at*;generalize hX:uK x=X at*;unfold join;rw[hY,hX];have hM:Y.qB<=(if X.to>Y.to then X.to else Y.to):=by split<;>omega
 generalize (if X.to>Y.to then X.to else Y.to)=M at*;unfold uK;by_cases c:y.head<y.anchor;rw[if_pos c];simp only[qn.mk.injEq];constructor;split<;>omega;split<;>omega;rw[if_neg c];simp only[qn.mk.injEq];constructor;split<;>omega;split<;>omega
def l8(out:List qy)(x:qy):List qy:=
 match out.getLast? with
 |some y=>if QY (uK y) (uK x)then out.set (out.length-1) (join y x)else out++[x]
 |none=>out++[x]
def Ci(out r:List qy):List qy:=r.foldl l8 out
theorem NP(out:List qy)(x:qy):(l8 out x).length<=out.length+1/\1<=(l8 out x).length:=by unfold l8;split;(rename_i y hy;have:out≠[]:=fun c=>by rw[c]at hy;simp at hy);have:=q!.2 this;split<;>simp<;>omega;simp
theorem q0r(s:Sl qy)(hs:s.l.length<=2^20): ∀(r:List qy)(i:Nat)(out:List qy),s.l.drop i=r->out.length<=i->vg (s,(i:Int),out)=some (Ci out r):=by intro r;induction r with|nil=>intro i out h _;have:=ze h;rw[vg.eq_1,if_neg v?];rfl|cons x r ih=>intro i out h ho;obtain⟨h1,h2,h3⟩:=zr h;rw[vg.eq_1,if_pos v?];have step:=ih (i+1) (l8 out x) h2 (by have:=NP out x;omega);show _=some (Ci (l8 out x) r);rw[ws o?,<- step];by_cases c:0<out.length;(obtain⟨y,hy⟩:=gl (l:=out) (k:=out.length-1) o?;have hl:out.getLast? =some y:=by rw[List.getLast?_eq_getElem?];exact hy);rw[if_pos v?,show q?.wrap ((out.length:Int)-1)=((out.length-1:Nat):Int)from by rw[qH o? o?];omega,gi hy,gi h1];simp only[zF,qS,JH,sY,d?];unfold l8;rw[hl];simp only;by_cases t:QY (uK y) (uK x);have t' :=t;unfold QY at t';rw[if_pos (by simpa using t'),if_pos t];unfold Kp join;by_cases d:y.head<y.anchor<;>simp[d];have t' :=t;unfold QY at t';rw[if_neg (by simpa using t'),if_neg t,if_pos qA];have e:out=[]:=N_ o?;subst e;rw[if_neg z?,gi h1];simp only[zF,qS];rw[if_pos (qA z? o?)];rfl
def mo(l:List qy):List qy:=Ci [] (jg uK [] l)
theorem NJ(l:Sl qy)(hl:l.l.length<=2^19):sZ l=some ⟨(mo l.l).isEmpty,mo l.l⟩:=by have h1:=(re uK l.l []).length_eq;unfold sZ;rw[show (0:Int)=((0:Nat):Int)from rfl,q0p l l.l 0 ⟨true,[]⟩ rfl v? o? rfl];simp only[zF,qS];rw[q0r _ (by simp only[F?]at h1 |-; omega) (jg uK [] l.l) 0 [] rfl z?];rfl
def Sq(l:List qy):Prop:=l.Pairwise fun a b=>(uK a).to<(uK b).qB
def Wp(n:Int)(l:List qy):Prop:= ∀x∈l,0<=(uK x).qB/\(uK x).to<=n
theorem mrg_apt(n:Int): ∀(r out:List qy),Sq out->Wp n out->r.Pairwise (Pd uK)->(∀ y∈out,∀ x∈r,(uK y).qB<=(uK x).qB)->Wp n r->Sq (Ci out r)/\Wp n (Ci out r):=by intro r;induction r with|nil=>intro out h1 h2 _ _ _;exact⟨h1,h2⟩|cons x r ih=>(intro out h1 h2 h3 h4 h5;obtain⟨h6,h7⟩:=J!.1 h3;have hxn:=h5 x z?;have hr:Wp n r:=fun z hz=>h5 z (by simp[hz]);have hxr: ∀z∈r,(uK x).qB<=(uK z).qB:=fun z hz=>by have:=h6 z hz;unfold Pd cK at this;omega);(have hxx:=eJ x;show Sq (Ci (l8 out x) r)/\_;have key:Sq (l8 out x)/\Wp n (l8 out x)/\ ∀y∈l8 out x,∀ z∈r,(uK y).qB<=(uK z).qB:=by unfold l8;cases hl:out.getLast? with|none=>have:out=[]:=List.getLast?_eq_none_iff.1 hl;subst this;refine⟨by simp[Sq],fun z hz=>?_,fun y hy z hz=>?_⟩;simp only[F?,a?]at hz;subst hz;exact hxn;simp only[F?,a?]at hy;subst hy;exact hxr z hz|some y=>(obtain⟨init,rfl⟩: ∃init,out=init++[y]:=by (have jz:out≠[]:=fun c=>by rw[c]at hl;simp at hl);rcases List.eq_nil_or_concat out with h|⟨i0,y0,h⟩;exact absurd h jz;refine⟨i0, ?_⟩;rw[h]at hl |-;simp at hl;subst hl;simp);have hy1:(uK y).qB<=(uK x).qB:=h4 y z? x z?;have hyn:=h2 y z?;have hyy:=eJ y;obtain⟨a1,_,a3⟩:=o!.1 h1;simp only;by_cases t:QY (uK y) (uK x);(rw[if_pos t];have e:(init++[y]).set ((init++[y]).length-1) (join y x)=init++[join y x]:=z?;rw[e];have hj:=join_sp y x;have hjf:(uK (join y x)).qB=(uK y).qB:=by rw[hj]);(have hjt:(uK (join y x)).to<=n:=by rw[hj];simp only;split<;>omega);refine⟨o!.2 ⟨a1,z?,fun a ha b hb=>?_⟩,fun z hz=>?_,fun z hz w hw=>?_⟩;simp only[a?]at hb;subst hb;rw[hjf];exact a3 a ha y z?;rcases m?.1 hz with hz|hz;exact h2 z (by simp[hz]);simp only[a?]at hz;subst hz;omega;rcases m?.1 hz with hz|hz;exact h4 z (by simp[hz]) w (by simp[hw]);simp only[a?]at hz;subst hz;have:=hxr w hw;omega;(rw[if_neg t];have hyx:(uK y).to<(uK x).qB:=by unfold QY at t;split at t<;>split at t<;>omega);refine⟨o!.2 ⟨h1,z?,fun a ha b hb=>?_⟩,fun z hz=>?_,fun z hz w hw=>?_⟩;simp only[a?]at hb;subst hb;rcases m?.1 ha with ha|ha;have:=a3 a ha y z?;omega;simp only[a?]at ha;subst ha;exact hyx;rcases m?.1 hz with hz|hz;exact h2 z hz;simp only[a?]at hz;subst hz;exact hxn;rcases m?.1 hz with hz|hz;exact h4 z hz w (by simp[hw]);simp only[a?]at hz;subst hz;exact hxr w hw);exact ih (l8 out x) key.1 key.2.1 h7 key.2.2 hr
theorem mrg_len: ∀(r out:List qy),(Ci out r).length<=out.length+r.length/\((out≠[]\/r≠[])->Ci out r≠[]):=by intro r;induction r with|nil=>intro out;exact⟨by simp[Ci],fun h=>by simpa[Ci]using h⟩|cons x r ih=>intro out;have h1:=NP out x;obtain⟨h2,h3⟩:=ih (l8 out x);refine⟨?_,fun _=>h3 (.inl fun c=>by rw[c]at h1;simp at h1)⟩;show(Ci (l8 out x) r).length<=_;simp only[h?];omega
theorem Zk(n:Int)(l:List qy)(h:Wp n l):Sq (mo l)/\Wp n (mo l):=by have hp:=re uK l [];refine mrg_apt n _ [] (by simp[Sq]) (fun x hx=>by simp at hx) (VX uK l [] z?) (fun y hy=>by simp at hy) fun x hx=>?_;exact h x (by simpa using hp.mem_iff.1 hx)
theorem WA(l:List qy):(mo l).length<=l.length/\(l≠[]->mo l≠[]):=by have hp:=(re uK l []).length_eq;simp only[F?]at hp;obtain⟨h1,h2⟩:=mrg_len (jg uK [] l) [];refine⟨by unfold mo;simp only[e?]at h1;omega,fun h=>h2 (.inr fun c=>?_)⟩;rw[c]at hp;exact h (N_ (by simpa using hp.symm))
theorem mrg_id: ∀(r out:List qy),Sq (out++r)->Ci out r=out++r:=by intro r;induction r with|nil=>intro out _;simp[Ci]|cons x r ih=>(intro out h;have e:l8 out x=out++[x]:=by unfold l8;cases hl:out.getLast? with|none=>rfl|some y=>have hy:y∈out:=List.mem_of_getLast? hl;have h1:=(o!.1 h).2.2 y hy x z?;have:=eJ y;have:=eJ x;simp only;rw[if_neg];unfold QY;split<;>split<;>omega);show Ci (l8 out x) r=_;rw[e,ih (out++[x]) (by simpa using h)];simp
theorem YU(l:List qy)(h:Sq l):mo l=l:=by
 have h1:l.Pairwise (Pd uK):=h.imp fun{a b} eL=>by have:=eJ a;have:=eJ b;unfold Pd cK;omega
 unfold mo;rw[YG uK l [] (by simpa using h1)];simp only[F?];rw[mrg_id l [] (by simpa using h)];simp
theorem norm_L0(n:Int)(l:Sl qy)(hl:l.l.length<2^60): ∀(r:List qy)(i:Nat),l.l.drop i=r-> ∃v,nB (n,l,(i:Int))=some v/\((v= .inl (⟨true,[]⟩,3)/\ ¬Wp n r)\/(v= .inr ()/\Wp n r)):=by intro r;induction r with|nil=>intro i h;have:=ze h;rw[nB.eq_1,if_neg v?];exact⟨_,rfl,.inr ⟨rfl,fun x hx=>by simp at hx⟩⟩|cons x r ih=>(intro i h;obtain⟨h1,h2,h3⟩:=zr h;have hx:=eJ x;rw[nB.eq_1,if_pos v?,gi h1,ws o?];simp only[zF,qS,JH];have hm:tw (uK x) n=some (decide (0<=(uK x).qB/\(uK x).to<=n)):=by unfold tw;by_cases c:0<=(uK x).qB;simp[c,hx];simp[c]);rw[hm];simp only[qS];by_cases c:0<=(uK x).qB/\(uK x).to<=n;rw[if_neg (by simpa using c)];obtain⟨v,g1,g2⟩:=ih (i+1) h2;refine⟨v,g1, ?_⟩;rcases g2 with ⟨g2,g3⟩|⟨g2,g3⟩;exact .inl ⟨g2,fun k=>g3 fun z hz=>k z (by simp[hz])⟩;refine .inr ⟨g2,fun z hz=>?_⟩;rcases U?.1 hz with rfl|hz;exact c;exact g3 z hz;rw[if_pos (by simp only[Bool.not_eq_true',decide_eq_false_iff_not];exact c)];exact⟨_,rfl,.inl ⟨rfl,fun k=>c (k x z?)⟩⟩
theorem Ck(n:Int)(l:Sl qy)(hl:l.l.length<2^60): ∃(q:Sl qy)(c:Int),bB n l=some (q,c)/\((c=0/\l.l≠[]/\l.l.length<=64/\Wp n l.l/\q=⟨(mo l.l).isEmpty,mo l.l⟩)\/(c≠0/\q=⟨true,[]⟩/\ ¬(l.l≠[]/\l.l.length<=64/\Wp n l.l))):=by unfold bB;by_cases c1:l.l=[];rw[if_pos (by simp[c1])];exact⟨_,_,rfl,.inr ⟨by decide,rfl,fun k=>k.1 c1⟩⟩;have hp:=q!.2 c1;rw[if_neg v?];by_cases c2:l.l.length<=64;rw[if_neg v?];obtain⟨v,g1,g2⟩:=norm_L0 n l hl l.l 0 rfl;rw[show ((0:Nat):Int)=0 from rfl]at g1;rw[g1];rcases g2 with ⟨rfl,g2⟩|⟨rfl,g2⟩;exact⟨_,_,rfl,.inr ⟨by decide,rfl,fun k=>g2 k.2.2⟩⟩;simp only[zF,qS,NJ l o?];exact⟨_,_,rfl,.inl ⟨rfl,c1,c2,g2,rfl⟩⟩;rw[if_pos v?];exact⟨_,_,rfl,.inr ⟨by decide,rfl,fun k=>c2 k.2.1⟩⟩
end Xr
namespace Xr
structure Sy (P:qq->Prop) (b:qa) (q:Sl qy) (ss:List qb) (fl:Sl (Sl (Sl Int))):Prop where
 blen:b.length<=2^39
 ne:q.l≠[]
 Y1:q.l.length<=64
 SD:Sq q.l
 Kj:Wp b.length q.l
 du:ss.length<=16
 small: ∀s∈ss,xH s
 may: ∀s∈ss,mm s.insts.l b.length
 W8:fl.l.length=ss.length
 fnn:ss≠[]->fl.nil=false
 each: ∀(i:Nat) s f,ss[i]? =some s->fl.l[i]? =some f->sA s.insts.l f
 stop: ∀s∈ss,∀ i∈s.insts.l,∀ x∈i.stops.l,P x
def Cored(P:qq->Prop):Prop:= ∀x y,core x=core y->P y->P x
def OwnE(e:ql)(s:qb)(a k:Int):Prop:=(a= -1/\k= -1)\/ ∃(a' k' :Nat)(i:qj)(x:qq),a=a' /\k=k' /\s.insts.l[a']? =some i/\i.stops.l[k']? =some x/\zY e.span x.span
theorem Qb(a:qn):zY a a:=⟨h! _,h! _⟩
theorem oO{a b c:qn}(h1:zY a b)(h2:zY b c):zY a c:=by unfold zY at *; omega
section
variable {e:ql} (mark:Bool) (w:qa) (w2:Sl qy) (ss:List qb) (fl:Sl (Sl (Sl Int)))
theorem lay_L0(top inst stop:Int)(hs:ss.length<=16): ∀(d i:Nat)(is ks:List Int),i+d=ss.length->is.length=ss.length->ks.length=ss.length->(∀ j,j<i->is[j]? =some (-1)/\ks[j]? =some (-1))->
  ∃Pb FU,kC (top,inst,stop,mark,(i:Int),w,w2,ss,fl,e,is,ks)=some (Pb,FU)/\Pb.length=ss.length/\FU.length=ss.length/\ ∀j,j<ss.length->Pb[j]? =some (-1)/\FU[j]? =some (-1):=by intro d;induction d with|zero=>intro i is ks h h1 h2 H;rw[kC.eq_1,if_neg v?];exact⟨is,ks,rfl,h1,h2,fun j hj=>H j o?⟩|succ d ih=>intro i is ks h h1 h2 H;obtain⟨x,hx⟩:=gl (l:=is) (k:=i) o?;obtain⟨y,hy⟩:=gl (l:=ks) (k:=i) o?;rw[kC.eq_1,if_pos v?,gi hx,gi hy,ws o?];simp only[zF,qS,d?];refine ih (i+1) _ _ o? (by simp[h1]) (by simp[h2]) fun j hj=>?_;rw[zl,zl];by_cases c:i=j;subst c;rw[if_pos ⟨rfl,o?⟩,if_pos ⟨rfl,o?⟩];exact⟨rfl,rfl⟩;rw[if_neg o?,if_neg o?];exact H j o?
def o9(e:ql)(ss:List qb)(is ks:List Int):Prop:=is.length=ss.length/\ks.length=ss.length/\ ∀(j:Nat) s,ss[j]? =some s-> ∃a k,is[j]? =some a/\ks[j]? =some k/\OwnE e s a k
theorem lay_L2(top:Int)(cG: ∀s∈ss,xH s)(Hn: ∀s∈ss,∃ n,mm s.insts.l n): ∀(k:Nat)(is ks:List Int)(qp:qn),k<=ss.length->k<2^60->zY e.span qp->o9 e ss is ks->
  ∃Pb FU at',jE (top,mark,(k:Int)-1,w,w2,ss,fl,e,is,ks,qp)=some (Pb,FU,at')/\o9 e ss Pb FU/\ ∀j,k<=j->Pb[j]? =is[j]? :=by intro k;induction k with|zero=>intro is ks qp _ _ _ H;rw[jE.eq_1,if_neg z?];exact⟨is,ks,qp,rfl,H,fun j _=>rfl⟩|succ k ih=>(intro is ks qp hk hb hw H;obtain⟨s,hs⟩:=gl (l:=ss) (k:=k) o?;have sG:=z6 hs;obtain⟨h1,h2,h3⟩:=H;obtain⟨x,hx⟩:=gl (l:=is) (k:=k) o?;obtain⟨y,hy⟩:=gl (l:=ks) (k:=k) o?;obtain⟨v,hv,hq⟩:=J9 s qp (cG s sG);rw[show ((k+1:Nat):Int)-1=(k:Int) by omega,jE.eq_1,if_pos z?,gi hs];simp only[zF,qS];rw[hv];simp only[qS];rw[gi hx,gi hy,show q?.wrap ((k:Int)-1)=(k:Int)-1 from qH o? o?];simp only[qS,d?];have upd: ∀a c:Int,OwnE e s a c->o9 e ss (is.set k a) (ks.set k c):=by intro a c hac;refine⟨by simp[h1],by simp[h2],fun j s' oQ=>?_⟩;rw[zl,zl];by_cases cc:k=j;subst cc;rw[hs]at oQ;cases oQ;rw[if_pos ⟨rfl,o?⟩,if_pos ⟨rfl,o?⟩];exact⟨a,c,rfl,rfl,hac⟩;rw[if_neg o?,if_neg o?];exact h3 j s' oQ);(have sm: ∀(L:List Int)(a:Int)(j:Nat),k+1<=j->(L.set k a)[j]? =L[j]? :=by intro L a j hj;rw[zl,if_neg o?]);rcases hq with rfl|⟨a',k',i,z,g1,g2,g3,g4,_,_,g5⟩;rw[if_neg z?];obtain⟨Pb,FU,at',q1,q2,q3⟩:=ih (is.set k (-1)) (ks.set k (-1)) qp o? o? hw (upd _ _ (.inl ⟨rfl,rfl⟩));exact⟨Pb,FU,at',q1,q2,fun j hj=>by rw[q3 j o?,sm _ _ j hj]⟩;obtain⟨va,vk⟩:=v;simp only at g1 g2 |-;subst g1 g2;rw[if_pos z?,gi g3];simp only[qS];obtain⟨n,hn⟩:=Hn s sG;have dK:=(hn.may a' i g3).inside k' z g4;have hz:zY e.span z.span:=oO hw g5;obtain⟨Pb,FU,at',q1,q2,q3⟩:=ih (is.set k (a' :Int)) (ks.set k (k' :Int)) i.span o? o? (oO hz ⟨dK.1,dK.2⟩) (upd _ _ (.inr ⟨a',k',i,z,rfl,rfl,g3,g4,hz⟩));exact⟨Pb,FU,at',q1,q2,fun j hj=>by rw[q3 j o?,sm _ _ j hj]⟩
structure Laid (e:ql) (n:Int) (aG:List qb) (is:List Int) (i:Nat) (ss:List qb) (fl:Sl (Sl (Sl Int))):Prop where
 len:ss.length=aG.length
 W8:fl.l.length=aG.length
 fnn:aG≠[]->fl.nil=false
 done: ∀(j:Nat) s,j<i->aG[j]? =some s-> ∃s' f a,ss[j]? =some s' /\fl.l[j]? =some f/\is[j]? =some a/\UK e n s a s' f
 todo: ∀(j:Nat) s,i<=j->aG[j]? =some s->ss[j]? =some s/\ ∃f,fl.l[j]? =some f/\sA s.insts.l f
theorem Nx(n:Int)(he:kM e n)(aG:List qb)(cG: ∀s∈aG,xH s)(Hn: ∀s∈aG,mm s.insts.l n)(is ks:List Int)(ho:o9 e aG is ks)(i:Nat)(hi:i<aG.length)(fl:Sl (Sl (Sl Int)))(ss:List qb)(H:Laid e n aG is i ss fl):
  ∃s a k f,ss[i]? =some s/\is[i]? =some a/\ks[i]? =some k/\fl.l[i]? =some f/\fl.nil=false/\ ∀deep mark,∃ s' g,wq s a k e deep mark f=some (s',f,g)/\Laid e n aG is (i+1) (ss.set i s') ⟨false,fl.l.set i ⟨g.nil,g.l⟩⟩:=by
 obtain⟨s,hs⟩:=gl (l:=aG) (k:=i) hi;have sG:=z6 hs;obtain⟨t1,f,t2,t3⟩:=H.todo i s (jx _) hs;obtain⟨a,k,o1,o2,o3⟩:=ho.2.2 i s hs;have jz:aG≠[]:=fun c=>by rw[c]at hi;simp at hi
 refine⟨s,a,k,f,t1,o1,o2,t2,H.fnn jz,fun deep mark=>?_⟩;obtain⟨s',g,g1,g2⟩:=shift_ok e n he mark s (cG s sG) (Hn s sG) deep e.span (Qb _) a k (by
  rcases o3 with o3|o3
  ·exact .inl o3
  exact .inr (.inr o3)) f t3
 refine⟨s',g,g1,⟨by simp[H.len],by simp[H.W8],fun _=>rfl, ?_, ?_⟩⟩;intro j s1 hj nK;by_cases c:i=j;subst c;rw[hs]at nK;cases nK;refine⟨s',g,a, ?_, ?_,o1,g2⟩;rw[zl,if_pos ⟨rfl,by rw[H.len];exact hi⟩];rw[zl,if_pos ⟨rfl,by rw[H.W8];exact hi⟩];obtain⟨s2,f2,a2,k1,k2,k3,k4⟩:=H.done j s1 o? nK;refine⟨s2,f2,a2, ?_, ?_,k3,k4⟩;rw[zl,if_neg o?];exact k1;rw[zl,if_neg o?];exact k2;intro j s1 hj nK;obtain⟨k1,f2,k2,k3⟩:=H.todo j s1 o? nK;refine⟨?_,f2, ?_,k3⟩;rw[zl,if_neg o?];exact k1;rw[zl,if_neg o?];exact k2
theorem lay_L4(n:Int)(he:kM e n)(aG:List qb)(hs16:aG.length<=16)(cG: ∀s∈aG,xH s)(Hn: ∀s∈aG,mm s.insts.l n)(is ks:List Int)(ho:o9 e aG is ks)(top:Int)(qp:qn): ∀(d i:Nat)(fl:Sl (Sl (Sl Int)))(ss:List qb),i+d=aG.length->Laid e n aG is i ss fl->
  ∃ss' H8,jF (top,mark,(i:Int),w,w2,ss,fl,e,is,ks,qp)=some (ss',H8)/\Laid e n aG is aG.length ss' H8:=by intro d;induction d with|zero=>intro i fl ss h H;have:=H.len;obtain rfl:i=aG.length:=o?;rw[jF.eq_1,if_neg v?];exact⟨ss,fl,rfl,H⟩|succ d ih=>intro i fl ss h H;have hl:=H.len;obtain⟨s,a,k,f,g1,g2,g3,g4,g5,g6⟩:=Nx n he aG cG Hn is ks ho i o? fl ss H;rw[jF.eq_1,if_pos v?,g5,if_neg z?,gi g4];simp only[zF,qS];rw[gi g1,gi g2,gi g3,ws o?];simp only[qS,d?];cases mark with|true=>obtain⟨s',g,q1,q2⟩:=g6 true true;rw[if_pos rfl,q1];exact ih (i+1) _ _ o? q2|false=>obtain⟨s',g,q1,q2⟩:=g6 ((i:Int) != top) false;rw[if_neg z?,q1];exact ih (i+1) _ _ o? q2
theorem lay_L42(n:Int)(he:kM e n)(aG:List qb)(hs16:aG.length<=16)(cG: ∀s∈aG,xH s)(Hn: ∀s∈aG,mm s.insts.l n)(is ks:List Int)(ho:o9 e aG is ks)(top:Int): ∀(d i:Nat)(fl:Sl (Sl (Sl Int)))(ss:List qb),i+d=aG.length->Laid e n aG is i ss fl->
  ∃ss' H8,jb (top,mark,(i:Int),w,w2,ss,fl,e,is,ks)=some (ss',H8)/\Laid e n aG is aG.length ss' H8:=by intro d;induction d with|zero=>intro i fl ss h H;have:=H.len;obtain rfl:i=aG.length:=o?;rw[jb.eq_1,if_neg v?];exact⟨ss,fl,rfl,H⟩|succ d ih=>intro i fl ss h H;have hl:=H.len;obtain⟨s,a,k,f,g1,g2,g3,g4,g5,g6⟩:=Nx n he aG cG Hn is ks ho i o? fl ss H;rw[jb.eq_1,if_pos v?,g5,if_neg z?,gi g4];simp only[zF,qS];rw[gi g1,gi g2,gi g3,ws o?];simp only[qS,d?];cases mark with|true=>obtain⟨s',g,q1,q2⟩:=g6 true true;rw[if_pos rfl,q1];exact ih (i+1) _ _ o? q2|false=>obtain⟨s',g,q1,q2⟩:=g6 ((i:Int) != top) false;rw[if_neg z?,q1];exact ih (i+1) _ _ o? q2
end
def QS(e:ql)(s:qy):qy:=⟨mv e.span.qB e.span.to e.text.length true s.anchor,mv e.span.qB e.span.to e.text.length true s.head⟩
theorem move6(e:ql)(n:Int)(he:kM e n)(p:Int)(h0:0<=p)(h1:p<=n):dT p true ⟨false,[e]⟩=some (mv e.span.qB e.span.to e.text.length true p):=by unfold dT;rw[MH _ z?,YG _ [e] [] z?];simp only[F?,zF,qS];rw[show q?.wrap ((([e]:List ql).length:Int)-1)=((0:Nat):Int) by(rw [show (([e]:List ql).length:Int)=1 from rfl];decide),pz.eq_1,if_pos z?,gi (l:=[e]) (k:=0) rfl];simp only[zF,qS,R8 e n he p h0 h1];rw[show q?.wrap (((0:Nat):Int)-1)= -1 by decide,pz.eq_1,if_neg z?];rfl
theorem q0w(e:ql)(n:Int)(he:kM e n)(p:Int)(h0:0<=p)(h1:p<=n):0<=mv e.span.qB e.span.to e.text.length true p/\mv e.span.qB e.span.to e.text.length true p<=n+(e.text.length-(e.span.to-e.span.qB)):=by have:=he.a0;have:=he.ab;have:=he.bn;unfold mv;split;omega;split;omega;simp only[if_true];omega
theorem Q5(s:qy):(uK s).qB<=s.anchor/\(uK s).qB<=s.head/\s.anchor<=(uK s).to/\s.head<=(uK s).to:=by unfold uK;simp only;refine⟨?_, ?_, ?_, ?_⟩<;>split<;>omega
theorem q0u(e:ql)(n:Int)(he:kM e n)(q:Sl qy)(hq:q.l.length<=2^19)(hn:Wp n q.l): ∀(r:List qy)(i:Nat)(out:List qy),q.l.drop i=r->out.length=i->nA (q,⟨false,[e]⟩,(i:Int),out)=some (out++r.map (QS e)):=by intro r;induction r with|nil=>intro i out h _;have:=ze h;rw[nA.eq_1,if_neg v?];simp|cons x r ih=>intro i out h ho;obtain⟨h1,h2,h3⟩:=zr h;have hx:=hn x (z6 h1);have hs:=Q5 x;rw[nA.eq_1,if_pos v?,gi h1,ws o?];simp only[zF,qS];rw[move6 e n he x.anchor o? o?,move6 e n he x.head o? o?];simp only[qS];rw[if_pos qA];have:=ih (i+1) (out++[QS e x]) h2 v?;rw[show qy.mk (mv e.span.qB e.span.to e.text.length true x.anchor) (mv e.span.qB e.span.to e.text.length true x.head)=QS e x from rfl,this];simp
theorem NM(e:ql)(n:Int)(he:kM e n)(q:Sl qy)(hq:q.l.length<=2^19)(hn:Wp n q.l):dV q [e]=some ⟨(mo (q.l.map (QS e))).isEmpty,mo (q.l.map (QS e))⟩/\Wp (n+(e.text.length-(e.span.to-e.span.qB))) (q.l.map (QS e)):=by constructor;unfold dV;rw[show (0:Int)=((0:Nat):Int)from rfl,q0u e n he q hq hn q.l 0 [] rfl rfl];simp only[zF,qS,F?];rw[NJ _ (by simpa using hq)];rfl;intro y hy;obtain⟨x,hx,rfl⟩:=N?.1 hy;have h1:=hn x hx;have h2:=Q5 x;have h3:=q0w e n he x.anchor o? o?;have h4:=q0w e n he x.head o? o?;unfold uK QS;simp only;constructor;split<;>omega;split<;>omega
end Xr
end Go.Proofs.YtnojdepmnnebnaaGreat
