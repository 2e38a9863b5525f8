/-
  FollowHolds: an edit that is owned: what its owner has, and all others.
-/
import Derived.Test.YtnojdepmnnebnaaGreatQap
import Derived.Test.YtnojdepmnnebnaaGreatQan
import Derived.Test.YtnojdepmnnebnaaGreatQae
open Bool renaming or_eq_true->z!,true_and->l_,not_eq_true->q1i,not_true->q1w
open Go.IntKind renaming i64->q?,u64->L!,signed->q13,wrap->q1f,bits->q1g
open Go.Proofs.YtnojdepmnnebnaaGreat.qJ renaming ite->C!,get->v_,mono->Z_,go->D_,zx->q17,bind->q18
open Int renaming natCast_zero->B_
open List renaming length_cons->h?,mem_append->m?,length_append->t?,getElem?_append_left->r?,map_cons->s?,getElem?_cons_zero->c?,mem_singleton->a?,getElem?_cons_succ->i?,getElem?_append_right->J?,getElem?_take_of_lt->V?,mem_cons->U?,mem_map->N?,nil_append->F?,length_pos_iff->q!,length_singleton->w!,sum_cons->y!,append_assoc->k_,drop_take->c_
open Nat renaming strongRecOn->p?,add_zero->M?,zero_add->P?,lt_or_gt_of_ne->z_
set_option linter.unusedSimpArgs false
set_option linter.unusedVariables false
set_option maxHeartbeats 1000000
namespace Go.Proofs.YtnojdepmnnebnaaGreat
open Go Go.Gm
namespace Xr
theorem H3{st:qv}(h:vj st)(k:Int):qJ (sa st k) (fun v=>v.2=0->vj v.1):=by
 have hl:=h.may.du;unfold sa;refine Wy h ?_;rw[if_neg z?];refine .ite (fun _=> .ret fun h0=>absurd h0 (by decide)) fun c=>?_;have jz:st.qo.l≠[]:=by intro e;rw[e]at c;simp at c
 have pZ:=q!.2 jz;rw[wi (n:=(st.qo.l.length:Int)-1),show(st.qo.l.length:Int)-1=((st.qo.l.length-1:Nat):Int)from o?];obtain⟨x,hx⟩:=gl (l:=st.qo.l) (k:=st.qo.l.length-1) o?;refine .go (gi hx) ?_;refine .bind (F2 h k _ x (z6 hx) _ x.insts.l 0 false [] rfl z? z? (by simp[wP])) fun v hv=>?_;refine .ite (fun _=> .ret fun h0=>absurd h0 (by decide)) fun _=>?_;refine .ite (fun _=> .ret fun h0=>absurd h0 (by decide)) fun _=>?_;have TA:v.2.length*17592186044416<=4096*17592186044416:=mulR _ hv.1;refine .bind (BX st h ⟨v.2.isEmpty,v.2⟩ (by have:=hv.1;simp only;omega) (by have:=hv.2;simp only;omega)) fun w hw=>?_;refine .ite (fun c2=> .ret fun h0=>absurd h0 (by simpa using c2)) fun c2=>?_;rcases hw with hw|⟨_,hw,hless⟩;exact absurd (by simpa using c2) hw;refine .ite (fun _=> .ret fun _=>hw) fun c3=>?_;have hlen:w.1.qo.l.length=st.qo.l.length:=by have:=hless.1;simp only[decide_eq_true_eq]at c3;omega
 refine .bind (Z8 hw x.cur (fun y hy Pa=>?_) (by intro e;rw[e]at hlen;simp at hlen;omega)) fun u hu=> .ret hu;obtain⟨s,s1,s2⟩:=hless.2 _ y Pa;rw[hlen,hx]at s1;cases s1;rw[<- s2];exact hw.JS y hy
structure UG (env:Sl qw):Prop where
 len:env.l.length<=64
 val: ∀p∈env.l,p.value.length<=65536
theorem SM(name:qa)(env:Sl qw)(h:UG env):qJ (yT name env) (fun v=>v.1.length<=65536):=by
 have hl:=h.len;have loop: ∀(d k:Nat),k+d=env.l.length->qJ (wZ (name,env,(k:Int))) (fun v=>match v with| .inl y=>y.1.length<=65536| .inr _=>True):=by intro d;induction d with|zero=>intro k h;rw[wZ.eq_1,if_neg v?];exact .ret trivial|succ d ih=>intro k hk;obtain⟨x,hx⟩:=gl (l:=env.l) (k:=k) o?;rw[wZ.eq_1,if_pos v?,ws o?];refine .go (gi hx) ?_;exact .ite (fun _=> .ret (h.val x (z6 hx))) fun _=>ih (k+1) o?
 unfold yT;refine .bind (loop env.l.length 0 o?) fun v hv=>?_;exact tW
theorem Nw(s:qa)(hs:s.length<=2^28)(c:UInt8):qJ (kZ s c) (fun v=> -1<=v/\v<s.length):=by
 have loop: ∀k:Nat,k<=s.length->qJ (gI (s,c,(k:Int)-1)) (fun v=> -1<=v/\v<s.length):=by intro k;induction k with|zero=>intro _;rw[gI.eq_1,if_neg z?];exact .ret ⟨o?,o?⟩|succ k ih=>intro h;obtain⟨b,hb⟩:=gl (l:=s) (k:=k) o?;rw[show ((k+1:Nat):Int)-1=(k:Int)from o?,gI.eq_1,if_pos z?,wi (n:=(k:Int)-1)];have:= @gi;exact tW
 unfold kZ;have:= @wi;exact tW
theorem Td(n:Int)(h0:0<=n)(h1:n<=2^28):qJ (jR n) (fun v=>v.length<=n+1):=by
 have loop: ∀(m:Nat)(n:Int)(s r:qa),m=n.toNat->0<=n->n<=2^28->(s.length:Int)+n<=2^29->qJ (uM (n,s,r)) (fun v=>(v.length:Int)<=s.length+n):=by intro m;induction m using p? with|_ m ih=>intro n s r hm h0 h1 hs;rw[uM.eq_1];have:= @wi;exact tW
 unfold jR;exact tW
section
variable (s:qa) (hs:s.length<=65536) (env:Sl qw) (line:Int) (x:qy) (sp:qn) (r2 out r4:List qw)
include hs
theorem placeA(b:Int): ∀k:Nat,k<=s.length->qJ (uk (s,env,line,(k:Int),b,x,sp,r2,out,r4)) (fun v=>0<=v/\v<=k):=by intro k;induction k with|zero=>intro _;rw[uk.eq_1,if_neg z?];exact .ret ⟨o?,o?⟩|succ k ih=>intro h;obtain⟨c,hc⟩:=gl (l:=s) (k:=k) o?;rw[uk.eq_1,if_pos (by simp only[decide_eq_true_eq];omega),wi (n:=((k+1:Nat):Int)-1),show((k+1:Nat):Int)-1=(k:Int)from o?];refine .go (gi hc) ?_;refine .bind (de c) fun v _=>?_;exact .ite (fun _=>Z_ (ih o?) fun v hv=>⟨hv.1,o?⟩) fun _=> .ret ⟨o?,o?⟩
theorem placeA2(b:Int): ∀k:Nat,k<=s.length->qJ (wH (s,env,line,(k:Int),b,x,sp,r2,out)) (fun v=>0<=v/\v<=k):=by intro k;induction k with|zero=>intro _;rw[wH.eq_1,if_neg z?];exact .ret ⟨o?,o?⟩|succ k ih=>intro h;obtain⟨c,hc⟩:=gl (l:=s) (k:=k) o?;rw[wH.eq_1,if_pos (by simp only[decide_eq_true_eq];omega),wi (n:=((k+1:Nat):Int)-1),show((k+1:Nat):Int)-1=(k:Int)from o?];refine .go (gi hc) ?_;refine .bind (de c) fun v _=>?_;exact .ite (fun _=>Z_ (ih o?) fun v hv=>⟨hv.1,o?⟩) fun _=> .ret ⟨o?,o?⟩
theorem placeB(a:Int): ∀(d k:Nat),k+d=s.length->qJ (um (s,env,line,a,(k:Int),x,sp,r2,out,r4)) (fun v=>k<=v/\v<=s.length):=by intro d;induction d with|zero=>intro k h;rw[um.eq_1,if_neg v?];exact .ret ⟨o?,o?⟩|succ d ih=>intro k h;obtain⟨c,hc⟩:=gl (l:=s) (k:=k) o?;rw[um.eq_1,if_pos v?,ws o?];refine .go (gi hc) ?_;refine .bind (de c) fun v _=>?_;exact .ite (fun _=>Z_ (ih (k+1) o?) fun v hv=>⟨o?,hv.2⟩) fun _=> .ret ⟨o?,o?⟩
theorem placeB2(a:Int): ∀(d k:Nat),k+d=s.length->qJ (wI (s,env,line,a,(k:Int),x,sp,r2,out)) (fun v=>k<=v/\v<=s.length):=by intro d;induction d with|zero=>intro k h;rw[wI.eq_1,if_neg v?];exact .ret ⟨o?,o?⟩|succ d ih=>intro k h;obtain⟨c,hc⟩:=gl (l:=s) (k:=k) o?;rw[wI.eq_1,if_pos v?,ws o?];refine .go (gi hc) ?_;refine .bind (de c) fun v _=>?_;exact .ite (fun _=>Z_ (ih (k+1) o?) fun v hv=>⟨o?,hv.2⟩) fun _=> .ret ⟨o?,o?⟩
end
section
def UN(l:List qw):Prop:= ∀p∈l,p.value.length<=1048576
theorem rz{p:qw}{l:List qw}(h:p.value.length<=1048576)(hl:UN l):UN (p::l):=fun q hq=>by rcases U?.1 hq with rfl|hq;exact h;exact hl q hq
variable {s:qa} (hs:s.length<=65536) {env:Sl qw} (he:UG env)
include hs he
theorem M9(x:qy)(h0:0<=(uK x).qB)(h1:(uK x).to<=s.length):qJ (cV s x env) (fun v=>v.1.l.length<=100/\UN v.1.l):=by
 have P3:=he.len;have hE:UN env.l:=fun p hp=>by have:=he.val p hp;omega
 have hx:=Q5 x;obtain⟨k,hk⟩: ∃k:Nat,x.head=k:=⟨x.head.toNat,o?⟩;have hA:=PW s o? x.head;unfold cV;refine .go (JH x) ?_;rw[if_neg v?];have lines: ∀{β:Type}{Q:β->Prop}{f:(Int×Int)->qa->Option β},(∀ v r,0<=v.1->v.1<=65536->r.length<=65536->qJ (f v r) Q)->qJ (dF s x.head>>=fun v=>uE s v.1>>=fun a=>se s v.1>>=fun b=>jj s a.1 b.1>>=fun r=>f v r) Q:=by intro β Q f hf;refine .bind hA fun v hv=>?_;obtain⟨a,b,c,g1,g2,g3,g4,g5,_⟩:=Qj s o? v.1;refine .go g1 (D_ g2 ?_);refine .bind (qJ.jj u? u? u?) fun r hr=>?_;have hb:=Ve s x.head.toNat;have hb2:=PZ s;have:=hr.2;simp only at this;refine hf v r ?_ ?_ o?<;>rcases hv with ⟨_,_,_,hv⟩|⟨_,hv,_⟩<;>omega
 have o4: ∀(n:Nat)(l0:List qw),n<=36->l0.length<=36->UN l0->qJ (if qg (n+env.l.length) 32=true then some ((⟨false,l0++env.l⟩:Sl qw),(0:Int))else none) (fun v=>v.1.l.length<=100/\UN v.1.l):=by intro n l0 hn hl hv;refine .zx qA (.ret ⟨v?,fun p hp=>?_⟩);rcases m?.1 hp with hp|hp;exact hv p hp;exact hE p hp
 have Cr: ∀(m n:Nat)(l0:List qw)(L:qa->qa->qa->List qw),m<=36->n<=36->l0.length<=36->UN l0->(∀ a b c:qa,a.length<=65536->b.length<=65536->c.length<=65536->(L a b c).length<=36/\UN (L a b c))-> ∀v:qa×Bool,v.1.length<=65536->
   qJ (if v.2=true then kZ v.1 47>>=fun a=>bH v.1 (q?.wrap (a+(1:Int)))>>=fun r=>kZ r 46>>=fun b=>if(decide (b>(0:Int)))=true then kF r b>>=fun r1=>kF v.1 (if (0:Int)>a then(0:Int)else a)>>=fun r2=>if qg n 32=true then if qg (n+env.l.length) 32=true then some ((⟨false,L r r1 r2++env.l⟩:Sl qw),(0:Int))else none else none else kF v.1 (if (0:Int)>a then(0:Int)else a)>>=fun r2=>if qg n 32=true then if qg (n+env.l.length) 32=true then some ((⟨false,L r r r2++env.l⟩:Sl qw),(0:Int))else none else none else if qg (m+env.l.length) 32=true then some ((⟨false,l0++env.l⟩:Sl qw),(0:Int))else none) (fun v=>v.1.l.length<=100/\UN v.1.l):=by
  intro m n l0 L hm hn hl hv hL v Zf;refine .ite (fun _=>?_) fun _=>o4 m l0 hm hl hv;refine .bind (Nw v.1 o? 47) fun a ha=>?_;rw[wi (n:=a+1)];refine .bind .bH fun r hr=>?_;have C0:=hr.2;refine .bind (Nw r o? 46) fun b hb=>?_;have dir:qJ (kF v.1 (if (0:Int)>a then(0:Int)else a)) (fun z=>z.length<=65536):=Z_ (qJ.kF (by split<;>omega) (by split<;>omega)) fun z hz=>by have:=hz.2;split at this<;>omega
  refine .ite (fun c=>?_) fun _=>?_
  ·simp only[decide_eq_true_eq]at c;refine .bind .kF fun r1 h1=>?_;have h1l:=h1.2;refine .bind dir fun r2 h2=>q17 qA ?_;exact o4 n _ hn (hL r r1 r2 o? o? h2).1 (hL r r1 r2 o? o? h2).2
  refine .bind dir fun r2 h2=>q17 qA ?_;exact o4 n _ hn (hL r r r2 o? o? h2).1 (hL r r r2 o? o? h2).2
 have dig: ∀n:Int,0<=n->n<=65537->qJ (jR n) (fun v=>v.length<=65538):=fun n a b=>Z_ (Td n a o?) fun v hv=>o?;have get:=fun n=>SM n env he;rw[hk]at lines |-;refine .ite (fun c=>?_) fun c=>?_;{simp only[decide_eq_true_eq]at c;refine .bind .jj fun r7 h7=>q17 qA ?_;have h7l:=h7.2;refine lines fun v r Hr Zf hr=>?_;refine .zx qA ?_;refine .bind (placeA s hs env _ x _ _ _ _ _ k o?) fun a ha=>?_;refine .bind (placeB s hs env _ x _ _ _ _ a (s.length-k) k o?) fun b hb=>?_;rw[wi (n:=v.1+1)];refine .ite (fun c2=>?_) fun c2=>?_;{simp only[decide_eq_true_eq]at c2;refine .bind .jj fun w hw=>?_;have hwl:=hw.2;refine .zx qA ?_;refine .bind (dig _ Hr o?) fun d1 h1=>?_;refine .bind (dig _ o? o?) fun d2 h2=>?_;refine .zx qA ?_;refine .bind (get _) fun g hg=>?_;exact Cr _ _ _ (fun a b c=>_) (by omega) (by omega) (by simp) (by repeat (first|refine rz (by simp only;omega) ?_|exact fun p hp=>absurd hp (by simp))) (fun a b c ha hb hc=>⟨by simp,(by repeat (first|refine rz (by simp only;omega) ?_|exact fun p hp=>absurd hp (by simp)))⟩) g hg};refine .bind (dig _ Hr o?) fun d1 h1=>?_;refine .bind (dig _ o? o?) fun d2 h2=>?_;refine .zx qA ?_;refine .bind (get _) fun g hg=>?_;exact Cr _ _ _ (fun a b c=>_) (by omega) (by omega) (by simp) (by repeat (first|refine rz (by simp only;omega) ?_|exact fun p hp=>absurd hp (by simp))) (fun a b c ha hb hc=>⟨by simp,(by repeat (first|refine rz (by simp only;omega) ?_|exact fun p hp=>absurd hp (by simp)))⟩) g hg};skip;refine lines fun v r Hr Zf hr=>?_;refine .zx qA ?_;refine .bind (placeA2 s hs env _ x _ _ _ _ k o?) fun a ha=>?_;refine .bind (placeB2 s hs env _ x _ _ _ a (s.length-k) k o?) fun b hb=>?_;rw[wi (n:=v.1+1)];refine .ite (fun c2=>?_) fun c2=>?_;{simp only[decide_eq_true_eq]at c2;refine .bind .jj fun w hw=>?_;have hwl:=hw.2;refine .zx qA ?_;refine .bind (dig _ Hr o?) fun d1 h1=>?_;refine .bind (dig _ o? o?) fun d2 h2=>?_;refine .zx qA ?_;refine .bind (get _) fun g hg=>?_;exact Cr _ _ _ (fun a b c=>_) (by omega) (by omega) (by simp) (by repeat (first|refine rz (by simp only;omega) ?_|exact fun p hp=>absurd hp (by simp))) (fun a b c ha hb hc=>⟨by simp,(by repeat (first|refine rz (by simp only;omega) ?_|exact fun p hp=>absurd hp (by simp)))⟩) g hg};refine .bind (dig _ Hr o?) fun d1 h1=>?_;refine .bind (dig _ o? o?) fun d2 h2=>?_;refine .zx qA ?_;refine .bind (get _) fun g hg=>?_;exact Cr _ _ _ (fun a b c=>_) (by omega) (by omega) (by simp) (by repeat (first|refine rz (by simp only;omega) ?_|exact fun p hp=>absurd hp (by simp))) (fun a b c ha hb hc=>⟨by simp,(by repeat (first|refine rz (by simp only;omega) ?_|exact fun p hp=>absurd hp (by simp)))⟩) g hg
end
end Xr
namespace Xr
theorem TB(s:qa)(hs:s.length<=65536)(line:Int):qJ (d8 s line) (fun v=>v.1.length<=65536):=by
 have loop: ∀(f:Int)(d k:Nat),k+d=s.length->qJ (vD (s,f,(k:Int))) (fun v=>k<=v/\v<=s.length):=by intro f d;induction d with|zero=>intro k h;rw[vD.eq_1,if_neg v?];exact .ret ⟨o?,o?⟩|succ d ih=>intro k h;obtain⟨b,hb⟩:=gl (l:=s) (k:=k) o?;have k1:=ih (k+1) o?;rw[vD.eq_1,if_pos v?,ws o?];refine .go (gi hb) ?_;exact .ite (fun _=>Z_ k1 fun v hv=>⟨o?,hv.2⟩) fun _=>C! (fun _=>Z_ k1 fun v hv=>⟨o?,hv.2⟩) fun _=> .ret ⟨o?,o?⟩
 unfold d8;obtain⟨a,b,c,g1,_,g3,g4,g5,_⟩:=Qj s o? line;refine .go g1 ?_;refine .ite (fun _=> .ret z?) fun _=>?_;obtain⟨k,rfl⟩: ∃k:Nat,a=k:=⟨a.toNat,o?⟩;refine .bind (loop k (s.length-k) k o?) fun v hv=>?_;refine .bind (qJ.jj u? u? o?) fun r hr=> .ret ?_;have:=hr.2;simp only at this |-;omega
structure Yh (q:List qy) (es:List ql) (gZ:List (Sl qq)):Prop where
 le:es.length=gZ.length
 each: ∀(j:Nat) e,es[j]? =some e-> ∃x m,q[j]? =some x/\gZ[j]? =some m/\e.span=uK x/\PB e.text m.l
theorem Yh.Gj{q:List qy}{es:List ql}{gZ:List (Sl qq)}(h:Yh q es gZ){x:qy}(hx:q[es.length]? =some x){t:qa}{m:Sl qq}(hm:PB t m.l):Yh q (es++[⟨uK x,t⟩]) (gZ++[m]):=by have hle:=h.le;refine⟨by simp[hle],fun j e he=>?_⟩;by_cases c:j<es.length;rw[r? c]at he;obtain⟨y,z,a,b,c1,d⟩:=h.each j e he;exact tW;exact tW
theorem FN{st:qv}(h:vj st)(l:Sl qD)(hl:qO (l.l.map pU)<=8192002){env:Sl qw}(he:UG env)(unit:qa)(hu:unit.length<=65536)(t6:qv): ∀(r:List qy)(i:Nat)(es:List ql)(gZ:List (Sl qq)),st.xT.l.drop i=r->es.length=i->Yh st.xT.l es gZ->
  qJ (yl (l,env,unit,(i:Int),st,t6,es,gZ)) (fun v=>match v with| .inl y=>y.1≠0| .inr y=>y.1.length=st.xT.l.length/\Yh st.xT.l y.1 y.2):=by have h64:=h.may.Y1;have ht:=h.may.text;intro r;induction r with|nil=>(intro i es gZ h0 h1 h2;have:=ze h0;rw[yl.eq_1,if_neg v?];refine .ret ⟨?_,h2⟩;cases dm:es.length with|zero=>omega|succ k=>obtain⟨e,hee⟩:=gl (l:=es) (k:=k) o?;obtain⟨x,m,a,_⟩:=h2.each k e hee;have:=(qF a).1;omega)|cons x r ih=>intro i es gZ h0 h1 h2;obtain⟨g1,g2,g3⟩:=zr h0;have hx:=h.may.Kj x (z6 g1);have hle:=h2.le;rw[yl.eq_1,if_pos v?,ws o?];refine .go (gi g1) ?_;refine .go (JH x) ?_;refine .bind (M9 ht he x hx.1 hx.2) fun v hv=>?_;refine .bind (PW st.text o? (uK x).qB) fun a _=>?_;refine .bind (TB st.text ht a.1) fun ld hld=>?_;refine .bind (PC ⟨by have:=hv.1;omega,hv.2,o?,o?⟩ l hl) fun m hm=>?_;refine .ite (fun c=> .ret (by simpa using c)) fun c=>?_;refine .zx qA (q17 qA ?_);exact ih (i+1) _ _ g2 (by simp[h1]) (h2.Gj (by rw[h1];exact g1) (hm (by simpa using c)))
structure PA (i:qj):Prop where
 Pc: ∃H:Int->Int->Prop,o7 H (-1) i.span.qB i.span.to 0 i.stops.l
 len:i.stops.l.length<=257
 stop: ∀x∈i.stops.l,mG x
 free: ∃x∈i.stops.l,x.qL=false
def ZI:Int->Int->List qj->Prop
 |lo,hi,[]=>lo<=hi
 |lo,hi,i::l=>lo<=i.span.qB/\PA i/\ZI i.span.to hi l
theorem ZI.le: ∀{l:List qj}{lo hi:Int},ZI lo hi l->lo<=hi:=by intro l;induction l with|nil=>intro lo hi h;exact h|cons i l ih=>intro lo hi h;obtain⟨H,hL⟩:=h.2.1.Pc;have:=Go.Proofs.YtnojdepmnnebnaaGreat.o7.le hL;have:=ih h.2.2;have:=h.1;omega
theorem ZI.each: ∀{l:List qj}{lo hi:Int},ZI lo hi l-> ∀(a:Nat) i,l[a]? =some i->lo<=i.span.qB/\i.span.to<=hi/\PA i/\ ∀(b:Nat) j,a<b->l[b]? =some j->i.span.to<=j.span.qB:=by intro l;induction l with|nil=>intro lo hi h a i ha;simp at ha|cons i l ih=>intro lo hi h a j ha;obtain⟨H,hL⟩:=h.2.1.Pc;have h1:=Go.Proofs.YtnojdepmnnebnaaGreat.o7.le hL;cases a with|zero=>(simp only[c?,ki]at ha;subst ha;refine⟨h.1,ZI.le h.2.2,h.2.1,fun b k hb hk=>?_⟩;cases b with|zero=>omega|succ b=>exact(ih h.2.2 b k (by simpa using hk)).1)|succ a=>obtain⟨a1,a2,a3,a4⟩:=ih h.2.2 a j (by simpa using ha);refine⟨by have:=h.1;omega,a2,a3,fun b k hb hk=>?_⟩;exact tW
theorem ZI.may{l:List qj}{hi:Int}(h:ZI 0 hi l):mm l hi:=by refine⟨fun a i ha=>?_,fun a b i j eL ha hb=>(ZI.each h a i ha).2.2.2 b j eL hb⟩;obtain⟨h1,h2,h3,_⟩:=ZI.each h a i ha;obtain⟨H,hL⟩:=h3.Pc;exact lay_may hL h1 h2
def Ch(n:Int):Int->List ql->Prop
 |p,[]=>p<=n
 |p,e::r=>p<=e.span.qB/\e.span.qB<=e.span.to/\Ch n e.span.to r
theorem FP(es:Sl ql)(eP:Int)(i:Nat)(qp:Int)(b0 t6:qv)(gZ:List (Sl qq))(w:qa)(w2:Sl qy)(r7:List qb)(r8:Sl (Sl (Sl Int)))(s:Int)(ET:List qj)(in1 in2:Int)(m:Sl qq)(hm:gZ[i]? =some m)(Vs:m.l.length<=257)(ha:0<=qp/\qp<=2^40)(hb: ∀x∈m.l,0<=x.span.qB/\x.span.qB<=x.span.to/\x.span.to<=65536):
  ∀(q:List qq)(k:Nat)(out:List qq),m.l.drop k=q->out.length=k->yn (es,eP,(i:Int),qp,(k:Int),b0,t6,gZ,w,w2,r7,r8,s,ET,in1,in2,out)=some (out++q.map (Zs qp)):=by intro q;induction q with|nil=>intro k out h0 h1;have:=ze h0;rw[yn.eq_1,gi hm];simp only[zF,qS];rw[if_neg v?];simp|cons x q ih=>intro k out h0 h1;obtain⟨g1,g2,g3⟩:=zr h0;have hx:=hb x (z6 g1);rw[yn.eq_1,gi hm];simp only[zF,qS];rw[if_pos v?,gi g1];simp only[qS];rw[if_pos qA,ws o?,wi (n:=x.span.qB+qp),wi (n:=x.span.to+qp),ih (k+1) _ g2 v?];simp[Zs]
theorem FO(n:Int)(hn:0<=n/\n<=65536)(es:Sl ql)(hl:es.l.length<=64)(b0 t6:qv)(q:List qy)(gZ:List (Sl qq))(hM:Yh q es.l gZ)(w:qa)(w2:Sl qy)(r7:List qb)(r8:Sl (Sl (Sl Int)))(s:Int): ∀(r:List ql)(i:Nat)(eP p:Int)(ET:List qj),es.l.drop i=r->i<=64->Ch n p r->0<=p->0<=p+eP-> -(i:Int)*65536<=eP->eP<=(i:Int)*65536->ET.length=i->
  qJ (ym (es,eP,(i:Int),b0,t6,gZ,w,w2,r7,r8,s,ET)) (fun v=> ∃l,v=ET++l/\l.length=r.length/\ZI (p+eP) (n+eP+sk r) l):=by intro r;induction r with|nil=>intro i eP p ET h0 hi hc _ _ _ _ _;have:=ze h0;rw[ym.eq_1,if_neg v?];refine .ret ⟨[],z?,rfl, ?_⟩;simp only[ZI,sk,List.map_nil,List.sum_nil];have:p<=n:=hc;omega|cons e r ih=>(intro i eP p ET h0 hi hc hp hpb Hk hb2 hr;obtain⟨g1,g2,g3⟩:=zr h0;obtain⟨x,m,_,hm,_,YD⟩:=hM.each i e g1;obtain⟨c1,c2,c3⟩:=hc;have hcn: ∀(r:List ql)(p:Int),Ch n p r->p<=n:=by intro r;induction r with|nil=>intro p h;exact h|cons e r ih=>intro p h;have h1:=ih _ h.2.2;have:=h.1;have:=h.2.1;omega);have hen:=hcn r _ c3;have htl:=YD.len;obtain⟨H,hL,_⟩:=YD.Pc;rw[ym.eq_1,if_pos v?,ws o?];refine .go (gi g1) ?_;rw[wi (n:=e.span.qB+eP)];refine .go (FP es eP i _ b0 t6 gZ w w2 r7 r8 s ET _ _ m hm YD.many.2 ⟨o?,o?⟩ (fun y hy=>?_) m.l 0 [] rfl rfl) ?_;obtain⟨k,hk⟩:=kb hy;have:=LayX.kU hL o? k y hk;exact⟨this.lo,this.le,by have:=this.hi;omega⟩;refine .zx qA ?_;rw[wi (n:=e.span.qB+eP+(e.text.length:Int)),wi (n:=eP+(e.text.length:Int)),wi (n:=e.span.to-e.span.qB),wi (n:=eP+(e.text.length:Int)-(e.span.to-e.span.qB))];have hLs:=LayX.shift hL (e.span.qB+eP);simp only[F?];refine .mono (ih (i+1) _ e.span.to _ g2 o? c3 o? o? (by push_cast;omega) (by push_cast;omega) (by simp[hr])) fun v hv=>?_;obtain⟨l,l1,l2,l3⟩:=hv;refine⟨_::l,by rw[l1,k_];rfl,by simp[l2],⟨u?,⟨⟨H, ?_⟩, ?_,fun y hy=>?_, ?_⟩, ?_⟩⟩;simp only;rw[show (0:Int)+(e.span.qB+eP)=e.span.qB+eP from o?,show((e.text.length:Int)+(e.span.qB+eP))=e.span.qB+eP+e.text.length from o?]at hLs;exact hLs;simp only[List.length_map];exact YD.many.2;obtain⟨z,hz,rfl⟩:=N?.1 hy;exact YD.qR z hz;obtain⟨z,hz,h⟩:=YD.free;exact⟨Zs _ z,N?.2 ⟨z,hz,rfl⟩,h⟩;simp only;rw[show e.span.qB+eP+(e.text.length:Int)=e.span.to+(eP+e.text.length-(e.span.to-e.span.qB))from o?];rw[show n+eP+sk (e::r)=n+(eP+e.text.length-(e.span.to-e.span.qB))+sk r from by simp only[sk,s?,y!,gE];omega];exact l3
end Xr
namespace Xr
theorem well_fin{w:World}(hu:WK w){y:List qb}(hy:Fin w.1.length w.2.2.1 y)(h8:w.2.2.1.length<=8):vj ⟨w.1,w.2.1,⟨false,y⟩⟩:=by have Xw:=hy.JS.1;refine⟨⟨hu.text,u?,hu.ok.ne,hu.ok.Y1,hu.ok.Kj,hu.ok.SD,hy.ok.may,fun j s hs=>?_⟩,hy.ok.small,hy.ok.stop,fun s hs=>?_⟩;have:=hy.closed j s (qF hs).1 hs;exact⟨this.1,this.2.2⟩;obtain⟨j,hj⟩:=kb hs;exact(hy.closed j s (qF hj).1 hj).2.1
theorem OJ{n:Nat}{q:List qy}(hi:Wp n q)(ha:Sq q): ∀(es:List ql)(j:Nat)(p:Int),(∀(k:Nat) e,es[k]? =some e-> ∃x,q[j+k]? =some x/\e.span=uK x)->p<=n->(∀ x,q[j]? =some x->p<=(uK x).qB)->Ch n p es:=by intro es;induction es with|nil=>intro j p _ h _;exact h|cons e es ih=>intro j p h hp hx0;obtain⟨x,hx,he⟩:=h 0 e z?;have hxi:=hi x (z6 hx);have hle:=eJ x;refine⟨by rw[he];exact hx0 x hx,by rw[he];exact hle,ih (j+1) _ (fun k e' h' =>?_) (by rw[he];exact hxi.2) fun y hy=>?_⟩;obtain⟨y,hy,h2⟩:=h (k+1) e' (by simpa using h');exact⟨y,by rw[show j+1+k=j+(k+1)from o?];exact hy,h2⟩;rw[he];obtain⟨a1,a2⟩:=qF hx;obtain⟨b1,b2⟩:=qF hy;have:=List.pairwise_iff_getElem.1 ha j (j+1) a1 b1 o?;simp only[M?]at a2;rw[a2,b2]at this;omega
theorem push_tot{w:World}(hw:WK w)(s:qb)(hs:xH s)(hm:mm s.insts.l w.1.length)(hk: ∀i∈s.insts.l,∀ x∈i.stops.l,mG x)(h8:w.2.2.1.length<8):qJ (bx s w.1 w.2.1 w.2.2.1 w.2.2.2) (fun v=>v.1=w.2.2.1++[s]/\WK (w.1,w.2.1,v.1,v.2)):=by
 obtain⟨f,f1,f2⟩:=lI s hs;have QE:=hw.ok.W8;unfold bx;refine .zx qA (D_ f1 (q17 qA (.ret ⟨rfl,⟨?_,hw.text⟩⟩)));have sG: ∀{P:qb->Prop},(∀ x∈w.2.2.1,P x)->P s-> ∀x∈w.2.2.1++[s],P x:=by intro P h1 h2 x hx;rcases m?.1 hx with hx|hx;exact h1 x hx;simp only[a?]at hx;subst hx;exact h2
 refine⟨hw.ok.blen,hw.ok.ne,hw.ok.Y1,hw.ok.SD,hw.ok.Kj,v?,sG hw.ok.small hs,sG hw.ok.may hm,by simp[QE],fun _=>rfl,fun j x g hx hg=>?_,sG hw.ok.stop hk⟩;by_cases c:j<w.2.2.1.length;rw[r? c]at hx;simp only at hg;rw[r? o?]at hg;exact hw.ok.each j x g hx hg;have hj:=(qF hx).1;simp only[t?,w!]at hj;have:j=w.2.2.1.length:=o?;subst this;rw[J? (jx _)]at hx;simp only at hg;rw[J? o?,QE]at hg;simp only[Nat.sub_self,c?,ki]at hx hg;subst hx;rw[<- hg];exact f2
theorem TF{st:qv}(h:vj st)(l:Sl qD)(hl:qO (l.l.map pU)<=8192002){env:Sl qw}(he:UG env):qJ (sb st l env) (fun v=>v.2=0->vj v.1):=by
 have ht:=h.may.text;have h64:=h.may.Y1;have pZ:=q!.2 h.may.ne;unfold sb;refine Wy h ?_;rw[if_neg z?];refine .bind (Yi l o?) fun a _=>?_;refine .ite (fun _=> .ret fun h0=>absurd h0 (by decide)) fun _=>?_;refine .bind (SM _ env he) fun u hu=>?_;refine .bind (FN h l hl he u.1 hu _ st.xT.l 0 [] [] rfl rfl ⟨rfl,z?⟩) fun v hv=>?_;rcases v with v|v;exact .ret fun h0=>absurd h0 hv;obtain⟨es,gZ⟩:=v;obtain⟨v1,hM⟩:=hv;simp only at v1 hM |-;have hT:wP es<=es.length*65536:=Gs es 65536 fun e hee=>by obtain⟨k,hk⟩:=kb hee;obtain⟨x,m,_,_,_,hm⟩:=hM.each k e hk;exact hm.len
 have hT2:es.length*65536<=64*65536:=mulR _ o?;refine .bind (Cg (st.text.length:Int) o? ⟨es.isEmpty,es⟩ u? u?) fun c hc=>?_;refine .ite (fun c0=> .ret fun h0=>absurd h0 (by simpa using c0)) fun c0=>?_;obtain⟨e1,e2⟩:=hc (by simpa using c0);simp only at e1 e2;obtain⟨fl,b1,b2⟩:=BG st h;refine .go b1 ?_;refine .bind (cJ (st.text,⟨false,st.xT.l⟩,st.qo.l,fl) b2.ok ht ⟨es.isEmpty,es⟩ e1 u? u?) fun w hw=>?_;have hwt:=hw.text;simp only at hwt;refine .ite (fun _=> .ret fun h0=>absurd h0 (by decide)) fun c1=>?_;have hw8:w.2.2.1.length<8:=by simp only[decide_eq_true_eq]at c1;omega
 have VQ:Ch st.text.length 0 es:=OJ (n:=st.text.length) h.may.Kj h.may.SD es 0 0 (fun k e hk=>by
  obtain⟨x,m,a,_,b,_⟩:=hM.each k e hk
  exact⟨x,by rw[P?];exact a,b⟩) o? fun x hx=>(h.may.Kj x (z6 hx)).1
 refine .bind (FO st.text.length ⟨o?,o?⟩ ⟨es.isEmpty,es⟩ u? st _ st.xT.l gZ hM w.1 w.2.1 w.2.2.1 w.2.2.2 0 es 0 0 0 [] rfl o? VQ o? o? o? o? rfl) fun is his=>?_;obtain⟨Pb,i1,i2,i3⟩:=his;simp only[F?]at i1;subst i1;rw[show (0:Int)+0=0 from rfl,show(st.text.length:Int)+0+sk es=w.1.length from o?]at i3;have hism:=ZI.may i3;have hisl:is.length<=64:=o?;have Ls: ∀i∈is,PA i:=fun i hi=>by obtain⟨k,hk⟩:=kb hi;exact(ZI.each i3 k i hk).2.2.1
 have hb: ∀i∈is,i.stops.l.length<=2^12:=fun i hi=>by have:=(Ls i hi).len;omega
 refine .bind (lV ⟨is.isEmpty,is⟩ hb u?) fun ns FC=>?_;have jz:ns.l≠[]:=by refine FC.2 ?_;obtain⟨i,hi⟩:=gl (l:=is) (k:=0) o?;exact⟨i,z6 hi,(Ls i (z6 hi)).free⟩
 have hnpos:=q!.2 jz;obtain⟨x,hx⟩:=gl (l:=ns.l) (k:=0) hnpos;refine .go (gi hx) ?_;have hxs:gu x is≠[]:=FC.1.of x (z6 hx);have hWK:WK w:=⟨hw.ok,o?⟩;refine .bind (push_tot hWK ⟨x,⟨is.isEmpty,is⟩⟩ ⟨u?,hb⟩ hism (fun i hi=>(Ls i hi).stop) hw8) fun p hp=>?_;obtain⟨p1,p2⟩:=hp;have hplen:p.1.length=w.2.2.1.length+1:=by rw[p1];simp
 refine .bind (WB (w.1,w.2.1,p.1,p.2) p2) fun u hu=>?_;refine .ite (fun c1=> .ret fun h0=>absurd h0 (by simpa using c1)) fun c1=>?_;rcases hu with hu|⟨_,hu,hlk⟩;exact absurd (by simpa using c1) hu;have hulen:u.2.2.2.1.length=p.1.length:=hlk.len;have ent: ∀y,Fin u.2.1.length u.2.2.2.1 y->qJ (if (decide ((y.length:Int)<(p.1.length:Int)))=true then some ((qv.mk u.2.1 u.2.2.1 (⟨false,y⟩:(Sl qb))),(0:Int))else mX u.2.1 u.2.2.1 x y>>=fun QH=>some (QH.1,QH.2)) (fun v=>v.2=0->vj v.1):=by (intro y hy;have LJ:=well_fin hu hy o?;refine .ite (fun _=> .ret fun _=>LJ) fun c2=>?_;have Pa:y.length=p.1.length:=by have:=hy.JS.1;simp only[decide_eq_true_eq]at c2;omega);refine .bind (Fh LJ x (fun z hz hzl=>?_) (by intro e;simp only at e;rw[e]at Pa;simp at Pa;omega)) fun v hv=> .ret hv;obtain⟨s,s1,s2⟩:=hy.JS.2 _ z hzl;have hidx:y.length-1=w.2.2.1.length:=o?;obtain⟨s',t1,t2⟩:=hlk.cur w.2.2.1.length ⟨x,⟨is.isEmpty,is⟩⟩ (by simp only[p1];rw[J? (jx _)];simp);simp only at s1;rw[hidx]at s1;have t1' :u.2.2.2.1[w.2.2.1.length]? =some s' :=t1;rw[s1]at t1';cases t1';have:z.cur=x:=s2.trans t2;rw[<- this];exact LJ.JS z hz
 refine .bind (Yp u.2 hu.ok) fun y hy=>?_;rcases y with y|y;exact ent y hy;exact ent y hy
end Xr
namespace Xr
theorem mc(b:UInt8):qJ (kG b) (fun _=>True):=by unfold kG;split<;>exact .ret trivial
theorem tN(b:UInt8):qJ (wV b) (fun _=>True):=by unfold wV;(repeat' split)<;>exact .ret trivial
theorem WD(s:qa):qJ (jl s) (fun _=>True):=by
 have loop:s.length<=64-> ∀(d k:Nat),k+d=s.length->qJ (xW (s,(k:Int))) (fun _=>True):=by intro hs d;induction d with|zero=>intro k h;rw[xW.eq_1,if_neg v?];exact .ret trivial|succ d ih=>intro k h;obtain⟨b,hb⟩:=gl (l:=s) (k:=k) o?;have k1:=ih (k+1) o?;rw[xW.eq_1,if_pos v?,ws o?];refine .go (gi hb) ?_;refine .bind (tN b) fun v _=>?_;refine .ite (fun _=>C! (fun _=>C! (fun _=> .ret trivial) fun _=>?_) fun _=>k1) fun _=>k1;refine .bind (mc b) fun v _=>?_;exact .ite (fun _=> .ret trivial) fun _=>k1
 unfold jl;refine .ite (fun _=> .ret trivial) fun c=>?_;simp only[z!,decide_eq_true_eq,not_or]at c;refine .bind (loop o? s.length 0 o?) fun v _=>?_;rcases v with v|v<;>exact .ret trivial
theorem set_tot(name value:qa){env:Sl qw}(he:UG env):qJ (dQ name value env) (fun v=>v.2=0->UG v.1):=by
 have hl:=he.len;unfold dQ;refine .bind (WD name) fun a _=>?_;refine .ite (fun _=> .ret fun h0=>absurd h0 (by decide)) fun _=>?_;refine .ite (fun _=> .ret fun h0=>absurd h0 (by decide)) fun c=>?_;have hv:value.length<=65536:=by simp only[decide_eq_true_eq]at c;omega
 refine .zx qA ?_;have loop: ∀(d k:Nat),k+d=env.l.length->qJ (ni (name,value,(k:Int),env.l)) (fun v=>match v with| .inl y=>y.1=0->UG ⟨false,y.2⟩| .inr _=>True):=by intro d;induction d with|zero=>intro k h;rw[ni.eq_1,if_neg v?];exact .ret trivial|succ d ih=>intro k h;obtain⟨x,hx⟩:=gl (l:=env.l) (k:=k) o?;rw[ni.eq_1,if_pos v?,ws o?];refine .go (gi hx) ?_;refine .ite (fun _=> .ret fun _=>⟨v?,fun p hp=>?_⟩) fun _=>ih (k+1) o?;rcases List.mem_or_eq_of_mem_set hp with hp|rfl;exact he.val p hp;exact hv
 refine .bind (loop env.l.length 0 o?) fun v TA=>?_;rcases v with v|v;exact .ret TA;refine .ite (fun _=> .ret fun h0=>absurd h0 (by decide)) fun c2=>?_;have xJ:env.l.length<64:=by simp only[decide_eq_true_eq]at c2;omega
 refine .zx qA (.ret fun _=>⟨v?,fun p hp=>?_⟩);rcases m?.1 hp with hp|hp;exact he.val p hp;simp only[a?]at hp;subst hp;exact hv
structure DA (o:bO):Prop where
 text:o.text.length<=65536
 es:o.edits.l.length<=10
 et:wP o.edits.l<=2^60
 qs:o.xT.l.length<2^60
theorem S4{b:qa}{q:Sl qy}{ss:Sl qb}(h:vj ⟨b,q,ss⟩){env:Sl qw}(he:UG env){o:bO}(ho:DA o)(r r2:Sl qv):qJ (uD o b q ss env r r2) (fun v=>v.2.2=0->vj v.1):=by
 have ht:b.length<=65536:=h.may.text;have h64:q.l.length<=64:=h.may.Y1;have dK:Wp b.length q.l:=h.may.Kj;have hD: ∀es:Sl ql,es.l.length<=2^19->wP es.l<=2^60->qJ (s9 (qv.mk b q ss) es>>=fun v=>some (v.1,true,v.2)) (fun v=>v.2.2=0->vj v.1):=fun es h1 h2=>q18 (BX _ h es h1 h2) fun v hv=> .ret fun h0=>by rcases hv with hv|⟨_,hv,_⟩;exact absurd h0 hv;exact hv
 have hF: ∀{p:Option (qv×Int)},qJ p (fun v=>v.2=0->vj v.1)->qJ (p>>=fun v=>some (v.1,true,v.2)) (fun v=>v.2.2=0->vj v.1):=fun hp=>q18 hp fun v hv=> .ret hv;unfold uD;refine .ite (fun _=>?_) fun _=>?_;refine .bind (Eo q o.text h64 ho.text) fun v hv=>hD v (by have:=hv.1;omega) (by have:=hv.2;omega);refine .ite (fun _=>?_) fun _=>?_;have:= @Te;exact tW;refine .ite (fun _=>hD o.edits (by have:=ho.es;omega) ho.et) fun _=>?_;refine .ite (fun _=>q18 (ic (b.length:Int) o.xT ho.qs) fun v hv=> .ret fun h0=>vj.sel h (hv h0)) fun _=>?_;refine .ite (fun _=>q18 (go_tot b o? o.n o.extend q o?) fun v hv=> .ret fun h0=>vj.sel h (hv h0)) fun _=>?_;refine .ite (fun _=>?_) fun _=>?_;refine .bind (Rn o.text) fun v hv=>?_;refine .ite (fun _=>hF (TF h v.1 hv.1 he)) fun c=> .ret fun h0=>absurd h0 (by simpa using c);have:= @TZ;have:= @Rh;have:= @Ny;have:= @H3;exact tW
structure MW (b:qa) (q:Sl qy) (ss:Sl qb) (env:Sl qw) (r r2:Sl qv) (n:Nat):Prop where
 Gx:vj ⟨b,q,ss⟩
 env:UG env
 behind: ∀s∈r.l,vj s
 ahead: ∀s∈r2.l,vj s
 len:r.l.length<=n/\r2.l.length<=n
 nb:r.nil=true->r.l=[]
 na:r2.nil=true->r2.l=[]
theorem MW.mono{b:qa}{q:Sl qy}{ss:Sl qb}{env:Sl qw}{r r2:Sl qv}{n:Nat}(h:MW b q ss env r r2 n):MW b q ss env r r2 (n+1):=⟨h.Gx,h.env,h.behind,h.ahead,by have:=h.len;omega,h.nb,h.na⟩
theorem iU{r:List qv}(h: ∀s∈r,vj s){x:qv}(hx:vj x): ∀s∈r++[x],vj s:=fun s hs=>by rcases m?.1 hs with hs|hs;exact h s hs;simp only[a?]at hs;subst hs;exact hx
theorem OT{b:qa}{q:Sl qy}{ss:Sl qb}{env:Sl qw}{r r2:Sl qv}{n:Nat}(h:MW b q ss env r r2 n)(hn:n<=50){o:bO}(ho:DA o):qJ (bA o b q ss env r r2) (fun v=>match v with
  | .inl y=>MW y.2.1 y.2.2.1 y.2.2.2.1 y.2.2.2.2 r r2 (n+1)
  | .inr (.inl y)=>MW y.2.1 y.2.2.1 y.2.2.2.1 env y.2.2.2.2.2 y.2.2.2.2.1 (n+1)
  | .inr (.inr (.inl y))=>MW y.2.1 y.2.2.1 y.2.2.2.1 env y.2.2.2.2.1 y.2.2.2.2.2 (n+1)
  | .inr (.inr (.inr y))=>MW y.2.1 y.2.2.1 y.2.2.2.1 env y.2.2.2.2 ⟨true,[]⟩ (n+1)):=by
 have hm:=h.mono;have hl:=h.len;have z1: ∀s∈([]:List qv),vj s:=z?;have swap: ∀{l:Sl qv},(l.nil=true->l.l=[])->(∀ s∈l.l,vj s)->l.l.length≠0-> ∃(k:Nat)(x:qv),l.l.length=k+1/\l.nil=false/\q?.wrap ((l.l.length:Int)-1)=(k:Int)/\qh l.l (k:Int)=some x/\kF l.l (k:Int)=some (l.l.take k)/\vj x/\(∀ s∈l.l.take k,vj s)/\(l.l.take k).length=k\/100<l.l.length:=by
  intro l hnl hw hk;by_cases c:100<l.l.length
  ·exact⟨0,qv.mk [] ⟨true,[]⟩ ⟨true,[]⟩,.inr c⟩
  obtain⟨k,hk⟩: ∃k:Nat,l.l.length=k+1:=⟨l.l.length-1,o?⟩;obtain⟨x,hx⟩:=gl (l:=l.l) (k:=k) o?;refine⟨k,x,.inl ⟨hk, ?_, ?_,gi hx,JT _ _ o?,hw x (z6 hx),fun s hs=>hw s (List.mem_of_mem_take hs),v?⟩⟩
  ·cases e:l.nil
   ·rfl
   rw[hnl e]at hk;simp at hk
  rw[wi (n:=(l.l.length:Int)-1)];omega
 unfold bA;refine .ite (fun _=>?_) fun _=>?_
 ·refine .bind (set_tot o.name o.text h.env) fun v hv=>?_;refine .ite (fun c=> .ret ⟨h.Gx,hv (by simpa using c),h.behind,h.ahead,hm.len,h.nb,h.na⟩) fun _=> .ret hm
 refine .ite (fun _=>?_) fun _=>?_
 ·refine .ite (fun _=> .ret hm) fun c=>?_;obtain⟨k,x,⟨hk,g0,gw,g1,g2,g3,g4,g5⟩|hc⟩:=swap h.nb h.behind (by intro e;rw[e]at c;simp at c)
  ·rw[gw];refine .ite (fun e=>?_) fun e=>?_
   ·rw[if_pos (by rw[h.na e];rfl)];refine .zx qA ?_;rw[if_neg (by simp[g0])];exact .go g1 (D_ g2 (.ret ⟨g3,h.env,g4,iU z1 h.Gx,by simp only[w!];omega,z?,z?⟩))
   refine .zx qA ?_;rw[if_neg (by simp[g0])];exact .go g1 (D_ g2 (.ret ⟨g3,h.env,g4,iU h.ahead h.Gx,by simp only[t?,w!];omega,z?,z?⟩))
  omega
 refine .ite (fun _=>?_) fun _=>?_
 ·refine .ite (fun _=> .ret hm) fun c=>?_;obtain⟨k,x,⟨hk,g0,gw,g1,g2,g3,g4,g5⟩|hc⟩:=swap h.na h.ahead (by intro e;rw[e]at c;simp at c)
  ·rw[gw];refine .ite (fun e=>?_) fun e=>?_
   ·rw[if_pos (by rw[h.nb e];rfl)];refine .zx qA ?_;rw[if_neg (by simp[g0])];exact .go g1 (D_ g2 (.ret ⟨g3,h.env,iU z1 h.Gx,g4,by simp only[w!];omega,z?,z?⟩))
   refine .zx qA ?_;rw[if_neg (by simp[g0])];exact .go g1 (D_ g2 (.ret ⟨g3,h.env,iU h.behind h.Gx,g4,by simp only[t?,w!];omega,z?,z?⟩))
  omega
 refine .bind (S4 h.Gx h.env ho r r2) fun v hv=>?_;refine .ite (fun _=> .ret hm) fun c=>?_;have hw:=hv (by simpa using c);refine .ite (fun _=>?_) fun _=> .ret ⟨hw,h.env,h.behind,h.ahead,hm.len,h.nb,h.na⟩;refine .zx qA (q17 qA ?_);rw[if_neg v?];refine .ret ⟨hw,h.env,iU h.behind h.Gx,z?, ?_,z?,z?⟩;simp only[t?,w!,List.length_nil];omega
theorem q0b(n:Int)(hn:0<=n/\n<=1000)(ss:List qa)(hl:ss.length<=10):qJ (eZ n ss) (fun v=>v=false-> ∀s∈ss,(s.length:Int)<=n):=by
 have loop: ∀(r:List qa)(i:Nat)(m:Int),ss.drop i=r->0<=m->m<=n->qJ (bQ (m,(i:Int),ss)) (fun v=>match v with| .inl y=>y=true| .inr _=> ∀s∈r,(s.length:Int)<=n):=by intro r;induction r with|nil=>intro i m h _ _;have:=ze h;rw[bQ.eq_1,if_neg v?];exact .ret z?|cons x r ih=>intro i m h h0 h1;obtain⟨g1,g2,g3⟩:=zr h;rw[bQ.eq_1,if_pos v?,ws o?];have:= @gi;have:= @wi;exact tW
 unfold eZ;refine .bind (loop ss 0 n rfl hn.1 o?) fun v hv=>?_;rcases v with v|v;(have Hq:v=true:=hv;exact .ret fun h=>by rw[Hq]at h;cases h);exact .ret fun _=>hv
theorem q0v(many n:Int)(hm:0<=many/\many<=100)(hn:0<=n/\n<=1000)(es:Sl ql):qJ (i5 many n es) (fun v=>v=false->es.l.length<=many/\wP es.l<=n):=by
 unfold i5;refine .ite (fun _=> .ret z?) fun c=>?_;simp only[decide_eq_true_eq]at c;have loop: ∀(r:List ql)(i:Nat)(m:Int),es.l.drop i=r->0<=m->m<=n->qJ (bR (m,es,(i:Int))) (fun v=>match v with| .inl y=>y=true| .inr _=>(wP r:Int)<=m):=by intro r;induction r with|nil=>intro i m h _ _;have:=ze h;rw[bR.eq_1,if_neg v?];exact .ret (by simpa[wP])|cons x r ih=>intro i m h h0 h1;obtain⟨g1,g2,g3⟩:=zr h;rw[bR.eq_1,if_pos v?,ws o?];refine .go (gi g1) ?_;refine .ite (fun _=> .ret rfl) fun c=>?_;simp only[decide_eq_true_eq]at c;rw[wi (n:=m-(x.text.length:Int))];refine .mono (ih (i+1) _ g2 o? o?) fun v hv=>?_;rcases v with v|v;exact hv;simp only[wP,s?,y!]at hv |-;push_cast;omega
 refine .bind (loop es.l 0 n rfl hn.1 o?) fun v hv=>?_;rcases v with v|v;(have Hq:v=true:=hv;exact .ret fun h=>by rw[Hq]at h;cases h);have Hq:(wP es.l:Int)<=n:=hv;exact .ret fun _=>⟨o?,Hq⟩
theorem ops_tot(many n:Int)(hm:0<=many/\many<=50)(hn:0<=n/\n<=1000)(os:Sl bO):qJ (lQ many n os) (fun v=>v=false->os.l.length<=many/\ ∀o∈os.l,DA o):=by
 unfold lQ;refine .ite (fun _=> .ret z?) fun c=>?_;simp only[decide_eq_true_eq]at c;have l2: ∀(i:Nat)(x:bO),os.l[i]? =some x->x.edits.l.length<=10-> ∀(r:List ql)(k:Nat)(m:Int)(r0:List qa),x.edits.l.drop k=r->(wP r:Int)<=1000-> -5000+wP r<=m->m<=1000->qJ (mP (m,os,(i:Int),(k:Int),r0)) (fun v=>v=m-wP r):=by intro i x hx hxl r;induction r with|nil=>intro k m r0 h _ _ _;have:=ze h;rw[mP.eq_1];refine .go (gi hx) ?_;rw[if_neg v?];exact .ret (by simp[wP])|cons e r ih=>(intro k m r0 h h1 h2 h3;obtain⟨g1,g2,g3⟩:=zr h;have hs:(wP (e::r):Int)=e.text.length+wP r:=by simp[wP]);rw[mP.eq_1];refine .go (gi hx) ?_;rw[if_pos v?,ws o?];refine .go (gi g1) ?_;rw[wi (n:=m-(e.text.length:Int))];exact .mono (ih (k+1) _ r0 g2 o? o? o?) fun v hv=>o?
 have loop: ∀(r:List bO)(i:Nat)(m:Int),os.l.drop i=r->0<=m->m<=n->qJ (mO (m,os,(i:Int))) (fun v=>match v with| .inl y=>y=true| .inr _=> ∀o∈r,DA o):=by intro r;induction r with|nil=>intro i m h _ _;have:=ze h;rw[mO.eq_1,if_neg v?];exact .ret z?|cons x r ih=>intro i m h h0 h1;obtain⟨g1,g2,g3⟩:=zr h;rw[mO.eq_1,if_pos v?,ws o?];refine .go (gi g1) ?_;refine .bind (q0b m ⟨h0,o?⟩ [x.name,x.text] z?) fun v hv=>?_;refine .ite (fun _=> .ret rfl) fun c1=>?_;have EL:=hv (by simpa using c1);have hname:=EL x.name z?;have htext:=EL x.text z?;refine .ite (fun _=> .ret rfl) fun c2=>?_;refine .ite (fun _=> .ret rfl) fun c3=>?_;simp only[decide_eq_true_eq]at c2 c3;refine .bind (q0v 10 m o? ⟨h0,o?⟩ x.edits) fun u hu=>?_;refine .ite (fun _=> .ret rfl) fun c4=>?_;obtain⟨u1,u2⟩:=hu (by simpa using c4);rw[wi (n:=m-(x.name.length:Int)),wi (n:=m-(x.name.length:Int)-(x.text.length:Int))];refine .bind (l2 i x g1 o? x.edits.l 0 _ _ rfl o? o? o?) fun w hw=>?_;refine .ite (fun _=> .ret rfl) fun c5=>?_;simp only[decide_eq_true_eq]at c5;refine .mono (ih (i+1) w g2 o? o?) fun z hz=>?_;rcases z with z|z;exact hz;intro o ho;rcases U?.1 ho with rfl|ho;exact⟨o?,o?,o?,o?⟩;exact hz o ho
 refine .bind (loop os.l 0 n rfl hn.1 o?) fun v hv=>?_;rcases v with v|v;(have Hq:v=true:=hv;exact .ret fun h=>by rw[Hq]at h;cases h);exact .ret fun _=>⟨o?,hv⟩
theorem well0:vj ⟨[],⟨false,[⟨0,0⟩]⟩,⟨true,[]⟩⟩:=by refine⟨⟨z?,z?,z?,z?,fun x hx=>?_,by simp[Sq],z?,fun j s hs=>by simp at hs⟩,z?,z?,z?⟩;simp only[a?]at hx;subst hx;exact⟨by decide,by decide⟩
theorem new_ok:iL=some (.inr (0,[],⟨false,[⟨0,0⟩]⟩,⟨true,[]⟩,⟨true,[]⟩)):=by unfold iL;rw[sc.eq_1,if_neg z?];rfl
end Xr
namespace Xr
theorem F8(os:Sl bO)(hl:os.l.length<=40)(hO: ∀o∈os.l,DA o)(t2:qv): ∀(r:List bO)(i:Nat)(b:qa)(q:Sl qy)(ss:Sl qb)(env:Sl qw)(r1 r2:Sl qv),os.l.drop i=r->MW b q ss env r1 r2 i->
  qJ (kQ (os,(i:Int),t2,b,q,ss,env,r1,r2)) (fun v=>vj ⟨v.1,v.2.1,v.2.2.1⟩):=by intro r;induction r with|nil=>intro i b q ss env r1 r2 h hw;have:=ze h;rw[kQ.eq_1,if_neg v?];exact .ret hw.Gx|cons o r ih=>intro i b q ss env r1 r2 h hw;obtain⟨g1,g2,g3⟩:=zr h;rw[kQ.eq_1,if_pos v?,ws o?];refine .go (gi g1) ?_;refine .bind (OT hw o? (hO o (z6 g1))) fun v hv=>?_;rcases v with y|y|y|y;exact ih (i+1) _ _ _ _ _ _ g2 hv;exact ih (i+1) _ _ _ _ _ _ g2 hv;exact ih (i+1) _ _ _ _ _ _ g2 hv;exact ih (i+1) _ _ _ _ _ _ g2 hv
theorem Ta(os:Sl bO)(hl:os.l.length<=40)(hO: ∀o∈os.l,DA o):qJ (ff os) vj:=by unfold ff;refine .go new_ok ?_;refine .bind (F8 os hl hO _ os.l 0 _ _ _ _ _ _ rfl ⟨well0,⟨z?,z?⟩,z?,z?,z?,z?,z?⟩) fun v hv=> .ret hv
end Xr
namespace Xr
theorem X5(x n:Int)(h0:0<n)(h1:n<=2^40):qJ (mN x n) (fun v=>0<=v/\v<n):=by
 have hw:L!.wrap n=n:=by simp only[q1f,q1g,q13];simp;omega
 have hx:0<=L!.wrap x:=by simp only[q1f,q1g,q13];simp;omega
 unfold mN;rw[hw,if_pos o?];have h2:=Int.tmod_nonneg n hx;have h3:=Int.tmod_lt_of_pos (L!.wrap x) h0;rw[wi (n:=(L!.wrap x).tmod n)];exact .ret ⟨h2,h3⟩
theorem shift_st{st:qv}(h:vj st){s:qb}(hs:s∈st.qo.l){e:ql}(he:kM e st.text.length)(a k:Int)(ho:OwnE e s a k): ∃(fl flags:Sl (Sl Int))(L:List TS)(hh:List Bool)(sd:List Int)(last o:Int),uA s=some fl/\
  wq s a k e true false fl=some (⟨s.cur,⟨(NI e sd 0 s.insts.l).isEmpty,NI e sd 0 s.insts.l⟩⟩,fl,flags)/\uV s a k e=some ⟨s.cur,⟨(NI e sd 0 s.insts.l).isEmpty,NI e sd 0 s.insts.l⟩⟩/\Sv e st.text.length s true a k L hh sd last o:=by obtain⟨fl,f1,f2⟩:=lI s (h.small s hs);obtain⟨s',flags,L,hh,sd,last,o,k1,k2,X,rfl⟩:=shift_eq e st.text.length he s (h.small s hs) (h.may.may s hs) e.span (Qb _) a k (ho.imp id .inr) fl f2 (fun i hi x hx=>stopC_of (h.stop s hs i hi x hx));exact⟨fl,flags,L,hh,sd,last,o,f1,k1,k2,X⟩
theorem FQ{st:qv}(h:vj st){s:qb}(hs:s∈st.qo.l):0<s.insts.l.length:=by have:=h.JS s hs;rcases Nat.eq_zero_or_pos s.insts.l.length with c|c;rw[List.length_eq_zero_iff.1 c]at this;exact absurd rfl this;exact c
theorem TG{st:qv}(h:vj st){s:qb}(hs:s∈st.qo.l)(e:ql)(ht:e.text.length<=30){A K:Nat}{i:qj}{x:qq}(hi:s.insts.l[A]? =some i)(hx:i.stops.l[K]? =some x){β:Type}{Q:β->Prop}(f:ql->Option β)
  (hf: ∀e',kM e' st.text.length->zY e'.span x.span->e'.text=e.text->qJ (f e') Q):
  qJ (mN e.span.qB (q?.wrap ((q?.wrap (x.span.to-x.span.qB))+(1:Int)))>>=fun v=>
   mN e.span.to (q?.wrap ((q?.wrap (x.span.to-(q?.wrap (x.span.qB+v))))+(1:Int)))>>=fun w=>f (ql.mk (qn.mk (q?.wrap (x.span.qB+v)) (q?.wrap ((q?.wrap (x.span.qB+v))+w))) e.text)) Q:=by have Ju:=h.may.text;have hm:=(h.may.may s hs).may A i hi;have h1:=hm.inside K x hx;have h2:=hm.le K x hx;have h3:=hm.Qr;rw[wi (n:=x.span.to-x.span.qB),wi (n:=x.span.to-x.span.qB+1)];refine .bind (X5 _ _ o? o?) fun v hv=>?_;rw[wi (n:=x.span.qB+v),wi (n:=x.span.to-(x.span.qB+v)),wi (n:=x.span.to-(x.span.qB+v)+1)];refine .bind (X5 _ _ o? o?) fun w hw=>?_;rw[wi (n:=x.span.qB+v+w)];refine hf _ ⟨u?,u?,u?,u?,o?⟩ ?_ rfl;unfold zY;simp only;omega
end Xr
namespace Xr
section
variable {m:Nat} {F W U:Nat->Int} {n:Int} {H:Nat->Prop} {a b last:Int} {sF:Nat->Int}
theorem Ok(hR:Row m F W U n){r:Nat}(hr:r<m): ∀q:Nat,q<r->U r<q->W q<=F r:=by intro q;induction q using p? with|_ q ih=>intro h1 h2;have hp:=hR.pre r hr q h1 h2;have hu:=hR.up r hr;by_cases c:U q=U r;exact hR.B3 r hr q h1 c;have hq:=hR.up q o?;obtain⟨p,hp2⟩: ∃p:Nat,U q=p:=⟨(U q).toNat,o?⟩;have:=ih p o? o? o?;have:=hR.nest q o? p hp2;omega
theorem Ym{c p r:Nat}(h1:pV U c p)(h2:pV U p r):pV U c r:=by induction h2 with|self=>exact h1|up x q _ hq ih=>exact .up x q ih hq
theorem On(hR:Row m F W U n){q:Nat}: ∀r,r<m->q<r-> ¬pV U r q-> ∃r',pV U r r' /\q<r' /\U r' <q:=by intro r;induction r using p? with|_ r ih=>intro hr hq hn;have hu:=hR.up r hr;by_cases c:U r<q;exact⟨r,.self,hq,c⟩;obtain⟨p,hp⟩: ∃p:Nat,U r=p:=⟨(U r).toNat,o?⟩;have a1:pV U r p:= .up r p .self hp;by_cases c2:p=q;subst c2;exact absurd a1 hn;obtain⟨r',g1,g2,g3⟩:=ih p o? o? o? (fun g=>hn (Ym a1 g));exact⟨r',Ym a1 g1,g2,g3⟩
theorem anc_F(hR:Row m F W U n){r r' :Nat}(hr:r<m)(h:pV U r r'):F r' <=F r:=by induction h with|self=>exact Int.le_refl _|up x p hx hp ih=>have:=eo hR hr hx;have:=hR.nest x o? p hp;omega
theorem WG(hR:Row m F W U n)(hH:Vx m F W U H a b)(hS:DD m F W U H a b last sF){y:Nat}(hy:y<m)(h1: ¬(F y<b/\a<W y)\/H y)(h2: ∀p:Nat,U y=p->sF p≠1):sF y≠1:=by have hu:=hR.up y hy;by_cases hh:H y;rw[hS.holds y hy hh];omega;have h1:=h1.resolve_right hh;by_cases w: ∃p:Nat,U y=p/\ ¬H p;obtain⟨p,hp,w⟩:=w;rw[hS.Zj y hy hh h2 h1 p hp w];exact h2 p hp;have g2: ∀p' :Nat,U y=p' ->sF p' ≠1/\H p' :=fun p' e=>⟨h2 p' e,Classical.byContradiction fun c=>w ⟨p',e,c⟩⟩;by_cases z:W y<a\/W y=a/\(F y<W y\/(y:Int)<last\/last<0);rw[hS.left y hy hh g2 h1 z];omega;rw[hS.right y hy hh g2 h1 z];omega
end
section
variable (a b c:Int) (sF:Nat->Int)
theorem NU: ∀(st:List qq)(b0 k0 j:Nat)(x:qq),st[j]? =some x->(∀ q,q<=j->sF (b0+(k0+q))≠1)->(bj a b c sF b0 k0 st)[j]? =some (U5 a b c sF b0 (k0+j) x):=by intro st;induction st with|nil=>intro b0 k0 j x h;simp at h|cons y st ih=>intro b0 k0 j x h hs;have h0:=hs 0 o?;rw[M?]at h0;rw[bj,if_neg h0];cases j with|zero=>simp only[c?,ki]at h;subst h;rfl|succ j=>rw[i?]at h |-;rw[ih b0 (k0+1) j x h (fun q hq=>by have:=hs (q+1) o?;rwa[show k0+1+q=k0+(q+1) by omega]),show k0+1+j=k0+(j+1) by omega]
theorem A1: ∀(st:List qq)(b0 k0:Nat),(∀ q,q<st.length->sF (b0+(k0+q))≠1)->(bj a b c sF b0 k0 st).length=st.length:=by intro st;induction st with|nil=>intro b0 k0 _;rfl|cons y st ih=>intro b0 k0 hs;have h0:=hs 0 z?;rw[M?]at h0;rw[bj,if_neg h0,h?,h?,ih b0 (k0+1) (fun q hq=>by have:=hs (q+1) v?;rwa[show k0+1+q=k0+(q+1) by omega])]
theorem q0B: ∀(is:List qj)(b0 j:Nat)(i:qj),is[j]? =some i->(∀ q,q<=j->sF (b0+qm is q)≠1)->(vN a b c sF b0 is)[j]? =some (l9 a b c sF (b0+qm is j) i):=by intro is;induction is with|nil=>intro b0 j i h;simp at h|cons y is ih=>(intro b0 j i h hs;have hb:qm (y::is) 0=0:=by simp[qm]);have h0:=hs 0 o?;rw[hb,M?]at h0;rw[vN,if_neg h0];cases j with|zero=>simp only[c?,ki]at h;subst h;rw[hb];rfl|succ j=>rw[i?]at h |-;rw[ih (b0+1+y.stops.l.length) j i h (fun q hq=>by have:=hs (q+1) o?;rw[mJ]at this;rwa[show b0+1+y.stops.l.length+qm is q=b0+(1+y.stops.l.length+qm is q) by omega]),mJ,show b0+1+y.stops.l.length+qm is j=b0+(1+y.stops.l.length+qm is j) by omega]
end
section
variable {e:ql} {n:Int} {s:qb} {a k:Int} {L:List TS} {h:List Bool} {sd:List Int} {last o:Int}
theorem DQ(X:Sv e n s true a k L h sd last o)(he:kM e n)(hm:mm s.insts.l n){A K:Nat}{i:qj}{x:qq}(ho:o=((qm s.insts.l A+1+K:Nat):Int))(hi:s.insts.l[A]? =some i)(hx:i.stops.l[K]? =some x)(hw:zY e.span x.span):
  (∀(j:Nat)(y:qj),j≠A->s.insts.l[j]? =some y-> ∀r,r<=y.stops.l.length->pC sd (qm s.insts.l j+r)≠1/\h[qm s.insts.l j+r]? ≠some true)/\(∀ r,r<=K+1->pC sd (qm s.insts.l A+r)≠1)/\pC sd (qm s.insts.l A+(K+1))=0:=by
 have eL:=he.ab;have hE:=X.ex rfl _ ho;have hAl:=(qF hi).1;have hKl:=(qF hx).1;obtain⟨f0,f1,f2,f3⟩:=QC s X.rows A K i x hi hx;have Ho:qm s.insts.l A+1+K<(L.map strOf).length:=by simpa using f0
 have Tv:=hE.Ew _ .self;unfold zY at hw;have xin:=(hm.may A i hi).inside K x hx;have xle:=(hm.may A i hi).le K x hx;refine⟨fun j y hjA hj r=>?_,fun r=>?_, ?_⟩;(have Vr:=(qF hj).1;have yrg:=(hm.may j y hj).Qr;have nh: ∀r,r<=y.stops.l.length->h[qm s.insts.l j+r]? ≠some true:=fun r hr c=>by have:=Zd X hm ho hi hx _ c;rcases z_ hjA with q|q;have:=aL s.insts.l j A y q hj o?;omega;have:=aL s.insts.l A j i q hi o?;omega);(induction r using p? with|_ r ih=>(intro hr;refine⟨?_,nh r hr⟩;have apart:y.span.to<=i.span.qB\/i.span.to<=y.span.qB:=by rcases z_ hjA with q|q;exact .inl (hm.G9 j A y i q hj hi);exact .inr (hm.G9 A j i y q hi hj));cases r with|zero=>obtain⟨g0,g1,g2,g3⟩:=PU s X.rows j y hj;rw[M?];exact WG X.row X.hold X.side (by simpa using g0) (.inl o?) (fun p hp=>o?)|succ r=>obtain⟨z,hz⟩:=gl (l:=y.stops.l) (k:=r) o?;obtain⟨g0,g1,g2,g3⟩:=QC s X.rows j r y z hj hz;have zin:=(hm.may j y hj).inside r z hz;have zup:=(hm.may j y hj).up r z hz;rw[show qm s.insts.l j+(r+1)=qm s.insts.l j+1+r by omega];refine WG X.row X.hold X.side (by simpa using g0) (.inl o?) (fun p hp=>?_);have:=(ih (z.up+1).toNat o? o?).1;rwa[show qm s.insts.l j+(z.up+1).toNat=p by omega]at this);(induction r using p? with|_ r ih=>intro hr;have Pa:qm s.insts.l A+r<(L.map strOf).length:=o?;refine WG X.row X.hold X.side Pa ?_ (fun p hp=>?_);by_cases c:r=K+1;subst c;right;rw[show qm s.insts.l A+(K+1)=qm s.insts.l A+1+K by omega];exact Tv;by_cases c2:pV (UL L) (qm s.insts.l A+1+K) (qm s.insts.l A+r);exact .inr (hE.Ew _ c2);left;obtain⟨r',g1,g2,g3⟩:=On X.row (qm s.insts.l A+1+K) Ho (q:=qm s.insts.l A+r) o? c2;have:=Ok X.row (r:=r') (by have:=eo X.row Ho g1;omega) _ g2 g3;have:=anc_F X.row Ho g1;omega;have hu:=X.row.up _ Pa;by_cases c:r=0;subst c;rw[M?]at hp;have:=(PU s X.rows A i hi).2.2.2;omega;obtain⟨z,hz⟩:=gl (l:=i.stops.l) (k:=r-1) o?;have g3:=(QC s X.rows A (r-1) i z hi hz).2.2.2;have zup:=(hm.may A i hi).up (r-1) z hz;rw[show qm s.insts.l A+1+(r-1)=qm s.insts.l A+r by omega]at g3;have:=ih (p-qm s.insts.l A) o? o?;rwa[show qm s.insts.l A+(p-qm s.insts.l A)=p by omega]at this);rw[show qm s.insts.l A+(K+1)=qm s.insts.l A+1+K by omega];exact X.side.holds _ Ho Tv
end
def done(t:qa)(e:ql):qa:=t.take e.span.qB.toNat++e.text++t.drop e.span.to.toNat
theorem BZ{t:qa}{e:ql}(he:kM e t.length):((done t e).length:Int)=t.length+(e.text.length-(e.span.to-e.span.qB)):=by have:=he.a0;have:=he.ab;have:=he.bn;simp only[done,t?,List.length_take,List.length_drop];omega
theorem Fb{t:qa}{e:ql}(he:kM e t.length)(p:qn)(h0:0<=p.qB)(h1:p.qB<=p.to)(h2:p.to<=t.length)(side:Int)(hs:side=2/\p.to<=e.span.qB\/side=3/\(e.span.to<=p.qB\/p.qB=e.span.qB/\p.to=e.span.qB)):
  ∃u,jj t p.qB p.to=some u/\jj (done t e) (Xa e.span.qB e.span.to e.text.length side p).qB (Xa e.span.qB e.span.to e.text.length side p).to=some u:=by
 have a0:=he.a0;have ab:=he.ab;have bn:=he.bn;have dl:=BZ he;refine⟨(t.take p.to.toNat).drop p.qB.toNat, ?_, ?_⟩;unfold jj;rw[if_pos ⟨⟨h0,o?⟩,o?,o?⟩];rcases hs with ⟨rfl,hs⟩|⟨rfl,hs⟩;{(have e1:Xa e.span.qB e.span.to e.text.length 2 p=p:=by unfold Xa mv;rw[if_neg o?];cases p;simp only[show decide ((2:Int)=3)=false from rfl,ko,if_false,qn.mk.injEq]at*;omega);rw[e1];unfold jj;rw[if_pos ⟨⟨h0,o?⟩,o?,o?⟩];unfold done;rw[k_,List.take_append_of_le_length v?,List.take_take];rw[show min p.to.toNat e.span.qB.toNat=p.to.toNat by omega]};have hd: ∀z:Int,Xa e.span.qB e.span.to e.text.length 3 p=⟨mv e.span.qB e.span.to e.text.length true p.qB,mv e.span.qB e.span.to e.text.length true p.to⟩:=fun _=>by unfold Xa;rw[if_neg o?];rfl
 rw[hd 0];by_cases c:e.span.to<=p.qB;{(have m1:mv e.span.qB e.span.to e.text.length true p.qB=p.qB+(e.text.length-(e.span.to-e.span.qB)):=by unfold mv;simp only[if_true];omega);(have m2:mv e.span.qB e.span.to e.text.length true p.to=p.to+(e.text.length-(e.span.to-e.span.qB)):=by unfold mv;simp only[if_true];omega);rw[m1,m2];show jj (done t e) (p.qB+(↑e.text.length-(e.span.to-e.span.qB))) (p.to+(↑e.text.length-(e.span.to-e.span.qB)))=_;unfold jj;rw[if_pos ⟨⟨o?,o?⟩,o?,o?⟩];congr 1;unfold done;have l1:(t.take e.span.qB.toNat++e.text).length=e.span.qB.toNat+e.text.length:=v?;rw[c_,c_,List.drop_append,List.drop_eq_nil_of_le (by rw[l1];omega),F?,List.drop_drop,l1];rw[show (p.to+(↑e.text.length-(e.span.to-e.span.qB))).toNat-(p.qB+(↑e.text.length-(e.span.to-e.span.qB))).toNat=p.to.toNat-p.qB.toNat by omega,show e.span.to.toNat+((p.qB+(↑e.text.length-(e.span.to-e.span.qB))).toNat-(e.span.qB.toNat+e.text.length))=p.qB.toNat by omega]};obtain⟨c1,c2⟩:=hs.resolve_left c;rw[c1,c2];have m1:mv e.span.qB e.span.to e.text.length true e.span.qB=e.span.qB+e.text.length:=by unfold mv;simp only[if_true];omega
 rw[m1];show jj (done t e) (e.span.qB+ ↑e.text.length) (e.span.qB+ ↑e.text.length)=_;unfold jj;rw[if_pos ⟨⟨o?,o?⟩,o?,o?⟩];rw[c_,c_];simp
end Xr
end Go.Proofs.YtnojdepmnnebnaaGreat
namespace Go.Proofs.YtnojdepmnnebnaaGreat
namespace StM
open Go Go.Gm
theorem A9(i:qj)(k:Nat)(x:qq)(hk:qh i.stops.l k=some x)(u:Nat):u<i.stops.l.length->
  ∃t:Bool,kI (i.stops,(u:Int),x.up)=some (if t then .inl true else .inr ())/\
   jM ((k:Int),(u:Int),i)=some (if x.up==(u:Int) || t then .inl true else .inr ()):=by induction u using p? with|_ u ih=>intro LI;have hx:=xd LI;generalize i.stops.l[u]=y at hx;by_cases hv:0<=y.up/\y.up<u;obtain⟨v,Hq⟩: ∃v:Nat,y.up=v:=⟨y.up.toNat,o?⟩;obtain⟨t,h1,h2⟩:=ih v o? o?;refine⟨(y.up==x.up) || t, ?_, ?_⟩;rw[kI.eq_1];by_cases e:y.up=x.up;(have e2:(y.up==x.up)=true:=by simpa using e);simp only[hx,zF,qS,e2];simp[LI,hv];(have e2:(y.up==x.up)=false:=by simpa using e);simp only[hx,zF,qS,e2];have hvu:v<u:=o?;simp[LI,Hq,h1,hvu];rw[jM.eq_1];by_cases e:x.up=u;simp[hk,e];(have e2:(x.up==(u:Int))=false:=by simpa using e);(have hs:ax i u=some (v:Int):=by unfold ax;rw[hx];simp only[zF,qS];rw[if_pos (by simp[Hq];omega),Hq]);simp only[hk,hs,zF,qS,e2,h2];have:(x.up==(v:Int))=((v:Int)==x.up):=BEq.comm;simp[this,Hq];refine⟨false, ?_, ?_⟩;rw[kI.eq_1];by_cases h:0<=y.up;have h2: ¬y.up<u:=fun h2=>hv ⟨h,h2⟩;simp[hx,LI,h,h2];simp[hx,LI,h];rw[jM.eq_1];by_cases e:x.up=u;simp[hk,e];(have e2:(x.up==(u:Int))=false:=by simpa using e);(have hs:ax i u=some (-1):=by unfold ax;rw[hx];simp only[zF,qS];rw[if_neg v?]);(have hn:jM ((k:Int),-1,i)=some (.inr ()):=by rw[jM.eq_1];rfl);simp only[hk,hs,zF,qS,e2,hn];simp
theorem LW(l:Sl qq)(u:Nat)(b:Int):kI (l,(u:Int),b)=some (.inl true)->0<=b/\b<u:=by induction u using p? with|_ u ih=>intro h;rw[kI.eq_1]at h;by_cases LI:u<l.l.length;have hx:=xd LI;generalize l.l[u]=y at hx;simp only[hx,zF,qS]at h;by_cases hv:0<=y.up/\y.up<u;obtain⟨v,Hq⟩: ∃v:Nat,y.up=v:=⟨y.up.toNat,o?⟩;by_cases e:y.up=b;omega;have hvu:v<u:=o?;simp[LI,Hq,hvu]at h;have:=ih v o? (h o?);omega;by_cases h0:0<=y.up;have h2: ¬y.up<u:=fun h2=>hv ⟨h0,h2⟩;simp[LI,h0,h2]at h;simp[LI,h0]at h;simp[LI]at h
theorem Rf(i:qj)(k:Nat)(x:qq)(hk:qh i.stops.l k=some x)(hl:i.stops.l.length<2^60):
  ∃t:Bool,gx i k=some t/\(t=true-> -1<=x.up/\x.up<k)/\
   (x.up= -1->t=true)/\(x.up≠ -1->0<=x.up->x.up<k->(x.up=(k:Int)-1->t=true)/\(x.up≠(k:Int)-1->tu i.stops ((k:Int)-1) x.up=some t)):=by
 have pf:k<i.stops.l.length:=by have:=Ql hk;simpa using this
 have hw:q?.wrap ((k:Int)-1)=(k:Int)-1:=qH o? o?;cases k with|zero=>refine⟨x.up== -1, ?_, ?_, ?_, ?_⟩;unfold gx;rw[hw,jM.eq_1];simp only[B_]at hk |-;simp[hk];intro h;simp at h;omega;intro h;simp[h];intro _ h1 h2;omega|succ k=>(obtain⟨t,h1,h2⟩:=A9 i (k+1) x hk k o?;have e1:((k+1:Nat):Int)-1=(k:Int):=o?;have e2:q?.wrap (((k+1:Nat):Int)-1)=(k:Int):=by rw[hw,e1]);(have hu:t=true->0<=x.up/\x.up<k:=by intro ht;subst ht;exact LW i.stops k x.up (by simpa using h1));refine⟨(x.up==(k:Int)) || t || (x.up== -1), ?_, ?_, ?_, ?_⟩;unfold gx;rw[e2,h2];by_cases e:(x.up==(k:Int) || t)=true;simp[e];(simp only[q1i]at e;have ZG:qh i.stops.l ((k:Int)+1)=some x:=by simpa using hk);simp[e,ZG];intro h;simp only[z!,beq_iff_eq]at h;rcases h with (h|h)|h;omega;have:=hu h;omega;omega;intro h;simp[h];(intro h0 h3 h4;rw[e1];refine⟨fun h=>by simp[h],fun h=>?_⟩;unfold tu;rw[h1];have:(x.up==(k:Int))=false:=by simpa using h);(have h5:(x.up==(-1:Int))=false:=by simpa using h0);cases t<;>simp[this,h5]
def dj(x:qq):List qq->Bool
 |[]=>false
 |y::r=>(y.up==x.up&&decide (x.span.qB<y.span.to)) || dj x r
theorem KQ(x:qq): ∀l:List qq,dj x l=true↔ ∃(q:Nat)(y:qq),l[q]? =some y/\y.up=x.up/\x.span.qB<y.span.to
 |[]=>by simp[dj]
 |y::r=>by simp only[dj,z!,zO,beq_iff_eq,decide_eq_true_eq,KQ x r];constructor;rintro(h|⟨q,z,h⟩);exact⟨0,y,rfl,h⟩;exact⟨q+1,z,by simpa using h.1,h.2⟩;rintro⟨q,z,h1,h2⟩;cases q with|zero=>simp at h1;subst h1;exact .inl h2|succ q=>exact .inr ⟨q,z,by simpa using h1,h2⟩
theorem RI(i:qj)(x:qq)(b:qn)(k:Nat)(hk:k<=i.stops.l.length)(hl:i.stops.l.length<2^60): ∀(n j:Nat),j+n=k->
  xD ((k:Int),(j:Int),i,x,b)=some (if dj x ((i.stops.l.take k).drop j)=true then .inl false else .inr ()):=by intro n;induction n with|zero=>intro j hj;obtain rfl:j=k:=o?;rw[xD.eq_1];have:(i.stops.l.take j).drop j=[]:=z?;simp[this,dj]|succ n ih=>(intro j hj;have Vr:j<i.stops.l.length:=o?;have Vq:j<k:=o?;have hd:(i.stops.l.take k).drop j=i.stops.l[j]::(i.stops.l.take k).drop (j+1):=by rw[List.drop_eq_getElem_cons v?];simp);have hw:q?.wrap ((j:Int)+1)=((j+1:Nat):Int):=pE o?;have hx:=xd Vr;rw[hd];generalize i.stops.l[j]=y at hx;rw[xD.eq_1];simp only[hx,zF,qS,hw,ih (j+1) o?,dj];by_cases h1:y.up=x.up;by_cases h2:x.span.qB<y.span.to;simp[h1,h2,Vq];simp[h1,h2,Vq];simp[h1,Vq]
def Qn(i:qj)(x:qq):Bool:=
 if 0<=x.up then match i.stops.l[x.up.toNat]? with
  |some y=>decide (x.span.qB>=y.span.qB)&&decide (x.span.to<=y.span.to)
  |none=>false
 else decide (x.span.qB>=i.span.qB)&&decide (x.span.to<=i.span.to)
def q0I(i:qj)(k:Nat)(x:qq)(t:Bool):Bool:=
 t&&decide (x.span.qB<=x.span.to)&& !(dj x (i.stops.l.take k))&&Qn i x
theorem Er(a b:qn):xl a b=some (decide (a.qB>=b.qB)&&decide (a.to<=b.to)):=by unfold xl;by_cases h:a.qB>=b.qB<;>simp[h]
theorem Si(a b:qn):gv a b=some (decide (a.qB>=b.qB)&&decide (a.to<=b.to)):=by unfold gv;by_cases h:a.qB>=b.qB<;>simp[h]
theorem AO(i:qj)(k:Nat)(hk:k<i.stops.l.length)(hl:i.stops.l.length<2^60):
  ∃t:Bool,gx i k=some t/\(t=true-> -1<=i.stops.l[k].up/\i.stops.l[k].up<k)/\
  zD ((k:Int),i)=if q0I i k i.stops.l[k] t=true then zD (((k+1:Nat):Int),i)else some (.inl false):=by
 have hx:=xd hk;generalize i.stops.l[k]=x at hx;obtain⟨t,h1,h2,h3,h4⟩:=Rf i k x hx hl;refine⟨t,h1,h2, ?_⟩;have hw:q?.wrap ((k:Int)+1)=((k+1:Nat):Int):=pE o?;have P9:q?.wrap ((k:Int)-1)=(k:Int)-1:=qH o? o?;have hb:=fun b=>RI i x b k o? hl k 0 o?;simp only[B_,List.drop_zero]at hb;rw[zD.eq_1];simp only[hx,zF,qS,hw,P9,hb,Er];have xJ:decide ((k:Int)<(i.stops.l.length:Int))=true:=by simpa using hk
 rw[if_pos xJ];have tail: ∀(b:qn)(q:Bool),(b.qB<=x.span.qB/\x.span.to<=b.to↔q=true)->
   (if decide (x.span.qB>x.span.to)=true then some (.inl false)else if(!(decide (x.span.qB>=b.qB)&&decide (x.span.to<=b.to)))=true then some (.inl false)
    else(some (if dj x (i.stops.l.take k)=true then(.inl false:Bool⊕Unit)else .inr ())).bind fun v=>match v with
     | .inl y=>some (.inl y)
     | .inr _=>zD (((k+1:Nat):Int),i))=
   if(decide (x.span.qB<=x.span.to)&& !(dj x (i.stops.l.take k))&&q)=true then zD (((k+1:Nat):Int),i)else some (.inl false):=by
  intro b q hq;by_cases h1:x.span.qB>x.span.to
  ·have: ¬x.span.qB<=x.span.to:=o?;simp[h1,this]
  have h1' :x.span.qB<=x.span.to:=o?;cases q with
  |true=>
   obtain⟨a1,a2⟩:=hq.2 rfl;cases dj x (i.stops.l.take k)<;>simp[h1',a1,a2]<;>omega
  |false=>
   have:(decide (x.span.qB>=b.qB)&&decide (x.span.to<=b.to))=false:=by
    rw[Bool.eq_false_iff];intro h;simp only[zO,decide_eq_true_eq]at h;cases hq.1 h
   simp[this]
 by_cases hu:x.up= -1;(have ht:=h3 hu;subst ht;have e1:(x.up != -1)=false:=by simp[hu]);(have e2:decide (x.up>=0)=false:=by simp[hu]);have e3: ¬0<=x.up:=o?;simp only[e1,e2,q0I,Qn,e3,if_false,ko,l_];exact tail i.span (decide (x.span.qB>=i.span.qB)&&decide (x.span.to<=i.span.to)) z?;have e1:(x.up != -1)=true:=by simp[hu]
 by_cases hr:0<=x.up/\x.up<k;(obtain⟨h5,h6⟩:=h4 hu hr.1 hr.2;have e0:(decide (x.up<0) || decide (x.up>=(k:Int)))=false:=v?;have e2:decide (x.up>=0)=true:=v?;obtain⟨v,hv⟩: ∃v:Nat,x.up=v:=⟨x.up.toNat,o?⟩;have Nk:v<i.stops.l.length:=o?;have hy:=xd Nk;have XT:i.stops.l[x.up.toNat]? =some i.stops.l[v]:=by rw[hv];simp[Nk]);(generalize i.stops.l[v]=y at hy XT;have LM:qh i.stops.l x.up=some y:=by rw[hv];exact hy);have o4:=tail y.span (decide (x.span.qB>=y.span.qB)&&decide (x.span.to<=y.span.to)) z?;simp only[e1,e0,e2,q0I,Qn,hr.1,LM,XT,if_true,ko,if_false,qS];by_cases h7:x.up=(k:Int)-1;(have:=h5 h7;subst this;have e3:(x.up != (k:Int)-1)=false:=by simp[h7]);simp only[e3,ko,if_false,l_];exact o4;(have e3:(x.up != (k:Int)-1)=true:=by simp[h7]);(simp only[e3,if_true,h6 h7,qS];cases t with|true=>simp only[q1w,ko,if_false,l_];exact o4|false=>simp);have e0:(decide (x.up<0) || decide (x.up>=(k:Int)))=true:=by simp only[z!,decide_eq_true_eq];omega
 have:t=false:=by cases t with|true=>have:=h2 rfl;omega|false=>rfl
 subst this;simp[e1,e0,q0I]
theorem Ri(i:qj)(k:Nat)(hk:k<i.stops.l.length)(hl:i.stops.l.length<2^60)(t:Bool)(ht:gx i k=some t)(QR:t=true-> -1<=i.stops.l[k].up/\i.stops.l[k].up<k)(vH:pG):
  vi (i.stops,(i.stops.l.length:Int),(k:Int),i,vH)=
   if(t&&decide (i.stops.l[k].span.qB<=i.stops.l[k].span.to)&& !(J0 vH i.stops.l[k].up&&decide (i.stops.l[k].span.qB<K3 vH i.stops.l[k].up))&&
    Qn i i.stops.l[k])=true
   then vi (i.stops,(i.stops.l.length:Int),((k+1:Nat):Int),i,VY vH i.stops.l[k].up i.stops.l[k].span.to)else some (.inl (false,vH)):=by
 have hx:=xd hk;generalize i.stops.l[k]=x at hx QR;have hw:q?.wrap ((k:Int)+1)=((k+1:Nat):Int):=pE o?;have xJ:decide ((k:Int)<(i.stops.l.length:Int))=true:=by simpa using hk
 rw[vi.eq_1,if_pos xJ];simp only[hx,ht,zF,qS,hw,Si];cases t with|false=>simp|true=>have:=QR rfl;by_cases h1:x.span.qB>x.span.to;have h2: ¬x.span.qB<=x.span.to:=o?;simp[h1,h2];have h2:x.span.qB<=x.span.to:=o?;by_cases hu:0<=x.up;(obtain⟨v,hv⟩: ∃v:Nat,x.up=v:=⟨x.up.toNat,o?⟩;have Nk:v<i.stops.l.length:=o?;have hy:=xd Nk;have XT:i.stops.l[x.up.toNat]? =some i.stops.l[v]:=by rw[hv];simp[Nk]);(generalize i.stops.l[v]=y at hy XT;have LM:qh i.stops.l x.up=some y:=by rw[hv];exact hy);simp only[LM,XT,qS,Qn];by_cases h3:x.span.qB>=y.span.qB<;>by_cases h4:x.span.to<=y.span.to<;>cases J0 vH x.up<;>by_cases h5:x.span.qB<K3 vH x.up<;>simp[h1,h2,hu,h3,h4,h5]<;>omega;simp only[Qn];by_cases h3:x.span.qB>=i.span.qB<;>by_cases h4:x.span.to<=i.span.to<;>cases J0 vH x.up<;>by_cases h5:x.span.qB<K3 vH x.up<;>simp[h1,h2,hu,h3,h4,h5]<;>omega
structure ZJ (l:List qq) (k:Nat) (vH:pG):Prop where
 fwd: ∀(j:Nat) x,j<k->l[j]? =some x->x.span.qB<=x.span.to/\J0 vH x.up=true/\x.span.to<=K3 vH x.up
 bwd: ∀u,J0 vH u=true-> ∃(j:Nat)(x:qq),j<k/\l[j]? =some x/\x.up=u/\K3 vH u=x.span.to
theorem MA{l:List qq}{k:Nat}{vH:pG}(h:ZJ l k vH)(x:qq)(hk:k<=l.length):dj x (l.take k)=(J0 vH x.up&&decide (x.span.qB<K3 vH x.up)):=by rw[Bool.eq_iff_iff,KQ];simp only[zO,decide_eq_true_eq];constructor;(rintro⟨q,y,h1,h2,h3⟩;have hq:q<k:=by have:=(qF h1).1;simp at this;omega);rw[V? hq]at h1;obtain⟨_,b,c⟩:=h.fwd q y hq h1;rw[h2]at b c;exact⟨b,o?⟩;rintro⟨h1,h2⟩;obtain⟨j,y,hj,hy,hu,he⟩:=h.bwd _ h1;exact⟨j,y,by rw[V? hj];exact hy,hu,o?⟩
theorem AY{l:List qq}{k:Nat}{vH:pG}(h:ZJ l k vH)(x:qq)(hx:l[k]? =some x)(h1:x.span.qB<=x.span.to)(h2:(J0 vH x.up&&decide (x.span.qB<K3 vH x.up))=false):ZJ l (k+1) (VY vH x.up x.span.to):=by constructor;intro j y hj hy;rw[NL,NK];by_cases Vq:j=k;subst Vq;rw[hx]at hy;cases hy;simp[h1];obtain⟨a,b,c⟩:=h.fwd j y o? hy;refine⟨a,by simp[b], ?_⟩;by_cases e:y.up=x.up;rw[if_pos e];rw[e]at b c;simp only[b,l_,decide_eq_false_iff_not]at h2;omega;rw[if_neg e];exact c;intro u hu;rw[NK];rw[NL]at hu;by_cases e:u=x.up;exact⟨k,x,o?,hx,e.symm,by rw[if_pos e]⟩;rw[if_neg e]at hu |-;obtain⟨j,y,hj,hy⟩:=h.bwd u hu;exact⟨j,y,o?,hy⟩
theorem FZ(i:qj)(hl:i.stops.l.length<2^60): ∀(n k:Nat)(vH:pG),k+n=i.stops.l.length->ZJ i.stops.l k vH->
  ∃(t:Bool)(e:pG),vi (i.stops,(i.stops.l.length:Int),(k:Int),i,vH)=some (if t=true then .inr e else .inl (false,e))/\
   zD ((k:Int),i)=some (if t=true then .inr ()else .inl false):=by intro n;induction n with|zero=>intro k vH hk _;obtain rfl:k=i.stops.l.length:=o?;refine⟨true,vH, ?_, ?_⟩;rw[vi.eq_1];simp;rw[zD.eq_1];simp|succ n ih=>(intro k vH hk hs;have pf:k<i.stops.l.length:=o?;obtain⟨t,h1,h2,h3⟩:=AO i k pf hl;have h4:=Ri i k pf hl t h1 h2 vH;rw[h3,h4,q0I,MA hs _ o?];have hx:i.stops.l[k]? =some i.stops.l[k]:=by simp[pf]);generalize i.stops.l[k]=x at hx |-;split;rename_i hc;simp only[zO,decide_eq_true_eq,Bool.not_eq_true']at hc;exact ih (k+1) _ o? (AY hs x hx hc.1.1.2 hc.1.2);exact⟨false,vH,rfl,rfl⟩
theorem q0o(i:qj)(n:Int)(hl:i.stops.l.length<2^60): ∃t:Bool,dW i n=some t/\sV i n=some t:=by
 have hm:tw i.span n=iV i.span n:=rfl;obtain⟨b,hb⟩: ∃b,iV i.span n=some b:=by unfold iV;split<;>exact⟨_,rfl⟩
 obtain⟨t,e,h1,h2⟩:=FZ i hl i.stops.l.length 0 ⟨[],0⟩ o? ⟨fun j x hj=>o?,fun u hu=>by simp[q0s]at hu⟩;simp only[B_]at h1 h2;unfold dW sV;rw[hm,hb];simp only[zF,qS];cases b with|false=>exact⟨false,rfl,rfl⟩|true=>simp only[q1w,ko,if_false,h1,h2,qS];cases t<;>exact⟨_,rfl,rfl⟩
end StM
end Go.Proofs.YtnojdepmnnebnaaGreat
namespace Go.Proofs.YtnojdepmnnebnaaGreat
open Go Go.Gm
namespace Xr
section
variable {st:qv} {e:ql} {s:qb} {a k:Int} {L:List TS} {h:List Bool} {sd:List Int} {last o:Int} {A K:Nat} {i:qj} {x:qq}
structure Pz (st:qv) (e:ql) (s:qb) (A K:Nat) (x:qq) (out:qb) (sd:List Int):Prop where
 cur:out.cur=s.cur
 len:out.insts.l.length=s.insts.l.length
 may:mm out.insts.l (done st.text e).length
 other: ∀(j:Nat)(y:qj),j≠A->s.insts.l[j]? =some y-> ∃z,out.insts.l[j]? =some z/\z.stops.l.length=y.stops.l.length/\ ∀(q:Nat) w,y.stops.l[q]? =some w-> ∃w',z.stops.l[q]? =some w' /\ ∃u,jj st.text w.span.qB w.span.to=some u/\jj (done st.text e) w'.span.qB w'.span.to=some u
 small: ∀z∈out.insts.l,z.stops.l.length<=2^12
 own: ∃z w,out.insts.l[A]? =some z/\z.stops.l[K]? =some w/\w.span.qB=x.span.qB/\w.span.to=x.span.to+(e.text.length-(e.span.to-e.span.qB))/\w.n=x.n
theorem Lx(lO:vj st)(hs:s∈st.qo.l)(he:kM e st.text.length)(X:Sv e st.text.length s true a k L h sd last o)(ho:o=((qm s.insts.l A+1+K:Nat):Int))(hi:s.insts.l[A]? =some i)(hx:i.stops.l[K]? =some x)(hw:zY e.span x.span):
  Pz st e s A K x ⟨s.cur,⟨(NI e sd 0 s.insts.l).isEmpty,NI e sd 0 s.insts.l⟩⟩ sd:=by
 have hm:=lO.may.may s hs;have cG:=lO.small s hs;obtain⟨g1,g2,g3⟩:=DQ X he hm ho hi hx hw;have hAl:=(qF hi).1;have hKl:=(qF hx).1;have dl:=BZ he;have alive: ∀(j:Nat)(y:qj),s.insts.l[j]? =some y->pC sd (0+qm s.insts.l j)≠1:=by intro j y hj;rw[P?];by_cases c:j=A;subst c;exact g2 0 o?;exact(g1 j y c hj 0 o?).1
 have qp: ∀(j:Nat)(y:qj),s.insts.l[j]? =some y->(NI e sd 0 s.insts.l)[j]? =some (l9 e.span.qB e.span.to e.text.length (pC sd) (qm s.insts.l j) y):=by
  intro j y hj;have Vr:=(qF hj).1;have:=q0B e.span.qB e.span.to e.text.length (pC sd) s.insts.l 0 j y hj (fun q hq=>by
   obtain⟨z,hz⟩:=gl (l:=s.insts.l) (k:=q) o?
   exact alive q z hz)
  rwa[P?]at this
 refine⟨rfl,YX _ _ _ _ s.insts.l 0 (fun j y hj=>alive j y hj), ?_,fun j y hjA hj=>?_,fun z hz=>?_, ?_⟩;have:=YY (c:=(e.text.length:Int)) X.row X.hold X.side he.a0 he.ab he.bn (Int.natCast_nonneg _) X.rows hm;rw[<- dl]at this;exact this
 ·have hyr:=(hm.may j y hj).Qr;refine⟨_,qp j y hj,A1 _ _ _ _ y.stops.l (qm s.insts.l j+1) 0 (fun q hq=>?_),fun q w hw' =>?_⟩;have:=(g1 j y hjA hj (q+1) o?).1;rwa[show qm s.insts.l j+(q+1)=qm s.insts.l j+1+(0+q) by omega]at this
  have hql:=(qF hw').1;have hn:=NU e.span.qB e.span.to e.text.length (pC sd) y.stops.l (qm s.insts.l j+1) 0 q w hw' (fun r hr=>by
   have:=(g1 j y hjA hj (r+1) o?).1
   rwa[show qm s.insts.l j+(r+1)=qm s.insts.l j+1+(0+r) by omega]at this)
  (refine⟨_,hn, ?_⟩;rw[P?];obtain⟨f0,f1,f2,f3⟩:=QC s X.rows j q y w hj hw';have f0' :qm s.insts.l j+1+q<(L.map strOf).length:=by simpa using f0);have win:=(hm.may j y hj).inside q w hw';have wle:=(hm.may j y hj).le q w hw';obtain⟨n1,n2⟩:=g1 j y hjA hj (q+1) o?;rw[show qm s.insts.l j+(q+1)=qm s.insts.l j+1+q by omega]at n1 n2;refine Fb he w.span o? wle o? (pC sd (qm s.insts.l j+1+q)) ?_;rcases gX X.row X.side f0' with ⟨c,_⟩|⟨_,c⟩|⟨_,c⟩|⟨_,c⟩;exact absurd c n2;exact absurd c n1;left;have:=Qo X.row X.hold X.side f0' c;exact⟨c,o?⟩;right;have:=cd X.row X.hold X.side f0' c;exact⟨c,o?⟩
 obtain⟨j,hj⟩:=kb hz;have hc:=WE e.span.qB e.span.to e.text.length (pC sd) s.insts.l 0 (l:=yy 0 s.insts.l) (fun r x hx=>by rw[P?];exact hx);obtain⟨i',h1,h2,_⟩:=hc z hz;have:=cG.2 i' h1;omega
 have hn:=NU e.span.qB e.span.to e.text.length (pC sd) i.stops.l (qm s.insts.l A+1) 0 K x hx (fun r hr=>by
  have:=g2 (r+1) o?
  rwa[show qm s.insts.l A+(r+1)=qm s.insts.l A+1+(0+r) by omega]at this)
 rw[show qm s.insts.l A+(K+1)=qm s.insts.l A+1+K by omega]at g3;refine⟨_,_,qp A i hi,hn, ?_, ?_,rfl⟩;simp only[U5,P?,g3,Xa,if_true];simp only[U5,P?,g3,Xa,if_true]
theorem Lw{out:qb}(H:Pz st e s A K x out sd)(cG:xH s)(b0 kU:ql)(j:Nat)(y:qj)(hj:s.insts.l[j]? =some y): ∀(d q:Nat),q+d=y.stops.l.length->xB ((A:Int),(K:Int),done st.text e,(j:Int),(q:Int),b0,st,s,x.span,kU,out)=some (.inr ()):=by have hl:=cG.2 y (z6 hj);by_cases c:j=A;subst c;intro d q h;rw[xB.eq_1,if_neg z?];obtain⟨z,h1,h2,h3⟩:=H.other j y c hj;intro d;induction d with|zero=>intro q h;rw[xB.eq_1,if_pos v?,gi h1];simp only[zF,qS];rw[if_neg v?]|succ d ih=>intro q h;obtain⟨w,hw⟩:=gl (l:=y.stops.l) (k:=q) o?;obtain⟨w',h4,u,h5,h6⟩:=h3 q w hw;rw[xB.eq_1,if_pos v?,gi h1];simp only[zF,qS];rw[if_pos v?,gi hj];simp only[qS];rw[gi hw,gi h4];simp only[qS,h5,h6];rw[if_neg z?,ws o?,ih (q+1) o?]
theorem Lv{out:qb}(H:Pz st e s A K x out sd)(cG:xH s)(b0 kU:ql): ∀(d j:Nat),j+d=s.insts.l.length->xA ((A:Int),(K:Int),done st.text e,(j:Int),b0,st,s,x.span,kU,out)=some (.inr ()):=by have nK:=cG.1;have hlen:=H.len;intro d;induction d with|zero=>intro j h;rw[xA.eq_1,if_neg v?]|succ d ih=>(intro j h;obtain⟨y,hj⟩:=gl (l:=s.insts.l) (k:=j) o?;obtain⟨z,hz⟩:=gl (l:=out.insts.l) (k:=j) o?;have hzl:=H.small z (z6 hz);have Hn:dW z ((done st.text e).length:Int)=some true:=by obtain⟨t,t1,t2⟩:=StM.q0o z ((done st.text e).length:Int) o?;obtain⟨t',t3,t4⟩:=NF z ((done st.text e).length:Int) o?;rw[t2]at t3;cases t3;rw[t1,t4.2 (H.may.may j z hz)]);have l2:=Lw H cG b0 kU j y hj y.stops.l.length 0 o?;rw[show ((0:Nat):Int)=0 from rfl]at l2;rw[xA.eq_1,if_pos v?,gi hz];simp only[zF,qS,Hn];rw[if_neg z?,ws o?,gi hj,l2,ih (j+1) o?];simp only[qS];by_cases c:j=A;subst c;rw[if_neg z?];obtain⟨z',h1,h2,_⟩:=H.other j y c hj;rw[hz]at h1;cases h1;rw[if_pos v?,if_neg v?]
end
theorem dp(os:Sl bO)(which inst stop:Int)(e:ql):vL os which inst stop e=some true:=by
 have key:qJ (vL os which inst stop e) (fun v=>v=true):=by
  (unfold vL;refine .bind (ops_tot 6 120 o? o? os) fun v hv=>?_;refine .ite (fun _=>D_ (a:=true) rfl (.ret rfl)) fun c=>?_;simp only[z!,decide_eq_true_eq,not_or,q1i]at c;obtain⟨h1,h2⟩:=hv c.1;have ht:e.text.length<=30:=o?;refine .bind (Ta os o? h2) fun st lO=>?_;refine .ite (fun _=>D_ (a:=true) rfl (.ret rfl)) fun c2=>?_;have hsl:(st.qo.l.length:Int)≠0:=by simpa using c2);have h8:=lO.may.du;have Ju:=lO.may.text;refine .bind (X5 _ _ o? o?) fun w hw=>?_;refine .bind (v_ hw.1 hw.2) fun s hs=>?_;have cG:=lO.small s hs.2;have hp:=FQ lO hs.2;have nK:=cG.1;refine .bind (X5 _ _ o? o?) fun a ha=>?_;refine .bind (v_ ha.1 ha.2) fun i hi=>?_;have dh:=cG.2 i hi.2;refine .ite (fun _=>D_ (a:=true) rfl (.ret rfl)) fun c3=>?_;have pZ:(i.stops.l.length:Int)≠0:=by simpa using c3
  refine .bind (X5 _ _ o? o?) fun k hk=>?_;refine .bind (v_ hk.1 hk.2) fun x hx=>?_;refine TG lO hs.2 e ht hi.1 hx.1 (fun e' =>kF st.text e'.span.qB>>=fun r34=>
    if r34.length+e'.text.length<=2^62 then
     bH st.text e'.span.to>>=fun r37=>
     if(r34++e'.text).length+r37.length<=2^62 then
      uV s a k e' >>=fun Gw=>
      if(((Gw.insts.l.length:Int) != (s.insts.l.length:Int)) || (Gw.cur != s.cur))then
       some false
      else
       qh Gw.insts.l a>>=fun x44=>
       if(decide ((x44.stops.l.length:Int)<=k))then
        some false
       else
        xA (a,k,((r34++e'.text)++r37),(0:Int),e,st,s,x.span,e',Gw)>>=fun v47=>
        match v47 with
        | .inl y48=>
         some y48
        | .inr y49=>
         qh x44.stops.l k>>=fun IP=>
         if(IP.span.qB==x.span.qB)then
          wU e'.span>>=fun v54=>
          if(IP.span.to==(q?.wrap ((q?.wrap (x.span.to+(e'.text.length:Int)))-v54)))then
           if(IP.n==x.n)then
            aw5>>=fun v58=>
            some v58
           else
            some false
          else
           some false
         else
          some false
     else none
    else none) fun e' he hw _=>?_
  (obtain⟨A,rfl⟩: ∃A:Nat,a=A:=⟨a.toNat,o?⟩;obtain⟨K,rfl⟩: ∃K:Nat,k=K:=⟨k.toNat,o?⟩;have hiA:s.insts.l[A]? =some i:=by simpa using hi.1);(have hxK:i.stops.l[K]? =some x:=by simpa using hx.1);(obtain⟨fl,flags,L,hh,sd,last,o,_,_,k2,X⟩:=shift_st lO hs.2 he A K (.inr ⟨A,K,i,x,rfl,rfl,hiA,hxK,hw⟩);have ho:o=((qm s.insts.l A+1+K:Nat):Int):=by rcases X.own with ⟨c,_⟩|⟨A',K',i',x',e1,e2,e3,e4,e5,_⟩;omega;obtain rfl:A=A' :=o?;obtain rfl:K=K' :=o?;exact e3);have H:=Lx lO hs.2 he X ho hiA hxK hw;generalize (⟨s.cur,⟨(NI e' sd 0 s.insts.l).isEmpty,NI e' sd 0 s.insts.l⟩⟩:qb)=out at H k2;have a0:=he.a0;have ab:=he.ab;have bn:=he.bn;have el:=he.len;obtain⟨z,w',z1,z2,z3,z4,z5⟩:=H.own;have P7:=(qF z2).1;have hlen:=H.len;have Wh:=H.cur;have hxr:=(lO.may.may s hs.2).may A i hiA;have hxin:=hxr.inside K x hxK;have hxg:=hxr.Qr;have hxle:=hxr.le K x hxK;refine .bind .kF fun r1 hr1=>?_;refine .zx o? ?_;refine .bind .bH fun r2 hr2=>?_;refine .zx (by simp only[t?];omega) ?_;rw[k2];refine .go rfl ?_;refine .ite (fun c=>absurd c (by simp[hlen,Wh])) fun _=>?_;refine .go (gi z1) ?_;refine .ite (fun c=>absurd c v?) fun _=>?_;have l0:=Lv H cG e e' s.insts.l.length 0 o?;rw[show ((0:Nat):Int)=0 from rfl]at l0;rw[show r1++e'.text++r2=done st.text e' by rw[hr1.1,hr2.1];rfl];refine .go l0 ?_;refine .go (gi z2) ?_;refine .ite (fun _=>?_) fun c=>absurd (by simpa using z3) c;refine .go (a:=e'.span.to-e'.span.qB) (by unfold wU;rw[wi (n:=e'.span.to-e'.span.qB)]) ?_;rw[wi (n:=x.span.to+(e'.text.length:Int)),wi (n:=x.span.to+(e'.text.length:Int)-(e'.span.to-e'.span.qB))];refine .ite (fun _=>?_) fun c=>absurd (by rw[beq_iff_eq,z4];omega) c;refine .ite (fun _=>D_ (a:=true) rfl (.ret rfl)) fun c=>absurd (by simpa using z5) c
 obtain⟨v,h1,h2⟩:=key;rw[h1,h2]
end Xr
theorem dp(os:Sl bO)(which inst stop:Int)(e:ql):vL os which inst stop e=some true:=Xr.dp os which inst stop e
end Go.Proofs.YtnojdepmnnebnaaGreat
