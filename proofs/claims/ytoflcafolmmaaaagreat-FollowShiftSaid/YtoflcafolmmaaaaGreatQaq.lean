/-
  FollowShift: where an edit leads a session is as the document tells.
-/
import Derived.Test.YtoflcafolmmaaaaGreatQap
import Derived.Test.YtoflcafolmmaaaaGreatQan
open Go.IntKind renaming i64->q?,u64->L!,signed->O',wrap->q0x,bits->q0y
open Go.Proofs.YtoflcafolmmaaaaGreat.qJ renaming ite->C!,mono->e_,zz->q0p,bind->q0q,go->q12
open List renaming mem_append->m?,getElem?_append_left->p?,length_append->t?,map_cons->s?,mem_singleton->d?,getElem?_cons_zero->a?,getElem?_append_right->J?,mem_cons->U?,mem_map->N?,nil_append->F?,length_pos_iff->q!,length_singleton->k!,sum_cons->v!
open Nat renaming zero_add->A?
set_option linter.unusedSimpArgs false
set_option linter.unusedVariables false
set_option maxHeartbeats 1000000
namespace Go.Proofs.YtoflcafolmmaaaaGreat
open Go Go.Gm
namespace Xr
theorem UD{st:qw}(h:vj st)(k:Int):qJ (rT st k) (fun v=>v.2=0->vj v.1):=by
 have hl:=h.may.di;unfold rT;refine Wl h ?_;rw[if_neg z?];refine .ite (fun _=> .ret fun h0=>absurd h0 (by decide)) fun c=>?_;have jx:st.qm.l≠[]:=by intro e;rw[e]at c;simp at c
 have pT:=q!.2 jx;rw[wi (n:=(st.qm.l.length:Int)-1),show(st.qm.l.length:Int)-1=((st.qm.l.length-1:Nat):Int)from o?];obtain⟨x,hx⟩:=gl (l:=st.qm.l) (k:=st.qm.l.length-1) o?;refine .go (gi hx) ?_;refine .bind (DF h k _ x (z7 hx) _ x.insts.l 0 false [] rfl z? z? (by simp[wR])) fun v hv=>?_;refine .ite (fun _=> .ret fun h0=>absurd h0 (by decide)) fun _=>?_;refine .ite (fun _=> .ret fun h0=>absurd h0 (by decide)) fun _=>?_;have Ta:v.2.length*17592186044416<=4096*17592186044416:=mulR _ hv.1;refine .bind (BA st h ⟨v.2.isEmpty,v.2⟩ (by have:=hv.1;simp only;omega) (by have:=hv.2;simp only;omega)) fun w hw=>?_;refine .ite (fun c2=> .ret fun h0=>absurd h0 (by simpa using c2)) fun c2=>?_;rcases hw with hw|⟨_,hw,hless⟩;exact absurd (by simpa using c2) hw;refine .ite (fun _=> .ret fun _=>hw) fun c3=>?_;have hlen:w.1.qm.l.length=st.qm.l.length:=by have:=hless.1;simp only[decide_eq_true_eq]at c3;omega
 refine .bind (Z0 hw x.cur (fun y hy Fk=>?_) (by intro e;rw[e]at hlen;simp at hlen;omega)) fun u hu=> .ret hu;obtain⟨s,s1,s2⟩:=hless.2 _ y Fk;rw[hlen,hx]at s1;cases s1;rw[<- s2];exact hw.JH y hy
structure Uj (env:Sl qv):Prop where
 len:env.l.length<=64
 val: ∀p∈env.l,p.value.length<=65536
theorem Si(name:qa)(env:Sl qv)(h:Uj env):qJ (yU name env) (fun v=>v.1.length<=65536):=by
 have hl:=h.len;have loop: ∀(d k:Nat),k+d=env.l.length->qJ (vd (name,env,(k:Int))) (fun v=>match v with| .inl y=>y.1.length<=65536| .inr _=>True):=by intro d;induction d with|zero=>intro k h;rw[vd.eq_1,if_neg v?];exact .ret trivial|succ d ih=>intro k hk;obtain⟨x,hx⟩:=gl (l:=env.l) (k:=k) o?;rw[vd.eq_1,if_pos v?,ws o?];refine .go (gi hx) ?_;exact .ite (fun _=> .ret (h.val x (z7 hx))) fun _=>ih (k+1) o?
 unfold yU;refine .bind (loop env.l.length 0 o?) fun v hv=>?_;exact tW
theorem N7(s:qa)(hs:s.length<=2^28)(c:UInt8):qJ (w6 s c) (fun v=> -1<=v/\v<s.length):=by
 have loop: ∀k:Nat,k<=s.length->qJ (gG (s,c,(k:Int)-1)) (fun v=> -1<=v/\v<s.length):=by intro k;induction k with|zero=>intro _;rw[gG.eq_1,if_neg z?];exact .ret ⟨o?,o?⟩|succ k ih=>intro h;obtain⟨b,hb⟩:=gl (l:=s) (k:=k) o?;rw[show ((k+1:Nat):Int)-1=(k:Int)from o?,gG.eq_1,if_pos z?,wi (n:=(k:Int)-1)];have:= @gi;exact tW
 unfold w6;have:= @wi;exact tW
theorem PJ(n:Int)(h0:0<=n)(h1:n<=2^28):qJ (jP n) (fun v=>v.length<=n+1):=by
 have loop: ∀(m:Nat)(n:Int)(s r:qa),m=n.toNat->0<=n->n<=2^28->(s.length:Int)+n<=2^29->qJ (uN (n,s,r)) (fun v=>(v.length:Int)<=s.length+n):=by intro m;induction m using Nat.strongRecOn with|_ m ih=>intro n s r hm h0 h1 hs;rw[uN.eq_1];have:= @wi;exact tW
 unfold jP;exact tW
section
variable (s:qa) (hs:s.length<=65536) (env:Sl qv) (line:Int) (x:qy) (sp:qn) (r2 out r4:List qv)
include hs
theorem placeA(b:Int): ∀k:Nat,k<=s.length->qJ (uo (s,env,line,(k:Int),b,x,sp,r2,out,r4)) (fun v=>0<=v/\v<=k):=by intro k;induction k with|zero=>intro _;rw[uo.eq_1,if_neg z?];exact .ret ⟨o?,o?⟩|succ k ih=>intro h;obtain⟨c,hc⟩:=gl (l:=s) (k:=k) o?;rw[uo.eq_1,if_pos (by simp only[decide_eq_true_eq];omega),wi (n:=((k+1:Nat):Int)-1),show((k+1:Nat):Int)-1=(k:Int)from o?];refine .go (gi hc) ?_;refine .bind (d8 c) fun v _=>?_;exact .ite (fun _=>e_ (ih o?) fun v hv=>⟨hv.1,o?⟩) fun _=> .ret ⟨o?,o?⟩
theorem placeA2(b:Int): ∀k:Nat,k<=s.length->qJ (wJ (s,env,line,(k:Int),b,x,sp,r2,out)) (fun v=>0<=v/\v<=k):=by intro k;induction k with|zero=>intro _;rw[wJ.eq_1,if_neg z?];exact .ret ⟨o?,o?⟩|succ k ih=>intro h;obtain⟨c,hc⟩:=gl (l:=s) (k:=k) o?;rw[wJ.eq_1,if_pos (by simp only[decide_eq_true_eq];omega),wi (n:=((k+1:Nat):Int)-1),show((k+1:Nat):Int)-1=(k:Int)from o?];refine .go (gi hc) ?_;refine .bind (d8 c) fun v _=>?_;exact .ite (fun _=>e_ (ih o?) fun v hv=>⟨hv.1,o?⟩) fun _=> .ret ⟨o?,o?⟩
theorem placeB(a:Int): ∀(d k:Nat),k+d=s.length->qJ (uq (s,env,line,a,(k:Int),x,sp,r2,out,r4)) (fun v=>k<=v/\v<=s.length):=by intro d;induction d with|zero=>intro k h;rw[uq.eq_1,if_neg v?];exact .ret ⟨o?,o?⟩|succ d ih=>intro k h;obtain⟨c,hc⟩:=gl (l:=s) (k:=k) o?;rw[uq.eq_1,if_pos v?,ws o?];refine .go (gi hc) ?_;refine .bind (d8 c) fun v _=>?_;exact .ite (fun _=>e_ (ih (k+1) o?) fun v hv=>⟨o?,hv.2⟩) fun _=> .ret ⟨o?,o?⟩
theorem placeB2(a:Int): ∀(d k:Nat),k+d=s.length->qJ (wK (s,env,line,a,(k:Int),x,sp,r2,out)) (fun v=>k<=v/\v<=s.length):=by intro d;induction d with|zero=>intro k h;rw[wK.eq_1,if_neg v?];exact .ret ⟨o?,o?⟩|succ d ih=>intro k h;obtain⟨c,hc⟩:=gl (l:=s) (k:=k) o?;rw[wK.eq_1,if_pos v?,ws o?];refine .go (gi hc) ?_;refine .bind (d8 c) fun v _=>?_;exact .ite (fun _=>e_ (ih (k+1) o?) fun v hv=>⟨o?,hv.2⟩) fun _=> .ret ⟨o?,o?⟩
end
section
def Ur(l:List qv):Prop:= ∀p∈l,p.value.length<=1048576
theorem rh{p:qv}{l:List qv}(h:p.value.length<=1048576)(hl:Ur l):Ur (p::l):=fun q hq=>by rcases U?.1 hq with rfl|hq;exact h;exact hl q hq
variable {s:qa} (hs:s.length<=65536) {env:Sl qv} (he:Uj env)
include hs he
theorem NH(x:qy)(h0:0<=(uL x).qI)(h1:(uL x).to<=s.length):qJ (cN s x env) (fun v=>v.1.l.length<=100/\Ur v.1.l):=by
 have MG:=he.len;have hE:Ur env.l:=fun p hp=>by have:=he.val p hp;omega
 have hx:=Q2 x;obtain⟨k,hk⟩: ∃k:Nat,x.head=k:=⟨x.head.toNat,o?⟩;have hA:=Pq s o? x.head;unfold cN;refine .go (Jv x) ?_;rw[if_neg v?];have lines: ∀{β:Type}{Q:β->Prop}{f:(Int×Int)->qa->Option β},(∀ v r,0<=v.1->v.1<=65536->r.length<=65536->qJ (f v r) Q)->qJ (dz s x.head>>=fun v=>uF s v.1>>=fun a=>rW s v.1>>=fun b=>kv s a.1 b.1>>=fun r=>f v r) Q:=by intro β Q f hf;refine .bind hA fun v hv=>?_;obtain⟨a,b,c,g1,g2,g3,g4,g5,_⟩:=Qg s o? v.1;refine .go g1 (q12 g2 ?_);refine .bind (qJ.kv u? u? u?) fun r hr=>?_;have hb:=V0 s x.head.toNat;have hb2:=Pu s;have:=hr.2;simp only at this;refine hf v r ?_ ?_ o?<;>rcases hv with ⟨_,_,_,hv⟩|⟨_,hv,_⟩<;>omega
 have oX: ∀(n:Nat)(l0:List qv),n<=36->l0.length<=36->Ur l0->qJ (if qg (n+env.l.length) 32=true then some ((⟨false,l0++env.l⟩:Sl qv),(0:Int))else none) (fun v=>v.1.l.length<=100/\Ur v.1.l):=by intro n l0 hn hl hv;refine .zz qA (.ret ⟨v?,fun p hp=>?_⟩);rcases m?.1 hp with hp|hp;exact hv p hp;exact hE p hp
 have C1: ∀(m n:Nat)(l0:List qv)(L:qa->qa->qa->List qv),m<=36->n<=36->l0.length<=36->Ur l0->(∀ a b c:qa,a.length<=65536->b.length<=65536->c.length<=65536->(L a b c).length<=36/\Ur (L a b c))-> ∀v:qa×Bool,v.1.length<=65536->
   qJ (if v.2=true then w6 v.1 47>>=fun a=>mo v.1 (q?.wrap (a+(1:Int)))>>=fun r=>w6 r 46>>=fun b=>if(decide (b>(0:Int)))=true then kQ r b>>=fun r1=>kQ v.1 (if (0:Int)>a then(0:Int)else a)>>=fun r2=>if qg n 32=true then if qg (n+env.l.length) 32=true then some ((⟨false,L r r1 r2++env.l⟩:Sl qv),(0:Int))else none else none else kQ v.1 (if (0:Int)>a then(0:Int)else a)>>=fun r2=>if qg n 32=true then if qg (n+env.l.length) 32=true then some ((⟨false,L r r r2++env.l⟩:Sl qv),(0:Int))else none else none else if qg (m+env.l.length) 32=true then some ((⟨false,l0++env.l⟩:Sl qv),(0:Int))else none) (fun v=>v.1.l.length<=100/\Ur v.1.l):=by
  intro m n l0 L hm hn hl hv hL v Z7;refine .ite (fun _=>?_) fun _=>oX m l0 hm hl hv;refine .bind (N7 v.1 o? 47) fun a ha=>?_;rw[wi (n:=a+1)];refine .bind .mo fun r hr=>?_;have Sy:=hr.2;refine .bind (N7 r o? 46) fun b hb=>?_;have dir:qJ (kQ v.1 (if (0:Int)>a then(0:Int)else a)) (fun z=>z.length<=65536):=e_ (qJ.kQ (by split<;>omega) (by split<;>omega)) fun z hz=>by have:=hz.2;split at this<;>omega
  refine .ite (fun c=>?_) fun _=>?_
  ·simp only[decide_eq_true_eq]at c;refine .bind .kQ fun r1 h1=>?_;have h1l:=h1.2;refine .bind dir fun r2 h2=>q0p qA ?_;exact oX n _ hn (hL r r1 r2 o? o? h2).1 (hL r r1 r2 o? o? h2).2
  refine .bind dir fun r2 h2=>q0p qA ?_;exact oX n _ hn (hL r r r2 o? o? h2).1 (hL r r r2 o? o? h2).2
 have dig: ∀n:Int,0<=n->n<=65537->qJ (jP n) (fun v=>v.length<=65538):=fun n a b=>e_ (PJ n a o?) fun v hv=>o?;have get:=fun n=>Si n env he;rw[hk]at lines |-;refine .ite (fun c=>?_) fun c=>?_;{simp only[decide_eq_true_eq]at c;refine .bind .kv fun r7 h7=>q0p qA ?_;have h7l:=h7.2;refine lines fun v r H4 Z7 hr=>?_;refine .zz qA ?_;refine .bind (placeA s hs env _ x _ _ _ _ _ k o?) fun a ha=>?_;refine .bind (placeB s hs env _ x _ _ _ _ a (s.length-k) k o?) fun b hb=>?_;rw[wi (n:=v.1+1)];refine .ite (fun c2=>?_) fun c2=>?_;{simp only[decide_eq_true_eq]at c2;refine .bind .kv fun w hw=>?_;have hwl:=hw.2;refine .zz qA ?_;refine .bind (dig _ H4 o?) fun d1 h1=>?_;refine .bind (dig _ o? o?) fun d2 h2=>?_;refine .zz qA ?_;refine .bind (get _) fun g hg=>?_;exact C1 _ _ _ (fun a b c=>_) (by omega) (by omega) (by simp) (by repeat (first|refine rh (by simp only;omega) ?_|exact fun p hp=>absurd hp (by simp))) (fun a b c ha hb hc=>⟨by simp,(by repeat (first|refine rh (by simp only;omega) ?_|exact fun p hp=>absurd hp (by simp)))⟩) g hg};refine .bind (dig _ H4 o?) fun d1 h1=>?_;refine .bind (dig _ o? o?) fun d2 h2=>?_;refine .zz qA ?_;refine .bind (get _) fun g hg=>?_;exact C1 _ _ _ (fun a b c=>_) (by omega) (by omega) (by simp) (by repeat (first|refine rh (by simp only;omega) ?_|exact fun p hp=>absurd hp (by simp))) (fun a b c ha hb hc=>⟨by simp,(by repeat (first|refine rh (by simp only;omega) ?_|exact fun p hp=>absurd hp (by simp)))⟩) g hg};skip;refine lines fun v r H4 Z7 hr=>?_;refine .zz qA ?_;refine .bind (placeA2 s hs env _ x _ _ _ _ k o?) fun a ha=>?_;refine .bind (placeB2 s hs env _ x _ _ _ a (s.length-k) k o?) fun b hb=>?_;rw[wi (n:=v.1+1)];refine .ite (fun c2=>?_) fun c2=>?_;{simp only[decide_eq_true_eq]at c2;refine .bind .kv fun w hw=>?_;have hwl:=hw.2;refine .zz qA ?_;refine .bind (dig _ H4 o?) fun d1 h1=>?_;refine .bind (dig _ o? o?) fun d2 h2=>?_;refine .zz qA ?_;refine .bind (get _) fun g hg=>?_;exact C1 _ _ _ (fun a b c=>_) (by omega) (by omega) (by simp) (by repeat (first|refine rh (by simp only;omega) ?_|exact fun p hp=>absurd hp (by simp))) (fun a b c ha hb hc=>⟨by simp,(by repeat (first|refine rh (by simp only;omega) ?_|exact fun p hp=>absurd hp (by simp)))⟩) g hg};refine .bind (dig _ H4 o?) fun d1 h1=>?_;refine .bind (dig _ o? o?) fun d2 h2=>?_;refine .zz qA ?_;refine .bind (get _) fun g hg=>?_;exact C1 _ _ _ (fun a b c=>_) (by omega) (by omega) (by simp) (by repeat (first|refine rh (by simp only;omega) ?_|exact fun p hp=>absurd hp (by simp))) (fun a b c ha hb hc=>⟨by simp,(by repeat (first|refine rh (by simp only;omega) ?_|exact fun p hp=>absurd hp (by simp)))⟩) g hg
end
end Xr
namespace Xr
theorem Tb(s:qa)(hs:s.length<=65536)(line:Int):qJ (cW s line) (fun v=>v.1.length<=65536):=by
 have loop: ∀(f:Int)(d k:Nat),k+d=s.length->qJ (vF (s,f,(k:Int))) (fun v=>k<=v/\v<=s.length):=by intro f d;induction d with|zero=>intro k h;rw[vF.eq_1,if_neg v?];exact .ret ⟨o?,o?⟩|succ d ih=>intro k h;obtain⟨b,hb⟩:=gl (l:=s) (k:=k) o?;have k1:=ih (k+1) o?;rw[vF.eq_1,if_pos v?,ws o?];refine .go (gi hb) ?_;exact .ite (fun _=>e_ k1 fun v hv=>⟨o?,hv.2⟩) fun _=>C! (fun _=>e_ k1 fun v hv=>⟨o?,hv.2⟩) fun _=> .ret ⟨o?,o?⟩
 unfold cW;obtain⟨a,b,c,g1,_,g3,g4,g5,_⟩:=Qg s o? line;refine .go g1 ?_;refine .ite (fun _=> .ret z?) fun _=>?_;obtain⟨k,rfl⟩: ∃k:Nat,a=k:=⟨a.toNat,o?⟩;refine .bind (loop k (s.length-k) k o?) fun v hv=>?_;refine .bind (qJ.kv u? u? o?) fun r hr=> .ret ?_;have:=hr.2;simp only at this |-;omega
structure VZ (q:List qy) (es:List ql) (gV:List (Sl qr)):Prop where
 le:es.length=gV.length
 each: ∀(j:Nat) e,es[j]? =some e-> ∃x m,q[j]? =some x/\gV[j]? =some m/\e.span=uL x/\P7 e.text m.l
theorem VZ.HX{q:List qy}{es:List ql}{gV:List (Sl qr)}(h:VZ q es gV){x:qy}(hx:q[es.length]? =some x){t:qa}{m:Sl qr}(hm:P7 t m.l):VZ q (es++[⟨uL x,t⟩]) (gV++[m]):=by have hle:=h.le;refine⟨by simp[hle],fun j e he=>?_⟩;by_cases c:j<es.length;rw[p? c]at he;obtain⟨y,z,a,b,c1,d⟩:=h.each j e he;exact tW;exact tW
theorem Fm{st:qw}(h:vj st)(l:Sl qC)(hl:qO (l.l.map pO)<=8192002){env:Sl qv}(he:Uj env)(unit:qa)(hu:unit.length<=65536)(t6:qw): ∀(r:List qy)(i:Nat)(es:List ql)(gV:List (Sl qr)),st.xO.l.drop i=r->es.length=i->VZ st.xO.l es gV->
  qJ (yk (l,env,unit,(i:Int),st,t6,es,gV)) (fun v=>match v with| .inl y=>y.1≠0| .inr y=>y.1.length=st.xO.l.length/\VZ st.xO.l y.1 y.2):=by have h64:=h.may.VJ;have ht:=h.may.text;intro r;induction r with|nil=>(intro i es gV h0 h1 h2;have:=qW h0;rw[yk.eq_1,if_neg v?];refine .ret ⟨?_,h2⟩;cases de:es.length with|zero=>omega|succ k=>obtain⟨e,hee⟩:=gl (l:=es) (k:=k) o?;obtain⟨x,m,a,_⟩:=h2.each k e hee;have:=(qF a).1;omega)|cons x r ih=>intro i es gV h0 h1 h2;obtain⟨g1,g2,g3⟩:=zl h0;have hx:=h.may.K7 x (z7 g1);have hle:=h2.le;rw[yk.eq_1,if_pos v?,ws o?];refine .go (gi g1) ?_;refine .go (Jv x) ?_;refine .bind (NH ht he x hx.1 hx.2) fun v hv=>?_;refine .bind (Pq st.text o? (uL x).qI) fun a _=>?_;refine .bind (Tb st.text ht a.1) fun ld hld=>?_;refine .bind (P8 ⟨by have:=hv.1;omega,hv.2,o?,o?⟩ l hl) fun m hm=>?_;refine .ite (fun c=> .ret (by simpa using c)) fun c=>?_;refine .zz qA (q0p qA ?_);exact ih (i+1) _ _ g2 (by simp[h1]) (h2.HX (by rw[h1];exact g1) (hm (by simpa using c)))
structure P6 (i:qk):Prop where
 MN: ∃H:Int->Int->Prop,iY H (-1) i.span.qI i.span.to 0 i.stops.l
 len:i.stops.l.length<=257
 stop: ∀x∈i.stops.l,bI x
 free: ∃x∈i.stops.l,x.qL=false
def Zy:Int->Int->List qk->Prop
 |lo,hi,[]=>lo<=hi
 |lo,hi,i::l=>lo<=i.span.qI/\P6 i/\Zy i.span.to hi l
theorem Zy.le: ∀{l:List qk}{lo hi:Int},Zy lo hi l->lo<=hi:=by intro l;induction l with|nil=>intro lo hi h;exact h|cons i l ih=>intro lo hi h;obtain⟨H,hL⟩:=h.2.1.MN;have:=Go.Proofs.YtoflcafolmmaaaaGreat.iY.le hL;have:=ih h.2.2;have:=h.1;omega
theorem Zy.each: ∀{l:List qk}{lo hi:Int},Zy lo hi l-> ∀(a:Nat) i,l[a]? =some i->lo<=i.span.qI/\i.span.to<=hi/\P6 i/\ ∀(b:Nat) j,a<b->l[b]? =some j->i.span.to<=j.span.qI:=by intro l;induction l with|nil=>intro lo hi h a i ha;simp at ha|cons i l ih=>intro lo hi h a j ha;obtain⟨H,hL⟩:=h.2.1.MN;have h1:=Go.Proofs.YtoflcafolmmaaaaGreat.iY.le hL;cases a with|zero=>(simp only[a?,kG]at ha;subst ha;refine⟨h.1,Zy.le h.2.2,h.2.1,fun b k hb hk=>?_⟩;cases b with|zero=>omega|succ b=>exact(ih h.2.2 b k (by simpa using hk)).1)|succ a=>obtain⟨a1,a2,a3,a4⟩:=ih h.2.2 a j (by simpa using ha);refine⟨by have:=h.1;omega,a2,a3,fun b k hb hk=>?_⟩;exact tW
theorem Zy.may{l:List qk}{hi:Int}(h:Zy 0 hi l):mC l hi:=by refine⟨fun a i ha=>?_,fun a b i j eR ha hb=>(Zy.each h a i ha).2.2.2 b j eR hb⟩;obtain⟨h1,h2,h3,_⟩:=Zy.each h a i ha;obtain⟨H,hL⟩:=h3.MN;exact lay_may hL h1 h2
def Ch(n:Int):Int->List ql->Prop
 |p,[]=>p<=n
 |p,e::r=>p<=e.span.qI/\e.span.qI<=e.span.to/\Ch n e.span.to r
theorem Fp(es:Sl ql)(eL:Int)(i:Nat)(qo:Int)(b0 t6:qw)(gV:List (Sl qr))(w:qa)(w2:Sl qy)(r7:List qb)(r8:Sl (Sl (Sl Int)))(s:Int)(Ev:List qk)(in1 in2:Int)(m:Sl qr)(hm:gV[i]? =some m)(Vc:m.l.length<=257)(ha:0<=qo/\qo<=2^40)(hb: ∀x∈m.l,0<=x.span.qI/\x.span.qI<=x.span.to/\x.span.to<=65536):
  ∀(q:List qr)(k:Nat)(out:List qr),m.l.drop k=q->out.length=k->ym (es,eL,(i:Int),qo,(k:Int),b0,t6,gV,w,w2,r7,r8,s,Ev,in1,in2,out)=some (out++q.map (Zj qo)):=by intro q;induction q with|nil=>intro k out h0 h1;have:=qW h0;rw[ym.eq_1,gi hm];simp only[zJ,qS];rw[if_neg v?];simp|cons x q ih=>intro k out h0 h1;obtain⟨g1,g2,g3⟩:=zl h0;have hx:=hb x (z7 g1);rw[ym.eq_1,gi hm];simp only[zJ,qS];rw[if_pos v?,gi g1];simp only[qS];rw[if_pos qA,ws o?,wi (n:=x.span.qI+qo),wi (n:=x.span.to+qo),ih (k+1) _ g2 v?];simp[Zj]
theorem Fo(n:Int)(hn:0<=n/\n<=65536)(es:Sl ql)(hl:es.l.length<=64)(b0 t6:qw)(q:List qy)(gV:List (Sl qr))(hM:VZ q es.l gV)(w:qa)(w2:Sl qy)(r7:List qb)(r8:Sl (Sl (Sl Int)))(s:Int): ∀(r:List ql)(i:Nat)(eL p:Int)(Ev:List qk),es.l.drop i=r->i<=64->Ch n p r->0<=p->0<=p+eL-> -(i:Int)*65536<=eL->eL<=(i:Int)*65536->Ev.length=i->
  qJ (yl (es,eL,(i:Int),b0,t6,gV,w,w2,r7,r8,s,Ev)) (fun v=> ∃l,v=Ev++l/\l.length=r.length/\Zy (p+eL) (n+eL+sa r) l):=by intro r;induction r with|nil=>intro i eL p Ev h0 hi hc _ _ _ _ _;have:=qW h0;rw[yl.eq_1,if_neg v?];refine .ret ⟨[],z?,rfl, ?_⟩;simp only[Zy,sa,List.map_nil,List.sum_nil];have:p<=n:=hc;omega|cons e r ih=>(intro i eL p Ev h0 hi hc hp hpb UW hb2 hr;obtain⟨g1,g2,g3⟩:=zl h0;obtain⟨x,m,_,hm,_,Yk⟩:=hM.each i e g1;obtain⟨c1,c2,c3⟩:=hc;have hcn: ∀(r:List ql)(p:Int),Ch n p r->p<=n:=by intro r;induction r with|nil=>intro p h;exact h|cons e r ih=>intro p h;have h1:=ih _ h.2.2;have:=h.1;have:=h.2.1;omega);have hen:=hcn r _ c3;have htl:=Yk.len;obtain⟨H,hL,_⟩:=Yk.MN;rw[yl.eq_1,if_pos v?,ws o?];refine .go (gi g1) ?_;rw[wi (n:=e.span.qI+eL)];refine .go (Fp es eL i _ b0 t6 gV w w2 r7 r8 s Ev _ _ m hm Yk.many.2 ⟨o?,o?⟩ (fun y hy=>?_) m.l 0 [] rfl rfl) ?_;obtain⟨k,hk⟩:=kh hy;have:=LayX.ua hL o? k y hk;exact⟨this.lo,this.le,by have:=this.hi;omega⟩;refine .zz qA ?_;rw[wi (n:=e.span.qI+eL+(e.text.length:Int)),wi (n:=eL+(e.text.length:Int)),wi (n:=e.span.to-e.span.qI),wi (n:=eL+(e.text.length:Int)-(e.span.to-e.span.qI))];have hLs:=LayX.shift hL (e.span.qI+eL);simp only[F?];refine .mono (ih (i+1) _ e.span.to _ g2 o? c3 o? o? (by push_cast;omega) (by push_cast;omega) (by simp[hr])) fun v hv=>?_;obtain⟨l,l1,l2,l3⟩:=hv;refine⟨_::l,by rw[l1,List.append_assoc];rfl,by simp[l2],⟨u?,⟨⟨H, ?_⟩, ?_,fun y hy=>?_, ?_⟩, ?_⟩⟩;simp only;rw[show (0:Int)+(e.span.qI+eL)=e.span.qI+eL from o?,show((e.text.length:Int)+(e.span.qI+eL))=e.span.qI+eL+e.text.length from o?]at hLs;exact hLs;simp only[List.length_map];exact Yk.many.2;obtain⟨z,hz,rfl⟩:=N?.1 hy;exact Yk.qR z hz;obtain⟨z,hz,h⟩:=Yk.free;exact⟨Zj _ z,N?.2 ⟨z,hz,rfl⟩,h⟩;simp only;rw[show e.span.qI+eL+(e.text.length:Int)=e.span.to+(eL+e.text.length-(e.span.to-e.span.qI))from o?];rw[show n+eL+sa (e::r)=n+(eL+e.text.length-(e.span.to-e.span.qI))+sa r from by simp only[sa,s?,v!,gE];omega];exact l3
end Xr
namespace Xr
theorem well_fin{w:World}(hu:WK w){y:List qb}(hy:Fin w.1.length w.2.2.1 y)(h8:w.2.2.1.length<=8):vj ⟨w.1,w.2.1,⟨false,y⟩⟩:=by have Xl:=hy.JH.1;refine⟨⟨hu.text,u?,hu.ok.ne,hu.ok.VJ,hu.ok.K7,hu.ok.S7,hy.ok.may,fun j s hs=>?_⟩,hy.ok.small,hy.ok.stop,fun s hs=>?_⟩;have:=hy.closed j s (qF hs).1 hs;exact⟨this.1,this.2.2⟩;obtain⟨j,hj⟩:=kh hs;exact(hy.closed j s (qF hj).1 hj).2.1
theorem Oi{n:Nat}{q:List qy}(hi:Wc n q)(ha:RV q): ∀(es:List ql)(j:Nat)(p:Int),(∀(k:Nat) e,es[k]? =some e-> ∃x,q[j+k]? =some x/\e.span=uL x)->p<=n->(∀ x,q[j]? =some x->p<=(uL x).qI)->Ch n p es:=by intro es;induction es with|nil=>intro j p _ h _;exact h|cons e es ih=>intro j p h hp hx0;obtain⟨x,hx,he⟩:=h 0 e z?;have hxi:=hi x (z7 hx);have hle:=eG x;refine⟨by rw[he];exact hx0 x hx,by rw[he];exact hle,ih (j+1) _ (fun k e' h' =>?_) (by rw[he];exact hxi.2) fun y hy=>?_⟩;obtain⟨y,hy,h2⟩:=h (k+1) e' (by simpa using h');exact⟨y,by rw[show j+1+k=j+(k+1)from o?];exact hy,h2⟩;rw[he];obtain⟨a1,a2⟩:=qF hx;obtain⟨b1,b2⟩:=qF hy;have:=List.pairwise_iff_getElem.1 ha j (j+1) a1 b1 o?;simp only[Nat.add_zero]at a2;rw[a2,b2]at this;omega
theorem push_tot{w:World}(hw:WK w)(s:qb)(hs:xD s)(hm:mC s.insts.l w.1.length)(hk: ∀i∈s.insts.l,∀ x∈i.stops.l,bI x)(h8:w.2.2.1.length<8):qJ (bp s w.1 w.2.1 w.2.2.1 w.2.2.2) (fun v=>v.1=w.2.2.1++[s]/\WK (w.1,w.2.1,v.1,v.2)):=by
 obtain⟨f,f1,f2⟩:=lF s hs;have Qw:=hw.ok.KV;unfold bp;refine .zz qA (q12 f1 (q0p qA (.ret ⟨rfl,⟨?_,hw.text⟩⟩)));have sx: ∀{P:qb->Prop},(∀ x∈w.2.2.1,P x)->P s-> ∀x∈w.2.2.1++[s],P x:=by intro P h1 h2 x hx;rcases m?.1 hx with hx|hx;exact h1 x hx;simp only[d?]at hx;subst hx;exact h2
 refine⟨hw.ok.blen,hw.ok.ne,hw.ok.VJ,hw.ok.S7,hw.ok.K7,v?,sx hw.ok.small hs,sx hw.ok.may hm,by simp[Qw],fun _=>rfl,fun j x g hx hg=>?_,sx hw.ok.stop hk⟩;by_cases c:j<w.2.2.1.length;rw[p? c]at hx;simp only at hg;rw[p? o?]at hg;exact hw.ok.each j x g hx hg;have hj:=(qF hx).1;simp only[t?,k!]at hj;have:j=w.2.2.1.length:=o?;subst this;rw[J? (jv _)]at hx;simp only at hg;rw[J? o?,Qw]at hg;simp only[Nat.sub_self,a?,kG]at hx hg;subst hx;rw[<- hg];exact f2
theorem Te{st:qw}(h:vj st)(l:Sl qC)(hl:qO (l.l.map pO)<=8192002){env:Sl qv}(he:Uj env):qJ (rU st l env) (fun v=>v.2=0->vj v.1):=by
 have ht:=h.may.text;have h64:=h.may.VJ;have pT:=q!.2 h.may.ne;unfold rU;refine Wl h ?_;rw[if_neg z?];refine .bind (Y0 l o?) fun a _=>?_;refine .ite (fun _=> .ret fun h0=>absurd h0 (by decide)) fun _=>?_;refine .bind (Si _ env he) fun u hu=>?_;refine .bind (Fm h l hl he u.1 hu _ st.xO.l 0 [] [] rfl rfl ⟨rfl,z?⟩) fun v hv=>?_;rcases v with v|v;exact .ret fun h0=>absurd h0 hv;obtain⟨es,gV⟩:=v;obtain⟨v1,hM⟩:=hv;simp only at v1 hM |-;have hT:wR es<=es.length*65536:=G4 es 65536 fun e hee=>by obtain⟨k,hk⟩:=kh hee;obtain⟨x,m,_,_,_,hm⟩:=hM.each k e hk;exact hm.len
 have hT2:es.length*65536<=64*65536:=mulR _ o?;refine .bind (SP (st.text.length:Int) o? ⟨es.isEmpty,es⟩ u? u?) fun c hc=>?_;refine .ite (fun c0=> .ret fun h0=>absurd h0 (by simpa using c0)) fun c0=>?_;obtain⟨e1,e2⟩:=hc (by simpa using c0);simp only at e1 e2;obtain⟨fl,b1,b2⟩:=Bj st h;refine .go b1 ?_;refine .bind (cB (st.text,⟨false,st.xO.l⟩,st.qm.l,fl) b2.ok ht ⟨es.isEmpty,es⟩ e1 u? u?) fun w hw=>?_;have hwt:=hw.text;simp only at hwt;refine .ite (fun _=> .ret fun h0=>absurd h0 (by decide)) fun c1=>?_;have hw8:w.2.2.1.length<8:=by simp only[decide_eq_true_eq]at c1;omega
 have Vy:Ch st.text.length 0 es:=Oi (n:=st.text.length) h.may.K7 h.may.S7 es 0 0 (fun k e hk=>by
  obtain⟨x,m,a,_,b,_⟩:=hM.each k e hk
  exact⟨x,by rw[A?];exact a,b⟩) o? fun x hx=>(h.may.K7 x (z7 hx)).1
 refine .bind (Fo st.text.length ⟨o?,o?⟩ ⟨es.isEmpty,es⟩ u? st _ st.xO.l gV hM w.1 w.2.1 w.2.2.1 w.2.2.2 0 es 0 0 0 [] rfl o? Vy o? o? o? o? rfl) fun is his=>?_;obtain⟨MM,i1,i2,i3⟩:=his;simp only[F?]at i1;subst i1;rw[show (0:Int)+0=0 from rfl,show(st.text.length:Int)+0+sa es=w.1.length from o?]at i3;have hism:=Zy.may i3;have hisl:is.length<=64:=o?;have L2: ∀i∈is,P6 i:=fun i hi=>by obtain⟨k,hk⟩:=kh hi;exact(Zy.each i3 k i hk).2.2.1
 have hb: ∀i∈is,i.stops.l.length<=2^12:=fun i hi=>by have:=(L2 i hi).len;omega
 refine .bind (lR ⟨is.isEmpty,is⟩ hb u?) fun ns Fc=>?_;have jx:ns.l≠[]:=by refine Fc.2 ?_;obtain⟨i,hi⟩:=gl (l:=is) (k:=0) o?;exact⟨i,z7 hi,(L2 i (z7 hi)).free⟩
 have hnpos:=q!.2 jx;obtain⟨x,hx⟩:=gl (l:=ns.l) (k:=0) hnpos;refine .go (gi hx) ?_;have hxs:gu x is≠[]:=Fc.1.of x (z7 hx);have hWK:WK w:=⟨hw.ok,o?⟩;refine .bind (push_tot hWK ⟨x,⟨is.isEmpty,is⟩⟩ ⟨u?,hb⟩ hism (fun i hi=>(L2 i hi).stop) hw8) fun p hp=>?_;obtain⟨p1,p2⟩:=hp;have hplen:p.1.length=w.2.2.1.length+1:=by rw[p1];simp
 refine .bind (Wo (w.1,w.2.1,p.1,p.2) p2) fun u hu=>?_;refine .ite (fun c1=> .ret fun h0=>absurd h0 (by simpa using c1)) fun c1=>?_;rcases hu with hu|⟨_,hu,hlk⟩;exact absurd (by simpa using c1) hu;have hulen:u.2.2.2.1.length=p.1.length:=hlk.len;have ent: ∀y,Fin u.2.1.length u.2.2.2.1 y->qJ (if (decide ((y.length:Int)<(p.1.length:Int)))=true then some ((qw.mk u.2.1 u.2.2.1 (⟨false,y⟩:(Sl qb))),(0:Int))else mS u.2.1 u.2.2.1 x y>>=fun QA=>some (QA.1,QA.2)) (fun v=>v.2=0->vj v.1):=by (intro y hy;have Lf:=well_fin hu hy o?;refine .ite (fun _=> .ret fun _=>Lf) fun c2=>?_;have Fk:y.length=p.1.length:=by have:=hy.JH.1;simp only[decide_eq_true_eq]at c2;omega);refine .bind (DT Lf x (fun z hz hzl=>?_) (by intro e;simp only at e;rw[e]at Fk;simp at Fk;omega)) fun v hv=> .ret hv;obtain⟨s,s1,s2⟩:=hy.JH.2 _ z hzl;have hidx:y.length-1=w.2.2.1.length:=o?;obtain⟨s',t1,t2⟩:=hlk.cur w.2.2.1.length ⟨x,⟨is.isEmpty,is⟩⟩ (by simp only[p1];rw[J? (jv _)];simp);simp only at s1;rw[hidx]at s1;have t1' :u.2.2.2.1[w.2.2.1.length]? =some s' :=t1;rw[s1]at t1';cases t1';have:z.cur=x:=s2.trans t2;rw[<- this];exact Lf.JH z hz
 refine .bind (Y6 u.2 hu.ok) fun y hy=>?_;rcases y with y|y;exact ent y hy;exact ent y hy
end Xr
namespace Xr
theorem ma(b:UInt8):qJ (kH b) (fun _=>True):=by unfold kH;split<;>exact .ret trivial
theorem tA(b:UInt8):qJ (wW b) (fun _=>True):=by unfold wW;(repeat' split)<;>exact .ret trivial
theorem Wq(s:qa):qJ (ji s) (fun _=>True):=by
 have loop:s.length<=64-> ∀(d k:Nat),k+d=s.length->qJ (xS (s,(k:Int))) (fun _=>True):=by intro hs d;induction d with|zero=>intro k h;rw[xS.eq_1,if_neg v?];exact .ret trivial|succ d ih=>intro k h;obtain⟨b,hb⟩:=gl (l:=s) (k:=k) o?;have k1:=ih (k+1) o?;rw[xS.eq_1,if_pos v?,ws o?];refine .go (gi hb) ?_;refine .bind (tA b) fun v _=>?_;refine .ite (fun _=>C! (fun _=>C! (fun _=> .ret trivial) fun _=>?_) fun _=>k1) fun _=>k1;refine .bind (ma b) fun v _=>?_;exact .ite (fun _=> .ret trivial) fun _=>k1
 unfold ji;refine .ite (fun _=> .ret trivial) fun c=>?_;simp only[Bool.or_eq_true,decide_eq_true_eq,not_or]at c;refine .bind (loop o? s.length 0 o?) fun v _=>?_;rcases v with v|v<;>exact .ret trivial
theorem set_tot(name value:qa){env:Sl qv}(he:Uj env):qJ (dL name value env) (fun v=>v.2=0->Uj v.1):=by
 have hl:=he.len;unfold dL;refine .bind (Wq name) fun a _=>?_;refine .ite (fun _=> .ret fun h0=>absurd h0 (by decide)) fun _=>?_;refine .ite (fun _=> .ret fun h0=>absurd h0 (by decide)) fun c=>?_;have hv:value.length<=65536:=by simp only[decide_eq_true_eq]at c;omega
 refine .zz qA ?_;have loop: ∀(d k:Nat),k+d=env.l.length->qJ (bZ (name,value,(k:Int),env.l)) (fun v=>match v with| .inl y=>y.1=0->Uj ⟨false,y.2⟩| .inr _=>True):=by intro d;induction d with|zero=>intro k h;rw[bZ.eq_1,if_neg v?];exact .ret trivial|succ d ih=>intro k h;obtain⟨x,hx⟩:=gl (l:=env.l) (k:=k) o?;rw[bZ.eq_1,if_pos v?,ws o?];refine .go (gi hx) ?_;refine .ite (fun _=> .ret fun _=>⟨v?,fun p hp=>?_⟩) fun _=>ih (k+1) o?;rcases List.mem_or_eq_of_mem_set hp with hp|rfl;exact he.val p hp;exact hv
 refine .bind (loop env.l.length 0 o?) fun v Ta=>?_;rcases v with v|v;exact .ret Ta;refine .ite (fun _=> .ret fun h0=>absurd h0 (by decide)) fun c2=>?_;have xQ:env.l.length<64:=by simp only[decide_eq_true_eq]at c2;omega
 refine .zz qA (.ret fun _=>⟨v?,fun p hp=>?_⟩);rcases m?.1 hp with hp|hp;exact he.val p hp;simp only[d?]at hp;subst hp;exact hv
structure Dd (o:bJ):Prop where
 text:o.text.length<=65536
 es:o.edits.l.length<=10
 et:wR o.edits.l<=2^60
 qs:o.xO.l.length<2^60
theorem RB{b:qa}{q:Sl qy}{ss:Sl qb}(h:vj ⟨b,q,ss⟩){env:Sl qv}(he:Uj env){o:bJ}(ho:Dd o)(r r2:Sl qw):qJ (uE o b q ss env r r2) (fun v=>v.2.2=0->vj v.1):=by
 have ht:b.length<=65536:=h.may.text;have h64:q.l.length<=64:=h.may.VJ;have dE:Wc b.length q.l:=h.may.K7;have hD: ∀es:Sl ql,es.l.length<=2^19->wR es.l<=2^60->qJ (rS (qw.mk b q ss) es>>=fun v=>some (v.1,true,v.2)) (fun v=>v.2.2=0->vj v.1):=fun es h1 h2=>q0q (BA _ h es h1 h2) fun v hv=> .ret fun h0=>by rcases hv with hv|⟨_,hv,_⟩;exact absurd h0 hv;exact hv
 have hF: ∀{p:Option (qw×Int)},qJ p (fun v=>v.2=0->vj v.1)->qJ (p>>=fun v=>some (v.1,true,v.2)) (fun v=>v.2.2=0->vj v.1):=fun hp=>q0q hp fun v hv=> .ret hv;unfold uE;refine .ite (fun _=>?_) fun _=>?_;refine .bind (E1 q o.text h64 ho.text) fun v hv=>hD v (by have:=hv.1;omega) (by have:=hv.2;omega);refine .ite (fun _=>?_) fun _=>?_;have:= @PL;exact tW;refine .ite (fun _=>hD o.edits (by have:=ho.es;omega) ho.et) fun _=>?_;refine .ite (fun _=>q0q (i7 (b.length:Int) o.xO ho.qs) fun v hv=> .ret fun h0=>vj.sel h (hv h0)) fun _=>?_;refine .ite (fun _=>q0q (go_tot b o? o.n o.extend q o?) fun v hv=> .ret fun h0=>vj.sel h (hv h0)) fun _=>?_;refine .ite (fun _=>?_) fun _=>?_;refine .bind (TU o.text) fun v hv=>?_;refine .ite (fun _=>hF (Te h v.1 hv.1 he)) fun c=> .ret fun h0=>absurd h0 (by simpa using c);have:= @Tv;have:= @TO;have:= @N9;have:= @UD;exact tW
structure MW (b:qa) (q:Sl qy) (ss:Sl qb) (env:Sl qv) (r r2:Sl qw) (n:Nat):Prop where
 G8:vj ⟨b,q,ss⟩
 env:Uj env
 behind: ∀s∈r.l,vj s
 ahead: ∀s∈r2.l,vj s
 len:r.l.length<=n/\r2.l.length<=n
 nb:r.nil=true->r.l=[]
 na:r2.nil=true->r2.l=[]
theorem MW.mono{b:qa}{q:Sl qy}{ss:Sl qb}{env:Sl qv}{r r2:Sl qw}{n:Nat}(h:MW b q ss env r r2 n):MW b q ss env r r2 (n+1):=⟨h.G8,h.env,h.behind,h.ahead,by have:=h.len;omega,h.nb,h.na⟩
theorem iS{r:List qw}(h: ∀s∈r,vj s){x:qw}(hx:vj x): ∀s∈r++[x],vj s:=fun s hs=>by rcases m?.1 hs with hs|hs;exact h s hs;simp only[d?]at hs;subst hs;exact hx
theorem Ov{b:qa}{q:Sl qy}{ss:Sl qb}{env:Sl qv}{r r2:Sl qw}{n:Nat}(h:MW b q ss env r r2 n)(hn:n<=50){o:bJ}(ho:Dd o):qJ (bq o b q ss env r r2) (fun v=>match v with
  | .inl y=>MW y.2.1 y.2.2.1 y.2.2.2.1 y.2.2.2.2 r r2 (n+1)
  | .inr (.inl y)=>MW y.2.1 y.2.2.1 y.2.2.2.1 env y.2.2.2.2.2 y.2.2.2.2.1 (n+1)
  | .inr (.inr (.inl y))=>MW y.2.1 y.2.2.1 y.2.2.2.1 env y.2.2.2.2.1 y.2.2.2.2.2 (n+1)
  | .inr (.inr (.inr y))=>MW y.2.1 y.2.2.1 y.2.2.2.1 env y.2.2.2.2 ⟨true,[]⟩ (n+1)):=by
 have hm:=h.mono;have hl:=h.len;have z1: ∀s∈([]:List qw),vj s:=z?;have swap: ∀{l:Sl qw},(l.nil=true->l.l=[])->(∀ s∈l.l,vj s)->l.l.length≠0-> ∃(k:Nat)(x:qw),l.l.length=k+1/\l.nil=false/\q?.wrap ((l.l.length:Int)-1)=(k:Int)/\qh l.l (k:Int)=some x/\kQ l.l (k:Int)=some (l.l.take k)/\vj x/\(∀ s∈l.l.take k,vj s)/\(l.l.take k).length=k\/100<l.l.length:=by
  intro l hnl hw hk;by_cases c:100<l.l.length
  ·exact⟨0,qw.mk [] ⟨true,[]⟩ ⟨true,[]⟩,.inr c⟩
  obtain⟨k,hk⟩: ∃k:Nat,l.l.length=k+1:=⟨l.l.length-1,o?⟩;obtain⟨x,hx⟩:=gl (l:=l.l) (k:=k) o?;refine⟨k,x,.inl ⟨hk, ?_, ?_,gi hx,JI _ _ o?,hw x (z7 hx),fun s hs=>hw s (List.mem_of_mem_take hs),v?⟩⟩
  ·cases e:l.nil
   ·rfl
   rw[hnl e]at hk;simp at hk
  rw[wi (n:=(l.l.length:Int)-1)];omega
 unfold bq;refine .ite (fun _=>?_) fun _=>?_
 ·refine .bind (set_tot o.name o.text h.env) fun v hv=>?_;refine .ite (fun c=> .ret ⟨h.G8,hv (by simpa using c),h.behind,h.ahead,hm.len,h.nb,h.na⟩) fun _=> .ret hm
 refine .ite (fun _=>?_) fun _=>?_
 ·refine .ite (fun _=> .ret hm) fun c=>?_;obtain⟨k,x,⟨hk,g0,gw,g1,g2,g3,g4,g5⟩|hc⟩:=swap h.nb h.behind (by intro e;rw[e]at c;simp at c)
  ·rw[gw];refine .ite (fun e=>?_) fun e=>?_
   ·rw[if_pos (by rw[h.na e];rfl)];refine .zz qA ?_;rw[if_neg (by simp[g0])];exact .go g1 (q12 g2 (.ret ⟨g3,h.env,g4,iS z1 h.G8,by simp only[k!];omega,z?,z?⟩))
   refine .zz qA ?_;rw[if_neg (by simp[g0])];exact .go g1 (q12 g2 (.ret ⟨g3,h.env,g4,iS h.ahead h.G8,by simp only[t?,k!];omega,z?,z?⟩))
  omega
 refine .ite (fun _=>?_) fun _=>?_
 ·refine .ite (fun _=> .ret hm) fun c=>?_;obtain⟨k,x,⟨hk,g0,gw,g1,g2,g3,g4,g5⟩|hc⟩:=swap h.na h.ahead (by intro e;rw[e]at c;simp at c)
  ·rw[gw];refine .ite (fun e=>?_) fun e=>?_
   ·rw[if_pos (by rw[h.nb e];rfl)];refine .zz qA ?_;rw[if_neg (by simp[g0])];exact .go g1 (q12 g2 (.ret ⟨g3,h.env,iS z1 h.G8,g4,by simp only[k!];omega,z?,z?⟩))
   refine .zz qA ?_;rw[if_neg (by simp[g0])];exact .go g1 (q12 g2 (.ret ⟨g3,h.env,iS h.behind h.G8,g4,by simp only[t?,k!];omega,z?,z?⟩))
  omega
 refine .bind (RB h.G8 h.env ho r r2) fun v hv=>?_;refine .ite (fun _=> .ret hm) fun c=>?_;have hw:=hv (by simpa using c);refine .ite (fun _=>?_) fun _=> .ret ⟨hw,h.env,h.behind,h.ahead,hm.len,h.nb,h.na⟩;refine .zz qA (q0p qA ?_);rw[if_neg v?];refine .ret ⟨hw,h.env,iS h.behind h.G8,z?, ?_,z?,z?⟩;simp only[t?,k!,List.length_nil];omega
theorem LH(n:Int)(hn:0<=n/\n<=1000)(ss:List qa)(hl:ss.length<=10):qJ (eW n ss) (fun v=>v=false-> ∀s∈ss,(s.length:Int)<=n):=by
 have loop: ∀(r:List qa)(i:Nat)(m:Int),ss.drop i=r->0<=m->m<=n->qJ (bL (m,(i:Int),ss)) (fun v=>match v with| .inl y=>y=true| .inr _=> ∀s∈r,(s.length:Int)<=n):=by intro r;induction r with|nil=>intro i m h _ _;have:=qW h;rw[bL.eq_1,if_neg v?];exact .ret z?|cons x r ih=>intro i m h h0 h1;obtain⟨g1,g2,g3⟩:=zl h;rw[bL.eq_1,if_pos v?,ws o?];have:= @gi;have:= @wi;exact tW
 unfold eW;refine .bind (loop ss 0 n rfl hn.1 o?) fun v hv=>?_;rcases v with v|v;(have Em:v=true:=hv;exact .ret fun h=>by rw[Em]at h;cases h);exact .ret fun _=>hv
theorem q01(many n:Int)(hm:0<=many/\many<=100)(hn:0<=n/\n<=1000)(es:Sl ql):qJ (eY many n es) (fun v=>v=false->es.l.length<=many/\wR es.l<=n):=by
 unfold eY;refine .ite (fun _=> .ret z?) fun c=>?_;simp only[decide_eq_true_eq]at c;have loop: ∀(r:List ql)(i:Nat)(m:Int),es.l.drop i=r->0<=m->m<=n->qJ (bM (m,es,(i:Int))) (fun v=>match v with| .inl y=>y=true| .inr _=>(wR r:Int)<=m):=by intro r;induction r with|nil=>intro i m h _ _;have:=qW h;rw[bM.eq_1,if_neg v?];exact .ret (by simpa[wR])|cons x r ih=>intro i m h h0 h1;obtain⟨g1,g2,g3⟩:=zl h;rw[bM.eq_1,if_pos v?,ws o?];refine .go (gi g1) ?_;refine .ite (fun _=> .ret rfl) fun c=>?_;simp only[decide_eq_true_eq]at c;rw[wi (n:=m-(x.text.length:Int))];refine .mono (ih (i+1) _ g2 o? o?) fun v hv=>?_;rcases v with v|v;exact hv;simp only[wR,s?,v!]at hv |-;push_cast;omega
 refine .bind (loop es.l 0 n rfl hn.1 o?) fun v hv=>?_;rcases v with v|v;(have Em:v=true:=hv;exact .ret fun h=>by rw[Em]at h;cases h);have Em:(wR es.l:Int)<=n:=hv;exact .ret fun _=>⟨o?,Em⟩
theorem ops_tot(many n:Int)(hm:0<=many/\many<=50)(hn:0<=n/\n<=1000)(os:Sl bJ):qJ (lM many n os) (fun v=>v=false->os.l.length<=many/\ ∀o∈os.l,Dd o):=by
 unfold lM;refine .ite (fun _=> .ret z?) fun c=>?_;simp only[decide_eq_true_eq]at c;have l2: ∀(i:Nat)(x:bJ),os.l[i]? =some x->x.edits.l.length<=10-> ∀(r:List ql)(k:Nat)(m:Int)(r0:List qa),x.edits.l.drop k=r->(wR r:Int)<=1000-> -5000+wR r<=m->m<=1000->qJ (mK (m,os,(i:Int),(k:Int),r0)) (fun v=>v=m-wR r):=by intro i x hx hxl r;induction r with|nil=>intro k m r0 h _ _ _;have:=qW h;rw[mK.eq_1];refine .go (gi hx) ?_;rw[if_neg v?];exact .ret (by simp[wR])|cons e r ih=>(intro k m r0 h h1 h2 h3;obtain⟨g1,g2,g3⟩:=zl h;have hs:(wR (e::r):Int)=e.text.length+wR r:=by simp[wR]);rw[mK.eq_1];refine .go (gi hx) ?_;rw[if_pos v?,ws o?];refine .go (gi g1) ?_;rw[wi (n:=m-(e.text.length:Int))];exact .mono (ih (k+1) _ r0 g2 o? o? o?) fun v hv=>o?
 have loop: ∀(r:List bJ)(i:Nat)(m:Int),os.l.drop i=r->0<=m->m<=n->qJ (mJ (m,os,(i:Int))) (fun v=>match v with| .inl y=>y=true| .inr _=> ∀o∈r,Dd o):=by intro r;induction r with|nil=>intro i m h _ _;have:=qW h;rw[mJ.eq_1,if_neg v?];exact .ret z?|cons x r ih=>intro i m h h0 h1;obtain⟨g1,g2,g3⟩:=zl h;rw[mJ.eq_1,if_pos v?,ws o?];refine .go (gi g1) ?_;refine .bind (LH m ⟨h0,o?⟩ [x.name,x.text] z?) fun v hv=>?_;refine .ite (fun _=> .ret rfl) fun c1=>?_;have En:=hv (by simpa using c1);have hname:=En x.name z?;have htext:=En x.text z?;refine .ite (fun _=> .ret rfl) fun c2=>?_;refine .ite (fun _=> .ret rfl) fun c3=>?_;simp only[decide_eq_true_eq]at c2 c3;refine .bind (q01 10 m o? ⟨h0,o?⟩ x.edits) fun u hu=>?_;refine .ite (fun _=> .ret rfl) fun c4=>?_;obtain⟨u1,u2⟩:=hu (by simpa using c4);rw[wi (n:=m-(x.name.length:Int)),wi (n:=m-(x.name.length:Int)-(x.text.length:Int))];refine .bind (l2 i x g1 o? x.edits.l 0 _ _ rfl o? o? o?) fun w hw=>?_;refine .ite (fun _=> .ret rfl) fun c5=>?_;simp only[decide_eq_true_eq]at c5;refine .mono (ih (i+1) w g2 o? o?) fun z hz=>?_;rcases z with z|z;exact hz;intro o ho;rcases U?.1 ho with rfl|ho;exact⟨o?,o?,o?,o?⟩;exact hz o ho
 refine .bind (loop os.l 0 n rfl hn.1 o?) fun v hv=>?_;rcases v with v|v;(have Em:v=true:=hv;exact .ret fun h=>by rw[Em]at h;cases h);exact .ret fun _=>⟨o?,hv⟩
theorem well0:vj ⟨[],⟨false,[⟨0,0⟩]⟩,⟨true,[]⟩⟩:=by refine⟨⟨z?,z?,z?,z?,fun x hx=>?_,by simp[RV],z?,fun j s hs=>by simp at hs⟩,z?,z?,z?⟩;simp only[d?]at hx;subst hx;exact⟨by decide,by decide⟩
theorem new_ok:iJ=some (.inr (0,[],⟨false,[⟨0,0⟩]⟩,⟨true,[]⟩,⟨true,[]⟩)):=by unfold iJ;rw[rV.eq_1,if_neg z?];rfl
end Xr
namespace Xr
theorem DL(os:Sl bJ)(hl:os.l.length<=40)(hO: ∀o∈os.l,Dd o)(t2:qw): ∀(r:List bJ)(i:Nat)(b:qa)(q:Sl qy)(ss:Sl qb)(env:Sl qv)(r1 r2:Sl qw),os.l.drop i=r->MW b q ss env r1 r2 i->
  qJ (kR (os,(i:Int),t2,b,q,ss,env,r1,r2)) (fun v=>vj ⟨v.1,v.2.1,v.2.2.1⟩):=by intro r;induction r with|nil=>intro i b q ss env r1 r2 h hw;have:=qW h;rw[kR.eq_1,if_neg v?];exact .ret hw.G8|cons o r ih=>intro i b q ss env r1 r2 h hw;obtain⟨g1,g2,g3⟩:=zl h;rw[kR.eq_1,if_pos v?,ws o?];refine .go (gi g1) ?_;refine .bind (Ov hw o? (hO o (z7 g1))) fun v hv=>?_;rcases v with y|y|y|y;exact ih (i+1) _ _ _ _ _ _ g2 hv;exact ih (i+1) _ _ _ _ _ _ g2 hv;exact ih (i+1) _ _ _ _ _ _ g2 hv;exact ih (i+1) _ _ _ _ _ _ g2 hv
theorem PF(os:Sl bJ)(hl:os.l.length<=40)(hO: ∀o∈os.l,Dd o):qJ (dX os) vj:=by unfold dX;refine .go new_ok ?_;refine .bind (DL os hl hO _ os.l 0 _ _ _ _ _ _ rfl ⟨well0,⟨z?,z?⟩,z?,z?,z?,z?,z?⟩) fun v hv=> .ret hv
end Xr
namespace Xr
theorem oz(x n:Int)(h0:0<n)(h1:n<=2^40):qJ (kg x n) (fun v=>0<=v/\v<n):=by
 have hw:L!.wrap n=n:=by simp only[q0x,q0y,O'];simp;omega
 have hx:0<=L!.wrap x:=by simp only[q0x,q0y,O'];simp;omega
 unfold kg;rw[hw,if_pos o?];have h2:=Int.tmod_nonneg n hx;have h3:=Int.tmod_lt_of_pos (L!.wrap x) h0;rw[wi (n:=(L!.wrap x).tmod n)];exact .ret ⟨h2,h3⟩
theorem shift_st{st:qw}(h:vj st){s:qb}(hs:s∈st.qm.l){e:ql}(he:wv e st.text.length)(a k:Int)(ho:Ix e s a k): ∃(fl flags:Sl (Sl Int))(L:List TS)(hh:List Bool)(sd:List Int)(last o:Int),vC s=some fl/\
  kJ s a k e true false fl=some (⟨s.cur,⟨(NI e sd 0 s.insts.l).isEmpty,NI e sd 0 s.insts.l⟩⟩,fl,flags)/\ko s a k e=some ⟨s.cur,⟨(NI e sd 0 s.insts.l).isEmpty,NI e sd 0 s.insts.l⟩⟩/\Dg e st.text.length s true a k L hh sd last o:=by obtain⟨fl,f1,f2⟩:=lF s (h.small s hs);obtain⟨s',flags,L,hh,sd,last,o,k1,k2,X,rfl⟩:=shift_eq e st.text.length he s (h.small s hs) (h.may.may s hs) e.span (Q7 _) a k (ho.imp id .inr) fl f2 (fun i hi x hx=>stopC_of (h.stop s hs i hi x hx));exact⟨fl,flags,L,hh,sd,last,o,f1,k1,k2,X⟩
theorem Fq{st:qw}(h:vj st){s:qb}(hs:s∈st.qm.l):0<s.insts.l.length:=by have:=h.JH s hs;rcases Nat.eq_zero_or_pos s.insts.l.length with c|c;rw[List.length_eq_zero_iff.1 c]at this;exact absurd rfl this;exact c
theorem Tf{st:qw}(h:vj st){s:qb}(hs:s∈st.qm.l)(e:ql)(ht:e.text.length<=30){A K:Nat}{i:qk}{x:qr}(hi:s.insts.l[A]? =some i)(hx:i.stops.l[K]? =some x){β:Type}{Q:β->Prop}(f:ql->Option β)
  (hf: ∀e',wv e' st.text.length->xl e'.span x.span->e'.text=e.text->qJ (f e') Q):
  qJ (kg e.span.qI (q?.wrap ((q?.wrap (x.span.to-x.span.qI))+(1:Int)))>>=fun v=>
   kg e.span.to (q?.wrap ((q?.wrap (x.span.to-(q?.wrap (x.span.qI+v))))+(1:Int)))>>=fun w=>f (ql.mk (qn.mk (q?.wrap (x.span.qI+v)) (q?.wrap ((q?.wrap (x.span.qI+v))+w))) e.text)) Q:=by have Ji:=h.may.text;have hm:=(h.may.may s hs).may A i hi;have h1:=hm.inside K x hx;have h2:=hm.le K x hx;have h3:=hm.Zg;rw[wi (n:=x.span.to-x.span.qI),wi (n:=x.span.to-x.span.qI+1)];refine .bind (oz _ _ o? o?) fun v hv=>?_;rw[wi (n:=x.span.qI+v),wi (n:=x.span.to-(x.span.qI+v)),wi (n:=x.span.to-(x.span.qI+v)+1)];refine .bind (oz _ _ o? o?) fun w hw=>?_;rw[wi (n:=x.span.qI+v+w)];refine hf _ ⟨u?,u?,u?,u?,o?⟩ ?_ rfl;unfold xl;simp only;omega
end Xr
namespace Xr
theorem S8{st:qw}(h:vj st){s:qb}(hs:s∈st.qm.l){e:ql}(he:wv e st.text.length)(a k:Int)(ho:Ix e s a k): ∃(s' :qb)(L:List TS)(hh:List Bool)(sd:List Int)(last o:Int),ko s a k e=some s' /\gm s a k e=some s' /\xU s' s' =some true/\
  Dg e st.text.length s true a k L hh sd last o/\s' =⟨s.cur,⟨(NI e sd 0 s.insts.l).isEmpty,NI e sd 0 s.insts.l⟩⟩:=by have dF:=h.small s hs;obtain⟨fl,flags,L,hh,sd,last,o,f1,k1,k2,X⟩:=shift_st h hs he a k ho;refine⟨_,L,hh,sd,last,o,k2, ?_, ?_,X,rfl⟩;unfold gm;rw[f1];simp only[zJ,qS,k1];have hc:=Wr e.span.qI e.span.to e.text.length (rj sd) s.insts.l 0 (l:=yx 0 s.insts.l) (fun r x hx=>by rw[A?];exact hx);have hle:=Nr e.span.qI e.span.to e.text.length (rj sd) s.insts.l 0;refine HS _ ⟨?_,fun i hi=>?_⟩ fun i hi x hx=>?_;exact Nat.le_trans hle dF.1;obtain⟨i',h1,h2,_⟩:=hc i hi;have:=dF.2 i' h1;omega;obtain⟨i',h1,_,h2⟩:=hc i hi;obtain⟨x',h3,h4⟩:=h2 x hx;exact eb x x' h4 (h.stop s hs i' h1 x' h3)
theorem dg(os:Sl bJ)(which inst stop:Int)(e:ql):vL os which inst stop e=some true:=by
 have key:qJ (vL os which inst stop e) (fun v=>v=true):=by
  unfold vL;refine .bind (ops_tot 6 120 o? o? os) fun v hv=>?_;refine .ite (fun _=>qJ.go (a:=true) rfl (.ret rfl)) fun c=>?_;simp only[Bool.or_eq_true,decide_eq_true_eq,not_or,Bool.not_eq_true]at c;obtain⟨h1,h2⟩:=hv c.1;have ht:e.text.length<=30:=o?;refine .bind (PF os o? h2) fun st Z5=>?_;refine .ite (fun _=>qJ.go (a:=true) rfl (.ret rfl)) fun c2=>?_;have hsl:0<st.qm.l.length:=by (have:(st.qm.l.length:Int)≠0:=by simpa using c2);omega
  have h8:=Z5.may.di;have Ji:=Z5.may.text;refine .bind (oz _ _ o? o?) fun w hw=>?_;refine .bind (qJ.get hw.1 hw.2) fun s hs=>?_;have dF:=Z5.small s hs.2;have hp:=Fq Z5 hs.2;have nH:=dF.1;have tail:qJ (kg inst (s.insts.l.length:Int)>>=fun E3=>
    qh s.insts.l E3>>=fun x57=>
    if((x57.stops.l.length:Int)==(0:Int))then
     O8>>=fun v60=>
     some v60
    else
     kg stop (x57.stops.l.length:Int)>>=fun v62=>
     qh x57.stops.l v62>>=fun Mz=>
     kg e.span.qI (IntKind.i64.wrap ((IntKind.i64.wrap (Mz.span.to-Mz.span.qI))+(1:Int)))>>=fun v66=>
     kg e.span.to (IntKind.i64.wrap ((IntKind.i64.wrap (Mz.span.to-(IntKind.i64.wrap (Mz.span.qI+v66))))+(1:Int)))>>=fun v68=>
     ko s E3 v62 (ql.mk (qn.mk (IntKind.i64.wrap (Mz.span.qI+v66)) (IntKind.i64.wrap ((IntKind.i64.wrap (Mz.span.qI+v66))+v68))) e.text)>>=fun v70=>
     gm s E3 v62 (ql.mk (qn.mk (IntKind.i64.wrap (Mz.span.qI+v66)) (IntKind.i64.wrap ((IntKind.i64.wrap (Mz.span.qI+v66))+v68))) e.text)>>=fun v72=>
     xU v70 v72>>=fun v74=>
     if v74 then
      O8>>=fun v77=>
      some v77
     else
      some false) (fun v=>v=true):=by
   refine .bind (oz _ _ o? o?) fun a ha=>?_;refine .bind (qJ.get ha.1 ha.2) fun i hi=>?_;have db:=dF.2 i hi.2;refine .ite (fun _=>qJ.go (a:=true) rfl (.ret rfl)) fun c3=>?_;have pT:(i.stops.l.length:Int)≠0:=by simpa using c3
   refine .bind (oz _ _ o? o?) fun k hk=>?_;refine .bind (qJ.get hk.1 hk.2) fun x hx=>?_;refine Tf Z5 hs.2 e ht hi.1 hx.1 (fun e' =>ko s a k e' >>=fun v70=>gm s a k e' >>=fun v72=>xU v70 v72>>=fun v74=>if v74 then O8>>=fun v77=>some v77 else some false) fun e' he hw _=>?_;obtain⟨s',_,_,_,_,_,k1,k2,k3,_⟩:=S8 Z5 hs.2 he a k (.inr ⟨a.toNat,k.toNat,i,x,o?,o?,hi.1,hx.1,hw⟩);rw[k1];refine .go rfl ?_;rw[k2];refine .go rfl ?_;rw[k3];refine .go rfl ?_;exact .go (a:=true) rfl (.ret rfl)
  (have near:qJ (dY (st.text.length:Int) (⟨false,[e]⟩:Sl ql)) (fun v=> ∃(x:ql),v.l=[x]/\0<=x.span.qI/\x.span.qI<=x.span.to/\x.text=e.text):=by unfold dY;rw[mb.eq_1,if_pos z?,show qh [e] (0:Int)=some e from gi (k:=0) rfl,wi (n:=(st.text.length:Int)+1)];simp only[zJ,qS];obtain⟨p,p1,p2⟩:=oz e.span.qI ((st.text.length:Int)+1) o? o?;obtain⟨q,q1,q2⟩:=oz e.span.to 6 o? o?;rw[p1];simp only[qS];rw[q1];simp only[qS];rw[if_pos (qA z? o?),show IntKind.i64.wrap ((0:Int)+1)=1 from by decide,mb.eq_1,if_neg z?,wi (n:=p+q)];exact .ret ⟨_,rfl,u?,u?,rfl⟩);refine .bind near fun nr hnr=>?_;obtain⟨fe,n1,n2,n3,n4⟩:=hnr;rw[n1,show qh [fe] (0:Int)=some fe from gi (k:=0) rfl];refine .go rfl ?_;refine .ite (fun c3=>?_) fun _=>tail;have he:wv fe st.text.length:=⟨n2,n3,by simpa using c3,by rw[n4];omega,o?⟩;obtain⟨s',_,_,_,_,_,k1,k2,k3,_⟩:=S8 Z5 hs.2 he (-1) (-1) (.inl ⟨rfl,rfl⟩);rw[k1];refine .go rfl ?_;rw[k2];refine .go rfl ?_;rw[k3];refine .go rfl ?_;exact .ite (fun c=>by cases c) fun _=>tail
 obtain⟨v,h1,h2⟩:=key;rw[h1,h2]
end Xr
theorem dg(os:Sl bJ)(which inst stop:Int)(e:ql):vL os which inst stop e=some true:=Xr.dg os which inst stop e
end Go.Proofs.YtoflcafolmmaaaaGreat
