/-
  Expressions: how many parts, groups, how deep; which may be.
-/
import Derived.Test.YtnojdepmnnebnaaGreatQal
import Derived.Test.YtnojdepmnnebnaaGreatQak
open Go.IntKind renaming i64->q?
open Go.Proofs.YtnojdepmnnebnaaGreat.qJ renaming get->v_
open Int renaming toNat_natCast->d?
open List renaming map->w?,length_cons->h?,replicate->b?,mem_append->m?,length_append->t?,map_cons->s?,mem_singleton->a?,length_nil->e?,mem_cons->U?,map_nil->L?,map_append->Y!,ne_nil_of_length_pos->P!,countP_cons->O!,take_append_drop->f_,length_eq_one_iff->L_
open Nat renaming strongRecOn->p?
set_option linter.unusedSimpArgs false
set_option linter.unusedVariables false
namespace Go.Proofs.YtnojdepmnnebnaaGreat
open Go Go.Gm
namespace Xr
def newText(b:qa)(e:ql):qa:=b.take e.span.qB.toNat++e.text++b.drop e.span.to.toNat
theorem JA(b:qa)(e:ql)(he:kM e b.length):((newText b e).length:Int)=b.length+(e.text.length-(e.span.to-e.span.qB)):=by have:=he.a0;have:=he.ab;have:=he.bn;unfold newText;simp only[t?,List.length_take,List.length_drop];omega
structure IY (P:qq->Prop) (b:qa) (e:ql) (ss:List qb) (top inst:Int) (v:qa×Sl qy×List qb×Sl (Sl (Sl Int))):Prop where
 text:v.1=newText b e
 ok:Sy P v.1 v.2.1 v.2.2.1 v.2.2.2
 len:v.2.2.1.length=ss.length
 cur: ∀(j:Nat) s,ss[j]? =some s-> ∃s',v.2.2.1[j]? =some s' /\s'.cur=s.cur
 top: ∀(t:Nat) s,top=t->inst≠ -1->ss[t]? =some s-> ∃s',v.2.2.1[t]? =some s' /\s'.insts.l.length=s.insts.l.length
section
variable {P:qq->Prop} (hP:Cored P) {b:qa} {q:Sl qy} {ss:List qb} {fl:Sl (Sl (Sl Int))}
include hP in
theorem Cb(W:Sy P b q ss fl){e:ql}(he:kM e b.length)(hB:b.length+e.text.length<=2^39)(is ks:List Int)(ho:o9 e ss is ks)(top inst:Int)(htop: ∀(t:Nat),top=t->inst≠ -1-> ∀a,is[t]? =some a->a≠ -1)
  {ss' :List qb} {H8:Sl (Sl (Sl Int))} (H:Laid e b.length ss is ss.length ss' H8):
  IY P b e ss top inst (newText b e,⟨(mo (q.l.map (QS e))).isEmpty,mo (q.l.map (QS e))⟩,ss',H8):=by
 have hl:=JA b e he;have hn:=(NM e b.length he q (by have:=W.Y1;omega) W.Kj).2;rw[<- hl]at hn;have hap:=Zk _ _ hn;have Vs:=WA (q.l.map (QS e));have eL:=he.ab;have hd: ∀(j:Nat) s',ss'[j]? =some s' -> ∃s f a,ss[j]? =some s/\H8.l[j]? =some f/\is[j]? =some a/\UK e b.length s a s' f:=by intro j s' oQ;have hj:=(qF oQ).1;obtain⟨s,hs⟩:=gl (l:=ss) (k:=j) (by have:=H.len;omega);obtain⟨s2,f,a,k1,k2,k3,k4⟩:=H.done j s (by have:=H.len;omega) hs;rw[oQ]at k1;cases k1;exact⟨s,f,a,hs,k2,k3,k4⟩
 refine⟨rfl, ?_,H.len, ?_, ?_⟩;refine⟨u?,Vs.2 (by simpa using W.ne),by have:=W.Y1;have:=Vs.1;simp only[List.length_map]at this;simp only;omega,hap.1,hap.2,by rw[H.len];exact W.du, ?_, ?_,by rw[H.W8,H.len], ?_, ?_, ?_⟩;intro s' oQ;obtain⟨j,hj⟩:=kb oQ;obtain⟨s,f,a,k1,k2,k3,k4⟩:=hd j s' hj;have cG:=W.small s (z6 k1);refine⟨by have:=k4.len;have:=cG.1;omega,fun i hi=>?_⟩;obtain⟨i0,hi0,h1,_⟩:=k4.core i hi;have:=cG.2 i0 hi0;omega;intro s' oQ;obtain⟨j,hj⟩:=kb oQ;obtain⟨s,f,a,k1,k2,k3,k4⟩:=hd j s' hj;rw[hl];exact k4.may;intro jz;refine H.fnn fun c=>?_;have:=H.len;rw[c]at this;exact jz (List.eq_nil_of_length_eq_zero (by simpa using this));intro j s' f oQ hf;obtain⟨s,f2,a,k1,k2,k3,k4⟩:=hd j s' oQ;rw[hf]at k2;cases k2;exact k4.fl;intro s' oQ i hi x hx;obtain⟨j,hj⟩:=kb oQ;obtain⟨s,f,a,k1,k2,k3,k4⟩:=hd j s' hj;obtain⟨i0,hi0,_,h2⟩:=k4.core i hi;obtain⟨x0,hx0,h3⟩:=h2 x hx;exact hP x x0 h3 (W.stop s (z6 k1) i0 hi0 x0 hx0);intro j s hs;obtain⟨s',f,a,k1,k2,k3,k4⟩:=H.done j s (qF hs).1 hs;exact⟨s',k1,k4.cur⟩;intro t s ht dK hs;obtain⟨s',f,a,k1,k2,k3,k4⟩:=H.done t s (qF hs).1 hs;exact⟨s',k1,k4.all (htop t ht dK a k3)⟩
include hP in
theorem TJ(W:Sy P b q ss fl){e:ql}(he:kM e b.length)(hB:b.length+e.text.length<=2^39)(top inst stop:Int)(mark:Bool)
  (ho:(inst= -1/\stop= -1)\/ ∃(t:Nat)(s:qb),top=t/\ss[t]? =some s/\inst≠ -1/\OwnE e s inst stop):
  ∃v,jL top inst stop e mark b q ss fl=some v/\IY P b e ss top inst v:=by
 have ED:=W.du;have eL:=he.ab;have EE:=he.a0;have hbn:=he.bn;obtain⟨is0,ks0,g1,g2,g3,g4⟩:=lay_L0 mark b q ss fl (e:=e) top inst stop ED ss.length 0 (b? ss.length 0) (b? ss.length 0) o? z? z? (fun j hj=>o?);have ho0:o9 e ss is0 ks0:=by refine⟨g2,g3,fun j s hs=>?_⟩;have hj:=g4 j (qF hs).1;exact⟨-1,-1,hj.1,hj.2,.inl ⟨rfl,rfl⟩⟩
 have L0: ∀is:List Int,Laid e b.length ss is 0 ss fl:=by intro is;refine⟨rfl,W.W8,W.fnn,fun j s hj=>o?,fun j s _ hs=>?_⟩;obtain⟨f,hf⟩:=gl (l:=fl.l) (k:=j) (by rw[W.W8];exact(qF hs).1);exact⟨hs,f,hf,W.each j s f hs hf⟩
 have hmv:=(NM e b.length he q (by have:=W.Y1;omega) W.Kj).1;have c1:kF b e.span.qB=some (b.take e.span.qB.toNat):=by obtain⟨r,k1,k2,_⟩:=qJ.kF (l:=b) EE o?;rw[k1,k2]
 have c2:bH b e.span.to=some (b.drop e.span.to.toNat):=by obtain⟨r,k1,k2,_⟩:=qJ.bH (l:=b) (lo:=e.span.to) o? o?;rw[k1,k2]
 have hbl:=W.blen;have r1:(b.take e.span.qB.toNat).length+e.text.length<=2^62:=v?;have r2:(b.take e.span.qB.toNat++e.text).length+(b.drop e.span.to.toNat).length<=2^62:=v?;unfold jL;rw[if_pos z?,if_pos (qA v? o?),if_pos z?,if_pos (qA v? o?)];simp only[d?];rw[show (0:Int)=((0:Nat):Int)from rfl,show b? ss.length ((0:Nat):Int)=b? ss.length 0 from rfl,g1];simp only[zF,qS];rcases ho with ⟨rfl,rfl⟩|⟨t,s,rfl,hs,dK,how⟩;rw[if_neg z?];obtain⟨ss',H8,k1,k2⟩:=lay_L42 mark b q b.length he ss ED W.small W.may is0 ks0 ho0 top ss.length 0 fl ss o? (L0 is0);rw[k1];simp only[qS,c1,c2,hmv];rw[if_pos r1,if_pos r2];exact⟨_,rfl,Cb hP W he hB is0 ks0 ho0 top (-1) (fun t _ h=>absurd rfl h) k2⟩;rcases how with ⟨h,_⟩|⟨a',k',i,x,rfl,rfl,h1,h2,h3⟩;exact absurd h dK;have htl:=(qF hs).1;rw[if_pos z?,gi (g4 t htl).1,gi (g4 t htl).2,gi hs];simp only[qS];rw[gi h1];simp only[qS,d?];have sG:=z6 hs;have hin' :=(W.may s sG).may a' i h1 |>.inside k' x h2;have ho1:o9 e ss (is0.set t (a' :Int)) (ks0.set t (k' :Int)):=by refine⟨by simp[g2],by simp[g3],fun j s' oQ=>?_⟩;rw[zl,zl];by_cases c:t=j;subst c;rw[hs]at oQ;cases oQ;rw[if_pos ⟨rfl,o?⟩,if_pos ⟨rfl,o?⟩];exact⟨_,_,rfl,rfl,.inr ⟨a',k',i,x,rfl,rfl,h1,h2,h3⟩⟩;rw[if_neg o?,if_neg o?];exact ho0.2.2 j s' oQ
 obtain⟨Pb,FU,at',m1,m2,m3⟩:=lay_L2 mark b q ss fl (t:Int) W.small (fun s hs=>⟨_,W.may s hs⟩) t (is0.set t (a' :Int)) (ks0.set t (k' :Int)) i.span o? o? (oO h3 ⟨hin'.1,hin'.2⟩) ho1;rw[show q?.wrap ((t:Int)-1)=(t:Int)-1 from qH o? o?,m1];simp only[qS];obtain⟨ss',H8,k1,k2⟩:=lay_L4 mark b q b.length he ss ED W.small W.may Pb FU m2 (t:Int) at' ss.length 0 fl ss o? (L0 Pb);rw[k1];simp only[qS,c1,c2,hmv];rw[if_pos r1,if_pos r2];refine⟨_,rfl,Cb hP W he hB Pb FU m2 (t:Int) (a' :Int) (fun t' ht' _ a ha=>?_) k2⟩;obtain rfl:t=t' :=o?;rw[m3 t (jx _),zl,if_pos ⟨rfl,o?⟩]at ha;cases ha;omega
end
end Xr
namespace Xr
theorem XH(n:Int)(l:List Int)(hl:l.length<2^60):qJ (mV n l) (fun _=>True):=by
 have loop: ∀(d k:Nat),k+d=l.length->qJ (uv (n,(k:Int),l)) (fun _=>True):=by intro d;induction d with|zero=>intro k h;rw[uv.eq_1,if_neg v?];exact .ret trivial|succ d ih=>intro k h;obtain⟨x,hx⟩:=gl (l:=l) (k:=k) o?;rw[uv.eq_1,if_pos v?,ws o?];refine .go (gi hx) ?_;split;exact .ret trivial;exact ih (k+1) o?
 unfold mV;refine .bind (loop l.length 0 o?) fun v _=>?_;rcases v with v|v<;>exact .ret trivial
theorem in_tot(l:Sl qq)(b:Int): ∀(m:Nat)(a:Int),m=(a+1).toNat->qJ (tu l a b) (fun _=>True):=by
 have loop: ∀(m:Nat)(a:Int),m=(a+1).toNat->qJ (kI (l,a,b)) (fun _=>True):=by intro m;induction m using p? with|_ m ih=>intro a hm;rw[kI.eq_1];by_cases c:0<=a/\a<(l.l.length:Int);obtain⟨k,rfl⟩: ∃k:Nat,a=k:=⟨a.toNat,o?⟩;obtain⟨x,hx⟩:=gl (l:=l.l) (k:=k) o?;rw[if_pos v?];refine .go (gi hx) ?_;refine .ite (fun c1=>?_) fun _=> .ret trivial;refine .ite (fun c2=>?_) fun _=> .ret trivial;refine .ite (fun _=> .ret trivial) fun _=>?_;simp only[decide_eq_true_eq]at c1 c2;exact ih (x.up+1).toNat o? x.up rfl;rw[if_neg (by simp only[zO,decide_eq_true_eq];omega)];exact .ret trivial
 intro m a hm;unfold tu;refine .bind (loop m a hm) fun v _=>?_;rcases v with v|v<;>exact .ret trivial
theorem L5(l:Sl qq)(n:Int)(zU:List Int)(hl:l.l.length<2^60)(ht:zU.length<2^60):qJ (fS l n zU) (fun _=>True):=by
 have q0d: ∀(a:Int)(d k:Nat),k+d=l.l.length->qJ (yO (l,n,a,(k:Int),zU)) (fun _=>True):=by intro a d;induction d with|zero=>intro k h;rw[yO.eq_1,if_neg v?];exact .ret trivial|succ d ih=>intro k h;obtain⟨x,hx⟩:=gl (l:=l.l) (k:=k) o?;rw[yO.eq_1,if_pos v?,ws o?];refine .go (gi hx) ?_;refine .ite (fun _=>?_) fun _=>ih (k+1) o?;refine .bind (in_tot l _ _ a rfl) fun v _=>?_;exact .ite (fun _=> .ret trivial) fun _=>ih (k+1) o?
 have loop: ∀(d k:Nat),k+d=l.l.length->qJ (ve (l,n,(k:Int),zU)) (fun _=>True):=by intro d;induction d with|zero=>intro k h;rw[ve.eq_1,if_neg v?];exact .ret trivial|succ d ih=>intro k h;obtain⟨x,hx⟩:=gl (l:=l.l) (k:=k) o?;rw[ve.eq_1,if_pos v?,ws o?];refine .go (gi hx) ?_;refine .ite (fun _=>ih (k+1) o?) fun _=>?_;refine .bind (XH x.n zU ht) fun v _=>?_;refine .ite (fun _=>ih (k+1) o?) fun _=>?_;refine .bind (q0d (k:Int) l.l.length 0 o?) fun w _=>?_;rcases w with w|w;exact .ret trivial;exact ih (k+1) o?
 unfold fS;refine .bind (loop l.l.length 0 o?) fun v _=>?_;rcases v with v|v<;>exact .ret trivial
theorem Cv(ns:Sl Int)(n:Int)(hl:ns.l.length<=2^28):qJ (ri ns n) (fun r=>r.l.length<=ns.l.length+1/\(∀ x∈r.l,x=n\/x∈ns.l)/\n∈r.l/\ ∀x∈ns.l,x∈r.l):=by
 have loop: ∀(d k:Nat),k+d=ns.l.length->qJ (ng (ns,n,(k:Int))) (fun v=> ∃j:Nat,v=j/\j<=ns.l.length):=by intro d;induction d with|zero=>intro k h;rw[ng.eq_1,if_neg v?];exact .ret ⟨k,rfl,o?⟩|succ d ih=>intro k h;obtain⟨x,hx⟩:=gl (l:=ns.l) (k:=k) o?;rw[ng.eq_1,if_pos v?,ws o?];refine .go (gi hx) ?_;exact .ite (fun _=>ih (k+1) o?) fun _=> .ret ⟨k,rfl,o?⟩
 unfold ri;refine .bind (loop ns.l.length 0 o?) fun v hv=>?_;obtain⟨j,rfl,hj⟩:=hv;have mid:(ns.l.take j++[n]++ns.l.drop j).length<=ns.l.length+1/\(∀ x∈ns.l.take j++[n]++ns.l.drop j,x=n\/x∈ns.l)/\n∈ns.l.take j++[n]++ns.l.drop j/\ ∀x∈ns.l,x∈ns.l.take j++[n]++ns.l.drop j:=by refine⟨v?,fun x hx=>?_,z?,fun x hx=>?_⟩;simp only[m?,a?]at hx;rcases hx with (hx|hx)|hx;exact .inr (List.mem_of_mem_take hx);exact .inl hx;exact .inr (List.mem_of_mem_drop hx);rw[<- f_ j ns.l]at hx;simp only[m?,a?]at hx |-;rcases hx with hx|hx;exact .inl (.inl hx);exact .inr hx
 have r1:qg (ns.l.take j).length 8=true:=qA v? o?;have r2:qg ((ns.l.take j).length+1) 8=true:=qA v? o?;have r3:qg ((ns.l.take j++[n]).length+(ns.l.drop j).length) 8=true:=qA v? o?;refine .ite (fun c=>?_) fun _=>?_;obtain⟨x,hx⟩:=gl (l:=ns.l) (k:=j) (by simp at c;omega);refine .go (gi hx) ?_;refine .ite (fun c2=>?_) fun _=>?_;refine .ret ⟨o?,fun y hy=> .inr hy, ?_,fun y hy=>hy⟩;have:=z6 hx;simp only[beq_iff_eq]at c2;rw[<- c2];exact this;refine .go (JT _ _ hj) ?_;refine .zx r1 (qJ.zx r2 ?_);refine .go (OR _ _ hj) ?_;exact .zx r3 (.ret mid);refine .go (JT _ _ hj) ?_;refine .zx r1 (qJ.zx r2 ?_);refine .go (OR _ _ hj) ?_;exact .zx r3 (.ret mid)
theorem A5(i:qj)(hl:i.stops.l.length<=2^12):qJ (cX i) (fun r=>r.l.length<=2^12):=by
 have loop0: ∀(d k:Nat)(a:Sl Int),k+d=i.stops.l.length->a.l.length<=k->qJ (uq (a,(k:Int),i)) (fun r=>r.l.length<=i.stops.l.length):=by intro d;induction d with|zero=>intro k a h ha;rw[uq.eq_1,if_neg v?];exact .ret o?|succ d ih=>intro k a h ha;obtain⟨x,hx⟩:=gl (l:=i.stops.l) (k:=k) o?;rw[uq.eq_1,if_pos v?,ws o?];refine .go (gi hx) ?_;refine .bind (Cv a x.n o?) fun v hv=>?_;exact ih (k+1) v o? o?
 have loop4: ∀(a:Sl Int)(zU:List Int),a.l.length<=2^12->zU.length<=2^12-> ∀(d k:Nat)(next:Int)(f:Bool),k+d=a.l.length->qJ (w9 (a,next,f,(k:Int),i,zU)) (fun _=>True):=by intro a zU ha ht d;induction d with|zero=>intro k next f h;rw[w9.eq_1,if_neg v?];exact .ret trivial|succ d ih=>(intro k next f h);obtain⟨x,hx⟩:=gl (l:=a.l) (k:=k) o?;rw[w9.eq_1,ws o?];refine .ite (fun _=>?_) fun _=> .ret trivial;refine .go (gi hx) ?_;refine .bind (XH x zU o?) fun v _=>?_;refine .ite (fun _=>?_) fun _=>ih (k+1) _ _ o?;refine .bind (L5 i.stops x zU o? o?) fun w _=>?_;exact .ite (fun _=>ih (k+1) _ _ o?) fun _=>ih (k+1) _ _ o?
 have loop6: ∀(a:Sl Int)(zU:List Int),a.l.length<=2^12->zU.length<=2^12-> ∀(d k:Nat)(next:Int)(f:Bool),k+d=a.l.length->qJ (vw (a,next,f,(k:Int),i,zU)) (fun _=>True):=by intro a zU ha ht d;induction d with|zero=>intro k next f h;rw[vw.eq_1,if_neg v?];exact .ret trivial|succ d ih=>(intro k next f h);obtain⟨x,hx⟩:=gl (l:=a.l) (k:=k) o?;rw[vw.eq_1,ws o?];refine .ite (fun _=>?_) fun _=> .ret trivial;refine .go (gi hx) ?_;refine .bind (XH x zU o?) fun v _=>?_;exact .ite (fun _=>ih (k+1) _ _ o?) fun _=>ih (k+1) _ _ o?
 have q0d: ∀(a:Sl Int),a.l.length<=2^12-> ∀(d:Nat)(zU:List Int),zU.length+d=a.l.length->qJ (ur (a,i,zU)) (fun r=>r.length<=2^12):=by intro a ha d;induction d with|zero=>intro zU h;rw[ur.eq_1,if_neg v?];exact .ret o?|succ d ih=>intro zU h;rw[ur.eq_1,if_pos v?];refine .bind (loop4 a zU ha o? a.l.length 0 _ _ o?) fun v _=>?_;refine .bind (loop6 a zU ha o? a.l.length 0 _ _ o?) fun w _=>?_;refine .zx qA ?_;exact ih _ v?
 unfold cX;refine .bind (loop0 i.stops.l.length 0 ⟨true,[]⟩ o? z?) fun v hv=>?_;refine .bind (q0d v o? v.l.length [] z?) fun w hw=>?_;exact .ret hw
def PF(m:Nat)(r:Int):Prop:=r<0\/ ∃j:Nat,r=j/\j<m
def SrcQ(m:Nat)(v:(Int×Int×Int)⊕(Int×Int)):Prop:=match v with| .inl w=>PF m w.1| .inr w=>PF m w.1/\PF m w.2
theorem S0(i:qj)(n:Int)(held:Sl Bool)(hl:i.stops.l.length<2^60):qJ (s8 i n held) (fun r=>r<0\/ ∃(k:Nat)(x:qq),r=k/\i.stops.l[k]? =some x):=by
 have ok: ∀(r:Int),PF i.stops.l.length r->(r<0\/ ∃(k:Nat)(x:qq),r=k/\i.stops.l[k]? =some x):=by intro r h;rcases h with h|⟨k,h1,h2⟩;exact .inl h;obtain⟨x,hx⟩:=gl h2;exact .inr ⟨k,x,h1,hx⟩
 have loop: ∀(d k:Nat)(f a:Int),k+d=i.stops.l.length->PF i.stops.l.length f->PF i.stops.l.length a->
   qJ (zQ (n,held,f,a,(k:Int),i)) (SrcQ i.stops.l.length):=by
  intro d;induction d with
  |zero=>intro k f a h hf ha;rw[zQ.eq_1,if_neg v?];exact .ret (show SrcQ _ (.inr (f,a))from⟨hf,ha⟩)
  |succ d ih=>
   intro k f a h hf ha;obtain⟨x,hx⟩:=gl (l:=i.stops.l) (k:=k) o?;have hk:PF i.stops.l.length (k:Int):= .inr ⟨k,rfl,o?⟩;rw[zQ.eq_1,if_pos v?,ws o?];refine .go (gi hx) ?_;refine .ite (fun _=>ih (k+1) f a o? hf ha) fun _=>?_;have rest: ∀(f' a' :Int),(f' =f\/f' =k)->(a' =a\/a' =k)->qJ (zQ (n,held,f',a',((k+1:Nat):Int),i)) (SrcQ i.stops.l.length):=fun f' a' h1 h2=>
    ih (k+1) f' a' o? (h1.elim (fun e=>e ▸ hf) (fun e=>e ▸ hk)) (h2.elim (fun e=>e ▸ ha) (fun e=>e ▸ hk))
   refine .ite (fun c=>?_) fun _=>?_
   ·obtain⟨hb,hhb⟩:=gl (l:=held.l) (k:=k) (by simp at c;omega);refine .go (gi hhb) ?_;refine .ite (fun _=> .ret (show SrcQ _ (.inl _)from hk)) fun _=>?_;refine .ite (fun _=>?_) fun _=>?_
    ·exact .ite (fun _=>rest _ _ (.inr rfl) (.inr rfl)) fun _=>rest _ _ (.inr rfl) (.inl rfl)
    exact .ite (fun _=>rest _ _ (.inl rfl) (.inr rfl)) fun _=>rest _ _ (.inl rfl) (.inl rfl)
   refine .ite (fun _=>?_) fun _=>?_
   ·exact .ite (fun _=>rest _ _ (.inr rfl) (.inr rfl)) fun _=>rest _ _ (.inr rfl) (.inl rfl)
   exact .ite (fun _=>rest _ _ (.inl rfl) (.inr rfl)) fun _=>rest _ _ (.inl rfl) (.inl rfl)
 unfold s8;refine .bind (loop i.stops.l.length 0 (-1) (-1) o? (.inl o?) (.inl o?)) fun v hv=>?_;rcases v with v|v;exact .ret (ok _ hv);exact .ite (fun _=> .ret (ok _ hv.1)) fun _=> .ret (ok _ hv.2)
end Xr
set_option maxHeartbeats 1000000
def QX{α:Type}(s:Sl α):Nat:=if s.nil=s.l.isEmpty then 0 else 1000000000000000000
theorem dJ{α:Type}:QX (⟨true,[]⟩:Sl α)=0:=rfl
theorem Zt{α:Type}(x:α)(l:List α):QX (⟨false,x::l⟩:Sl α)=0:=rfl
theorem K7{α:Type}(l:List α):QX (⟨l.isEmpty,l⟩:Sl α)=0:=by simp[QX]
def qO:List Nat->Nat
 |[]=>0
 |a::r=>a+qO r
theorem bM: ∀a b:List Nat,qO (a++b)=qO a+qO b
 |[],b=>by simp[qO]
 |x::a,b=>by simp only[List.cons_append,qO,bM a b];omega
theorem MQ: ∀{l:List Nat}{x:Nat},x∈l->x<=qO l
 |y::l,x,h=>by simp only[qO];rcases U?.1 h with rfl|h;omega;have:=MQ h;omega
theorem xc{α:Type}{f:α->Nat}(hf: ∀a,1<=f a): ∀l:List α,l.length<=qO (l.map f)
 |[]=>by simp[qO]
 |a::l=>by have:=xc hf l;have:=hf a;simp only[s?,qO,h?];omega
theorem kf{α:Type}(f:α->Nat)(l:List α)(a:α):qO ((l++[a]).map f)=qO (l.map f)+f a:=by rw[Y!,bM];simp[qO]
theorem xP{α:Type}{f:α->Nat}{l:List α}{a:α}(h:a∈l):f a<=qO (l.map f):=MQ (List.mem_map.2 ⟨a,h,rfl⟩)
theorem Q7{α:Type}(f:α->Nat): ∀(l:List α)(i:Nat)(a x:α),l[i]? =some x->qO ((l.set i a).map f)+f x=qO (l.map f)+f a
 |y::l,0,a,x,h=>by simp only[List.getElem?_cons_zero,ki]at h;subst h;simp only[List.set_cons_zero,s?,qO];omega
 |y::l,i+1,a,x,h=>by simp only[List.getElem?_cons_succ]at h;have:=Q7 f l i a x h;simp only[List.set_cons_succ,s?,qO];omega
def oz(f:zt):Nat:=1+f.lj.length+f.QD.length
theorem ZV(x:zt):1<=oz x:=by unfold oz;omega
theorem WC(w:Int):qJ (sR w) (fun r=>r.length<=20):=by unfold sR;repeat' (first|(refine .tI ?_ ?_<;>intro hT)|exact .ret (by decide))
theorem M4(s:qa)(hs:s.length<=BN)(e:Int)(h0:0<=e)(h1:e+1<s.length)(t f:zt): ∀(m:Nat)(w:Int),m=(6-w).toNat->1<=w->
  qJ (gH (s,e,w,t,f)) (fun r=> ∀y,r= .inl y->e<y.1/\y.1<=s.length/\oz y.2.2.1=oz f/\y.2.1=true):=by unfold BN at hs;intro m;induction m using p? with|_ m ih=>intro w hm h2;rw[gH.eq_1];have:= @WC;exact tW
theorem KN(s:qa)(hs:s.length<=BN)(qp:Int)(h0:0<=qp)(h1:qp<s.length)(c:Bool):qJ (tQ s qp c) (fun r=>r=true->qp+1<s.length):=by unfold BN at hs;unfold tQ;exact tW
theorem Hs(s:qa)(hs:s.length<=BN)(stop:UInt8): ∀(m:Nat)(qp:Int)(b:List UInt8),m=(s.length-qp).toNat->0<=qp->qp<=s.length->b.length<=BN->(b.length:Int)<=qp->
  qJ (ug (s,qp,stop,b)) (fun r=>qp<=r.1/\r.1<=s.length/\(r.2.length:Int)+qp<=b.length+r.1):=by unfold BN at hs;intro m;induction m using p? with|_ m ih=>intro qp b hm h0 h1 hb hb2;rw[ug.eq_1];have:= @KN;exact tW
theorem eW(s:qa)(hs:s.length<=BN)(qp:Int)(h0:0<=qp)(h1:qp<=s.length)(stop:UInt8):
  qJ (hJ s qp stop) (fun r=>r.2.2=true->qp<=r.2.1/\r.2.1<s.length/\(r.1.length:Int)+qp<=r.2.1):=by unfold hJ;have:= @Hs;exact tW
set_option maxHeartbeats 2000000 in
theorem Ra(s:qa)(hs:s.length<=BN)(qp:Int)(h0:0<=qp)(h1:qp<s.length):
  qJ (fG s qp) (fun r=>r.2.2=true->qp+1<r.2.1/\r.2.1<=s.length/\(oz r.1:Int)+qp+1<=r.2.1):=by have hB:s.length<=8192:=hs;unfold fG;(repeat (first|(rw [qH];rotate_left;omega;omega)|(rw [xI];rotate_left;omega;omega)));refine .bind (fj s hs (qp+1) o? o?) fun v hv=>?_;refine .tI ?_ ?_<;>intro hT;have hc:=hT;have:=hv.2.2 hc;exact .ret fun _=>⟨u?,u?,by simp only[oz,e?];omega⟩;refine .tI ?_ ?_<;>intro hT;exact .ret z?;refine .bind .get fun b hb=>?_;refine .tI ?_ ?_<;>intro hT;exact .ret z?;refine .bind (fj s hs (qp+2) o? o?) fun w hw=>?_;refine .tI ?_ ?_<;>intro hT;exact .ret z?;have hc:=hT;have P9:=hw.2.2 (by simpa using hc.1);refine .bind .get fun b2 hb2=>?_;(repeat (first|(rw [qH];rotate_left;omega;omega)|(rw [xI];rotate_left;omega;omega)));refine .tI ?_ ?_<;>intro hT;exact .ret fun _=>⟨u?,u?,by simp only[oz,e?];omega⟩;refine .tI ?_ ?_<;>intro hT;exact .ret z?;refine .bind .get fun b3 hb3=>?_;refine .tI ?_ ?_<;>intro hT;refine .bind (M4 s hs w.2.1 o? o? _ _ _ 1 rfl o?) fun y hy=>?_;rcases y with y|y;obtain⟨g1,g2,g3,g4⟩:=hy y rfl;refine .ret fun _=>?_;simp only[oz,e?]at g3 |-;omega;exact .ret z?;(repeat (first|(rw [qH];rotate_left;omega;omega)|(rw [xI];rotate_left;omega;omega)));refine .tI ?_ ?_<;>intro hT;{refine .bind (eW s hs (w.2.1+2) o? o? 125) fun y hy=>?_;refine .tI ?_ ?_<;>intro hT;exact .ret z?;have hc:=hT;have hy:=hy hc;(repeat (first|(rw [qH];rotate_left;omega;omega)|(rw [xI];rotate_left;omega;omega)));refine .ret fun _=>?_;simp only[oz,e?];omega};refine .tI ?_ ?_<;>intro hT;{refine .bind (eW s hs (w.2.1+2) o? o? 58) fun y hy=>?_;refine .tI ?_ ?_<;>intro hT;{have hc:=hT;have hy:=hy hc;(repeat (first|(rw [qH];rotate_left;omega;omega)|(rw [xI];rotate_left;omega;omega)));refine .bind (eW s hs (y.2.1+1) o? o? 125) fun z hz=>?_;refine .tI ?_ ?_<;>intro hT;exact .ret z?;have hc:=hT;have hz:=hz hc;(repeat (first|(rw [qH];rotate_left;omega;omega)|(rw [xI];rotate_left;omega;omega)));refine .ret fun _=>?_;simp only[oz];omega};exact .ret z?};refine .tI ?_ ?_<;>intro hT;{refine .bind (eW s hs (w.2.1+2) o? o? 125) fun y hy=>?_;refine .tI ?_ ?_<;>intro hT;exact .ret z?;have hc:=hT;have hy:=hy hc;(repeat (first|(rw [qH];rotate_left;omega;omega)|(rw [xI];rotate_left;omega;omega)));refine .ret fun _=>?_;simp only[oz,e?];omega};refine .bind (eW s hs (w.2.1+1) o? o? 125) fun y hy=>?_;refine .tI ?_ ?_<;>intro hT;exact .ret z?;have hc:=hT;have hy:=hy hc;(repeat (first|(rw [qH];rotate_left;omega;omega)|(rw [xI];rotate_left;omega;omega)));refine .ret fun _=>?_;simp only[oz,e?];omega
theorem last_eq{α:Type}(l:List α)(a:α):(((l++[a]).length:Int)-1).toNat=l.length:=z?
theorem set_snoc{α:Type}(l:List α)(a b:α):(l++[a]).set l.length b=l++[b]:=z?
theorem Sc(c:UInt8)(fs:List zt)(hf:qO (fs.map oz)<=4*BN):
  qJ (mT c fs) (fun r=>qO (r.map oz)<=qO (fs.map oz)+2):=by
 unfold BN at hf;have hl:=xc ZV fs;have key: ∀z:zt,z.lj=[]->z.QD=[]->qJ (qh (fs++[z]) (q?.wrap (((fs++[z]).length:Int)-1))) (fun x=>x=z):=by (intro z h1 h2;have:q?.wrap (((fs++[z]).length:Int)-1)=(fs.length:Int):=by rw[qH (by simp only[t?,h?,e?];omega) (by simp only[t?,h?,e?];omega)];simp);rw[this];refine(v_ o? (by simp only[t?,h?,e?];omega)).mono fun x hx=>?_;have:=hx.1;simp at this;exact this.symm
 have snd: ∀(z y:zt),z.lj=[]->z.QD=[]->y.lj=[c]->y.QD=[]->qO (((fs++[z]).set (q?.wrap (((fs++[z]).length:Int)-1)).toNat y).map oz)<=qO (fs.map oz)+2:=by intro z y h1 h2 h3 h4;rw[qH (by simp only[t?,h?,e?];omega) (by simp only[t?,h?,e?];omega),last_eq,set_snoc,kf];simp[oz,h3,h4]
 unfold mT;refine .tI ?_ ?_<;>intro hT;refine .zx qA ?_;refine .bind (key _ rfl rfl) fun x hx=>?_;subst hx;refine .zx z? ?_;exact .ret (snd _ _ rfl rfl z? rfl);have e1:q?.wrap ((fs.length:Int)-1)=(fs.length:Int)-1:=qH o? o?;rw[e1];refine .bind .get fun x hx=>?_;have LK:=xP (f:=oz) hx.2;refine .tI ?_ ?_<;>intro hT;refine .zx qA ?_;refine .bind (key _ rfl rfl) fun x hx=>?_;subst hx;refine .zx z? ?_;exact .ret (snd _ _ rfl rfl z? rfl);refine .zx (by simp only[oz]at LK;simp;omega) ?_;refine .ret ?_;have:=Q7 oz fs ((fs.length:Int)-1).toNat (zt.mk x.kind x.n x.Yo (x.lj++[c]) x.QD) x hx.1;simp only[oz,t?,h?,e?]at this |-;have e2:qO (w? (fun f=>1+f.lj.length+f.QD.length) (fs.set ((fs.length:Int)-1).toNat (zt.mk x.kind x.n x.Yo (x.lj++[c]) x.QD)))=qO (w? oz (fs.set ((fs.length:Int)-1).toNat (zt.mk x.kind x.n x.Yo (x.lj++[c]) x.QD))):=rfl;omega
theorem Y2(s:qa)(hs:s.length<=BN): ∀(m:Nat)(qp:Int)(fs:List zt),m=(s.length-qp).toNat->0<=qp->qp<=s.length->(qO (fs.map oz):Int)<=2*qp->
  qJ (kS (s,qp,fs)) (fun r=>qp<=r.1/\r.1<=s.length/\(qO (r.2.map oz):Int)+2*qp<=qO (fs.map oz)+2*r.1):=by have hB:s.length<=8192:=hs;intro m;induction m using p? with|_ m ih=>intro qp fs hm h0 h1 hw;have hl:=xc ZV fs;rw[kS.eq_1];have:= @Sc;have:= @Ra;have:= @kf;have:= @KN;exact tW
theorem Rm(s:qa)(hs:s.length<=BN)(qp:Int):
  qJ (fE s qp) (fun r=>r.2.2=true->0<=qp/\qp<=r.2.1/\r.2.1<s.length/\(qO (r.1.l.map oz):Int)+QX r.1<=2*(r.2.1-qp)):=by unfold fE;refine .tI ?_ ?_<;>intro hT;exact .ret z?;refine .bind (Y2 s hs _ qp [] rfl o? o? (by simp[qO];omega)) fun v hv=>?_;refine .tI ?_ ?_<;>intro hT;exact .ret z?;refine .ret fun _=>?_;simp only[L?,qO,K7]at hv |-;omega
def gn(r:qV):Nat:=1+r.qB.length+r.to.length
theorem sf(r:qV):1<=gn r:=by unfold gn;omega
mutual
def ru:qG->Nat
 |⟨_,c,_,rows,_,_,_,qz⟩=>1+c.length+qO (rows.l.map gn)+QX rows+rxWS qz
def rxWS:Sl qG->Nat
 |⟨z,l⟩=>rxWL l+QX (⟨z,l⟩:Sl qG)
def rxWL:List qG->Nat
 |[]=>0
 |x::r=>ru x+rxWL r
end
theorem Mx: ∀l:List qG,rxWL l=qO (l.map ru)
 |[]=>by simp[rxWL,qO]
 |x::r=>by simp[rxWL,qO,Mx r]
theorem yo(x:qG):ru x=1+x.char.length+qO (x.rows.l.map gn)+qO (x.qz.l.map ru)+(QX x.rows+QX x.qz):=by cases x with|mk a b c d e f g h=>cases h;simp[ru,rxWS,Mx];omega
theorem ee(x:qG):1<=ru x:=by rw[yo];omega
theorem cJ(b:UInt8):qJ (vU b) (fun _=>True):=by unfold vU;repeat' (first|(refine .tI ?_ ?_<;>intro hT)|exact .ret trivial)
theorem Gk(s:qa)(hs:s.length<=BN): ∀(m:Nat)(f i:Int)(l:List qa),m=(s.length+1-i).toNat->0<=f->f<i->i<=s.length+1->(l.length:Int)<=f->(∀ c∈l,c.length<=s.length)->
  qJ (zM (s,f,i,l)) (fun r=>r.length<=s.length+1/\ ∀c∈r,c.length<=s.length):=by have hB:s.length<=8192:=hs;intro m;induction m using Nat.strongRecOn with|_ m ih=>(intro f i l hm h0 h1 h2 h3 h4;rw[zM.eq_1];have more:i<=s.length-> ∀r:qa,(r.length:Int)=i-f-> ∀c∈l++[r],c.length<=s.length:=by intro hi r hr c hc;rcases List.mem_append.1 hc with hc|hc;exact h4 c hc;(have:c=r:=by simpa using hc);subst this;omega);refine .tI ?_ ?_<;>intro hT;{refine .tI ?_ ?_<;>intro hT;exact tW;refine .bind .get fun b hb=>?_;refine .bind (cJ b) fun v hv=>?_;refine .tI ?_ ?_<;>intro hT;exact tW;(repeat (first|(rw [qH];rotate_left;omega;omega)|(rw [xI];rotate_left;omega;omega)));exact ih _ o? f (i+1) _ rfl o? o? o? o? h4};exact .ret ⟨by show l.length<=_;omega,h4⟩
theorem UB(s:qa)(hs:s.length<=BN):qJ (yJ s) (fun r=>r.l.length<=s.length+1/\ ∀c∈r.l,c.length<=s.length):=by unfold yJ;have:= @zM.eq_1;have:= @Gk;exact tW
theorem Zl(c:qa)(hc:c.length<=BN):qJ (jt c) (fun _=>True):=by unfold jt;refine .tI ?_ ?_<;>intro hT;refine .bind .get fun b hb=>?_;refine .bind (cJ b) fun v hv=>?_;have:= @UB;exact tW;exact .ret trivial
theorem N6: ∀(m:Nat)(i:Int)(b:List UInt8),m=(b.length-i).toNat->0<=i->b.length<=BN->qJ (kR (i,b)) (fun r=>r.length=b.length):=by intro m;induction m using p? with|_ m ih=>intro i b hm h0 hb;have hB:b.length<=8192:=hb;rw[kR.eq_1];exact tW
theorem L3(s:qa)(hs:s.length<=BN):qJ (gD s) (fun r=>r.length=s.length):=by unfold gD;have:= @N6;exact tW
theorem YV(c:UInt8):qJ (rf c) (fun r=>qO (r.1.l.map gn)+QX r.1<=12):=by unfold rf;repeat' (first|(refine .tI ?_ ?_<;>intro hT)|exact .ret (by decide))
theorem W3(c:qa):qJ (wY c) (fun r=>r.1.length<=c.length+1/\(r.2=true->0<c.length)):=by
 unfold wY;refine .tI ?_ ?_<;>intro hT;exact .ret z?;have h0:=hT;have h1:0<c.length:=List.length_pos_iff.2 h0;repeat' (first|(refine .tI ?_ ?_<;>intro hT)|exact .ret ⟨by simp,fun _=>h1⟩)
 refine .bind .get fun b hb=>?_;refine .bind (tN b) fun v hv=>?_;refine .tI ?_ ?_<;>intro hT;exact .ret z?;refine .bind (mc b) fun w hw=>?_;refine .tI ?_ ?_<;>intro hT;exact .ret z?;exact .ret ⟨z?,fun _=>h1⟩
structure ZH (cs:Sl qa):Prop where
 many:cs.l.length<=257
 each: ∀c∈cs.l,c.length<=256
theorem dI{cs:Sl qa}(hc:ZH cs)(b:qd)(h:b.cs=cs)(h0:0<=b.qp):
  qJ (xn b) (fun r=>r.length<=256/\(r≠[]->b.qp<cs.l.length)):=by unfold xn;rw[h];refine .tI ?_ ?_<;>intro hT;exact .ret z?;refine .bind (v_ h0 o?) fun x hx=>?_;exact .ret ⟨hc.each x hx.2,fun _=>o?⟩
theorem Vf{cs:Sl qa}(hc:ZH cs)(c:qa)(b:qd)(h:b.cs=cs)(h0:0<=b.qp):
  qJ (qK c b) (fun r=>r.2.cs=cs/\(r.1=true->r.2.qp=b.qp+1/\b.qp<cs.l.length)/\(r.1=false->r.2=b)):=by have hm:=hc.many;unfold qK;exact tW
def pP(rows:List qV):Prop:= ∀r∈rows,r.qB.length<=300/\r.to.length<=300
theorem pP.app{a b:List qV}(h1:pP a)(h2:pP b):pP (a++b):=by intro r hr;rcases m?.1 hr with hr|hr;exact h1 r hr;exact h2 r hr
theorem pP.one{f t:qa}(h1:f.length<=300)(h2:t.length<=300):pP [qV.mk f t]:=by
 intro r hr;have:r=qV.mk f t:=by simpa using hr
 subst this;exact⟨h1,h2⟩
theorem pP.light{rows:List qV}(h:qO (rows.map gn)<=300):pP rows:=by intro r hr;have:=xP (f:=gn) hr;simp only[gn]at this;exact tW
section
variable {cs:Sl qa} (hc:ZH cs)
include hc
theorem Np(b:qd)(h:b.cs=cs)(h0:0<=b.qp)(h1:b.qp<=cs.l.length):
  qJ (vO b) (fun r=>r.2.2.2.cs=cs/\0<=r.2.2.2.qp/\(r.2.2.1=true->b.qp<r.2.2.2.qp/\r.2.2.2.qp<=cs.l.length/\qO (r.1.l.map gn)<=12/\r.2.1.length<=257)):=by
 have hm:=hc.many;unfold vO;refine .bind (dI hc b h h0) fun v hv=>?_;refine .tI ?_ ?_<;>intro hT;exact .ret ⟨h,h0,z?⟩;have h2:=hT;have h3:=hv.2 h2.1;(repeat (first|(rw [qH];rotate_left;omega;omega)|(rw [xI];rotate_left;omega;omega)));refine .tI ?_ ?_<;>intro hT;exact .ret ⟨h,u?,fun _=>⟨u?,u?,by simp[qO],u?⟩⟩;refine .bind (dI hc (qd.mk b.cs (b.qp+1)) h u?) fun w hw=>?_;simp only at hw;(repeat (first|(rw [qH];rotate_left;omega;omega)|(rw [xI];rotate_left;omega;omega)))
 have esc:qJ (wY w>>=fun vG=>
   some ((⟨true,([]:List qV)⟩:Sl qV),vG.1,vG.2,(qd.mk b.cs (b.qp+1+1))))
   (fun r=>r.2.2.2.cs=cs/\0<=r.2.2.2.qp/\(r.2.2.1=true->b.qp<r.2.2.2.qp/\r.2.2.2.qp<=cs.l.length/\qO (r.1.l.map gn)<=12/\r.2.1.length<=257)):=by
  refine .bind (W3 w) fun y hy=>?_;refine .ret ⟨h,u?,fun XT=>?_⟩;simp only at XT |-;have hy3:=hy.2 XT;have P9:=hw.2 (P! hy3);exact⟨o?,o?,by simp[qO],o?⟩
 have:= @YV;exact tW
theorem H4(t:qG)(x:qG)(a0:Int): ∀(m:Nat)(b:qd)(rows:List qV),m=(cs.l.length-b.qp).toNat->b.cs=cs->0<=a0->a0<=b.qp->b.qp<=cs.l.length->(qO (rows.map gn):Int)<=600*(b.qp-a0)->pP rows->
  qJ (zz (b,t,x,rows)) (fun r=>(∀ y,r= .inl y->y.1≠0/\y.2.1.cs=cs)/\
   ∀y,r= .inr y->y.1.cs=cs/\b.qp<y.1.qp/\y.1.qp<=cs.l.length/\(qO (y.2.map gn):Int)<=600*(y.1.qp-a0)/\pP y.2):=by
 have hm:=hc.many;intro m;induction m using p? with
  |_ m ih=>
   intro b rows Lt h EE h0 h1 hw hro;have hl:=xc sf rows;rw[zz.eq_1];refine .bind (Vf hc _ b h o?) fun v hv=>?_;have next: ∀(b2:qd)(Mv:List qV),b2.cs=cs->b.qp<b2.qp->b2.qp<=cs.l.length->(qO (Mv.map gn):Int)<=600*(b2.qp-a0)->pP Mv->
     qJ (zz (b2,t,x,Mv)) (fun r=>(∀ y,r= .inl y->y.1≠0/\y.2.1.cs=cs)/\
      ∀y,r= .inr y->y.1.cs=cs/\b.qp<y.1.qp/\y.1.qp<=cs.l.length/\(qO (y.2.map gn):Int)<=600*(y.1.qp-a0)/\pP y.2):=by
    intro b2 Mv g1 g2 g3 g4 g5;refine(ih _ o? b2 Mv rfl g1 EE o? g3 g4 g5).mono fun r hr=>⟨hr.1,fun y hy=>?_⟩;have:=hr.2 y hy;exact⟨this.1,o?,this.2.2.1,this.2.2.2⟩
   refine .tI ?_ ?_<;>intro hT
   ·have Zf:=hT;have e:=hv.2.2 Zf;rw[e];refine .bind (Np hc b h o? h1) fun w Wn=>?_;refine .tI ?_ ?_<;>intro hT;refine .ret ⟨fun y hy=>?_,fun y hy=>by cases hy⟩;cases hy;exact⟨z?,Wn.1⟩;have dn:=hT;obtain⟨g1,g2,g3⟩:=Wn;obtain⟨g3,g4,g5,g6⟩:=g3 dn;have P7:=xc sf w.1.l;refine .tI ?_ ?_<;>intro hT;{refine .tI ?_ ?_<;>intro hT;{exact next _ _ g1 g3 g4 o? hro};refine .zx qA ?_;exact next _ _ g1 g3 g4 (by rw[Y!,bM];omega) (hro.app (pP.light o?))}
    refine .bind (dI hc w.2.2.2 g1 g2) fun y hy=>?_;have one:qJ (if qg (rows.length+1) 32=true then zz (w.2.2.2,t,x,(rows++[(qV.mk w.2.1 w.2.1)]))else none)
      (fun r=>(∀ y,r= .inl y->y.1≠0/\y.2.1.cs=cs)/\
       ∀y,r= .inr y->y.1.cs=cs/\b.qp<y.1.qp/\y.1.qp<=cs.l.length/\(qO (y.2.map gn):Int)<=600*(y.1.qp-a0)/\pP y.2):=by
     refine .zx qA ?_;exact next _ _ g1 g3 g4 (by rw[kf];simp only[gn];omega) (hro.app (pP.one o? o?))
    rw[g1];refine .tI ?_ ?_<;>intro hT;{(repeat (first|(rw [qH];rotate_left;omega;omega)|(rw [xI];rotate_left;omega;omega)));refine .bind .get fun c Hl=>?_;refine .tI ?_ ?_<;>intro hT;{refine .bind (Np hc (qd.mk cs (w.2.2.2.qp+1)) rfl u? u?) fun z hz=>?_;simp only at hz;refine .tI ?_ ?_<;>intro hT;refine .ret ⟨fun y hy=>?_,fun y hy=>by cases hy⟩;cases hy;exact⟨z?,hz.1⟩;have hok2:=hT;obtain⟨k1,k2,k3⟩:=hz;obtain⟨k3,k4,k5,k6⟩:=k3 hok2.1;refine .zx qA ?_;exact next _ _ k1 o? k4 (by rw[kf];simp only[gn];omega) (hro.app (pP.one o? o?))};exact one};exact one
   have Zf:=hT;obtain⟨g1,g2⟩:=hv.2.1 Zf;refine .ret ⟨fun y hy=>(by cases hy),fun y hy=>?_⟩;cases hy;exact⟨hv.1,u?,u?,u?,hro⟩
end
theorem Gu(rows s:Sl qV)(i:Int)(x:qV)(hs:s.l.length<=1000000): ∀(m:Nat)(k:Int),m=k.toNat->0<=k->k<=s.l.length->qJ (ud (rows,s,i,k,x)) (fun r=>0<=r/\r<=s.l.length):=by intro m;induction m using p? with|_ m ih=>intro k hm h0 h1;rw[ud.eq_1];exact tW
theorem Gt(rows:Sl qV)(hw:qO (rows.l.map gn)<=1000000)(he: ∀r∈rows.l,r.qB.length<=BN/\r.to.length<=BN): ∀(r:List qV)(k:Nat)(s:Sl qV),rows.l.drop k=r->qO (s.l.map gn)+qO (r.map gn)<=qO (rows.l.map gn)->
  qJ (kV (rows,s,(k:Int))) (fun t=>qO (t.l.map gn)<=qO (rows.l.map gn)):=by have hl:=xc sf rows.l;intro r;induction r with|nil=>intro k s hk hs;rw[kV.eq_1];have:=vI hk;refine .tI ?_ ?_<;>intro hT;omega;exact .ret (by simp[qO]at hs;exact hs)|cons x r ih=>intro k s hk hs;obtain⟨h1,h2,h3⟩:=drop_cons hk;have hx:=he x (z6 h1);have P7:=xc sf s.l;simp only[s?,qO]at hs;rw[kV.eq_1];have e1:q?.wrap ((k:Int)+1)=((k+1:Nat):Int):=pE o?;rw[e1];refine .tI ?_ ?_<;>intro hT;refine .bind (P:=fun y=>y=x) ⟨x,by rw[xd h3];simpa[wu h3]using h1,rfl⟩ fun y hy=>?_;subst hy;refine .bind (Zl _ hx.1) fun v hv=>?_;refine .tI ?_ ?_<;>intro hT;exact ih (k+1) s h2 o?;refine .bind (Zl _ hx.2) fun w P9=>?_;refine .tI ?_ ?_<;>intro hT;exact ih (k+1) s h2 o?;(refine .bind (Gu rows s k y o? _ _ rfl o? o?) fun z hz=>?_;refine .bind (qJ.kF hz.1 hz.2) fun a ha=>?_;refine .zx qA ?_;refine .zx qA ?_;refine .bind (qJ.bH hz.1 hz.2) fun b hb=>?_;refine .zx (qA v? o?) ?_;refine ih (k+1) _ h2 ?_;have e2:qO (s.l.map gn)=qO (a.map gn)+qO (b.map gn):=by rw[<- bM,<- Y!,ha.1,hb.1,f_]);simp only[Y!,bM,s?,L?,qO];omega;omega
theorem Gv(s:Sl qV)(hw:qO (s.l.map gn)<=1000000): ∀(r:List qV)(k:Nat)(out:List qV),s.l.drop k=r->qO (out.map gn)+qO (r.map gn)<=qO (s.l.map gn)->
  qJ (kX (s,(k:Int),out)) (fun t=>qO (t.map gn)<=qO (s.l.map gn)):=by have hl:=xc sf s.l;intro r;induction r with|nil=>intro k out hk hs;rw[kX.eq_1];have:=vI hk;refine .tI ?_ ?_<;>intro hT;omega;exact .ret (by simp[qO]at hs;exact hs)|cons x r ih=>intro k out hk hs;obtain⟨h1,h2,h3⟩:=drop_cons hk;have P7:=xc sf out;simp only[s?,qO]at hs;rw[kX.eq_1];have e1:q?.wrap ((k:Int)+1)=((k+1:Nat):Int):=pE o?;rw[e1];have hg:qJ (qh s.l (k:Int)) (fun y=>y=x):=⟨x,by rw[xd h3];simpa[wu h3]using h1,rfl⟩;refine .tI ?_ ?_<;>intro hT;refine .tI ?_ ?_<;>intro hT;refine .bind hg fun y hy=>?_;subst hy;have e2:q?.wrap ((out.length:Int)-1)=(out.length:Int)-1:=qH o? o?;rw[e2];refine .bind .get fun z hz=>?_;refine .tI ?_ ?_<;>intro hT;(refine ih (k+1) _ h2 ?_;have:=Q7 gn out ((out.length:Int)-1).toNat (qV.mk z.qB (if ka z.to y.to=true then y.to else z.to)) z hz.1;have e3:gn (qV.mk z.qB (if ka z.to y.to=true then y.to else z.to))<=gn z+gn y:=by simp only[gn];split<;>omega);omega;refine .zx qA ?_;exact ih (k+1) _ h2 (by rw[kf];omega);refine .bind hg fun y hy=>?_;subst hy;refine .zx qA ?_;exact ih (k+1) _ h2 (by rw[kf];omega);omega
theorem Jc(rows:Sl qV)(hw:qO (rows.l.map gn)<=1000000)(he: ∀r∈rows.l,r.qB.length<=BN/\r.to.length<=BN):qJ (cP rows) (fun t=>qO (t.l.map gn)+QX t<=qO (rows.l.map gn)):=by unfold cP;have h:=Gt rows hw he rows.l 0 (⟨true,[]⟩:Sl qV) rfl (by simp[qO]);rw[show ((0:Nat):Int)=0 from rfl]at h;refine .bind h fun v hv=>?_;exact .bind (Gv v o? v.l 0 [] rfl (by simp[qO])) fun w hw=> .ret (by rw[K7];simp only;omega)
section
variable {cs:Sl qa} (hc:ZH cs)
include hc
theorem F4(b:qd)(h:b.cs=cs)(h0:0<=b.qp)(h1:b.qp<=cs.l.length):
  qJ (uf b) (fun r=>r.2.2.cs=cs/\(r.2.1=0->b.qp<r.2.2.qp/\r.2.2.qp<=cs.l.length/\(ru r.1:Int)<=600*(r.2.2.qp-b.qp)+1)):=by
 have hm:=hc.many;unfold uf;refine .bind (Vf hc _ b h h0) fun v hv=>?_;have hb:b.qp<=v.2.qp/\v.2.qp<=cs.l.length:=by cases Zf:v.1;rw[hv.2.2 Zf];omega;have:=hv.2.1 Zf;omega
 refine .bind (H4 hc _ _ b.qp _ v.2 [] rfl hv.1 h0 hb.1 hb.2 (by simp[qO];omega) (by intro r hr;cases hr)) fun w hw=>?_;rcases w with y|y;exact tW;obtain⟨g1,g2,g3,g4,g5⟩:=hw.2 y rfl;refine .bind (Jc (⟨y.2.isEmpty,y.2⟩:Sl qV) u? (fun r hr=>by have:=g5 r hr;unfold BN;omega)) fun z hz=>?_;refine .ret ⟨g1,fun _=>⟨u?,g3, ?_⟩⟩;simp only[yo,dJ,Zt,K7,e?,L?,qO]at hz |-;omega
theorem PX(b:qd)(h:b.cs=cs)(h0:0<=b.qp)(h1:b.qp<=cs.l.length):
  qJ (hC b) (fun r=>r.2.2.cs=cs/\(r.2.1=0->b.qp<r.2.2.qp/\r.2.2.qp<=cs.l.length/\ru r.1<=300)):=by
 have hm:=hc.many;unfold hC;refine .bind (dI hc b h h0) fun v hv=>?_;refine .bind (L3 v (by unfold BN;omega)) fun w hw=>?_;(repeat (first|(rw [qH];rotate_left;omega;omega)|(rw [xI];rotate_left;omega;omega)))
 have esc:qJ (wY v>>=fun mA=>
   if(!mA.2)then
    some ((qG.mk (0:Int) ([]:qa) false (⟨true,([]:List qV)⟩:(Sl qV)) (0:Int) (0:Int) false (⟨true,([]:List qG)⟩:(Sl qG))),(10:Int),b)
   else
    some ((qG.mk (2:Int) mA.1 false (⟨true,([]:List qV)⟩:(Sl qV)) (0:Int) (0:Int) false (⟨true,([]:List qG)⟩:(Sl qG))),(0:Int),(qd.mk b.cs (b.qp+1))))
   (fun r=>r.2.2.cs=cs/\(r.2.1=0->b.qp<r.2.2.qp/\r.2.2.qp<=cs.l.length/\ru r.1<=300)):=by
  refine .bind (W3 v) fun y hy=>?_;refine .tI ?_ ?_<;>intro hT
  ·exact .ret ⟨h,z?⟩
  have hy1:=hT;have XT:=hy.2 hy1;have TA:=hv.2 (P! XT);refine .ret ⟨h,fun _=>⟨u?,u?, ?_⟩⟩;simp only[yo,dJ,Zt,K7,L?,qO];omega
 refine .tI ?_ ?_<;>intro hT;refine .bind .get fun c Hl=>?_;refine .bind (YV c) fun y hy=>?_;refine .tI ?_ ?_<;>intro hT;have TA:=hv.2 (P! o?);refine .ret ⟨h,fun _=>⟨u?,u?, ?_⟩⟩;simp only[yo,dJ,Zt,K7,e?,L?,qO];omega;exact esc;exact esc
theorem K4: ∀(m:Nat)(n k:Int)(b:qd),m=(3-k).toNat->0<=k->b.cs=cs->0<=b.qp->b.qp<=cs.l.length->0<=n->(k=0/\n<1\/k=1/\n<10\/k=2/\n<100\/k=3/\n<1000)->
  qJ (jQ (n,k,b)) (fun r=>0<=r.1/\r.1<1000/\k<=r.2.1/\r.2.2.cs=cs/\b.qp<=r.2.2.qp/\r.2.2.qp<=cs.l.length):=by have hm:=hc.many;intro m;induction m using p? with|_ m ih=>intro n k b Lt hk h h0 h1 hn hkn;rw[jQ.eq_1];refine .tI ?_ ?_<;>intro hT;{refine .bind (dI hc b h h0) fun v hv=>?_;refine .tI ?_ ?_<;>intro hT;{have TA:=hv.2 (P! o?);refine .bind .get fun c Hl=>?_;refine .bind (mc c) fun w hw=>?_;refine .tI ?_ ?_<;>intro hT;{have Wn:=hT;have P9:=hw Wn;(try simp(disch:=omega) only[qH,xI]);exact(ih _ o? _ (k+1) (qd.mk b.cs (b.qp+1)) rfl o? h u? u? o? o?).mono fun r hr=>by simp only at hr;exact⟨hr.1,hr.2.1,o?,hr.2.2.2.1,o?,hr.2.2.2.2.2⟩};exact .ret ⟨hn,u?,z?,h,z?,h1⟩};exact .ret ⟨hn,u?,z?,h,z?,h1⟩};exact .ret ⟨hn,u?,z?,h,z?,h1⟩
theorem Xb(b:qd)(h:b.cs=cs)(h0:0<=b.qp)(h1:b.qp<=cs.l.length):
  qJ (wj b) (fun r=>0<=r.1/\r.1<1000/\r.2.2.cs=cs/\b.qp<=r.2.2.qp/\r.2.2.qp<=cs.l.length):=by unfold wj;have:= @K4;exact tW
end
theorem rep_W(x:qG)(a b:Int)(l:Bool):ru (qG.mk (7:Int) ([]:qa) false (⟨true,[]⟩:(Sl qV)) a b l (⟨false,[x]⟩:(Sl qG)))=1+ru x:=by rw[yo];simp[qO,dJ,Zt]
theorem Ns(kind:Int)(xs:Sl qG)(hw:qO (xs.l.map ru)<=1000000): ∀(r:List qG)(k:Nat)(l:List qG),xs.l.drop k=r->qO (l.map ru)+qO (r.map ru)<=qO (xs.l.map ru)->
  qJ (wX (kind,xs,(k:Int),l)) (fun t=>qO (t.map ru)<=qO (xs.l.map ru)):=by have hl:=xc ee xs.l;intro r;induction r with|nil=>intro k l hk hs;rw[wX.eq_1];have:=vI hk;exact tW|cons x r ih=>intro k l hk hs;obtain⟨h1,h2,h3⟩:=drop_cons hk;have P7:=xc ee l;have hl3:=xc ee x.qz.l;have hx:=yo x;simp only[s?,qO]at hs;rw[wX.eq_1];have:= @bM;have:= @kf;exact tW
theorem Nu(kind:Int)(xs:Sl qG)(hw:qO (xs.l.map ru)<=1000000):qJ (sP kind xs) (fun t=>qO (t.l.map ru)+QX t<=qO (xs.l.map ru)):=by unfold sP;exact .bind (Ns kind xs hw xs.l 0 [] rfl (by simp[qO])) fun w hw=> .ret (by rw[K7];simp only;omega)
theorem seq_tot(xs:Sl qG)(hw:qO (xs.l.map ru)<=1000000):qJ (iu xs) (fun t=>ru t<=1+qO (xs.l.map ru)):=by unfold iu;refine .bind (Nu 0 xs hw) fun v hv=>?_;refine .tI ?_ ?_<;>intro hT;have:= @xP;exact tW;refine .ret ?_;simp only[yo,dJ,Zt,K7,e?,L?,qO];omega
theorem alt_tot(xs:Sl qG)(hw:qO (xs.l.map ru)<=1000000):qJ (iq xs) (fun t=>ru t<=1+qO (xs.l.map ru)):=by unfold iq;refine .bind (Nu 1 xs hw) fun v hv=>?_;refine .tI ?_ ?_<;>intro hT;refine .ret ?_;simp only[yo,dJ,Zt,K7,e?,L?,qO];omega;refine .tI ?_ ?_<;>intro hT;have:= @xP;exact tW;refine .ret ?_;simp only[yo,dJ,Zt,K7,e?,L?,qO];omega
section
variable {cs:Sl qa} (hc:ZH cs)
include hc
theorem jU(c:qa)(b:qd)(h:b.cs=cs)(h0:0<=b.qp)(h1:b.qp<=cs.l.length):
  qJ (qK c b) (fun r=>r.2.cs=cs/\b.qp<=r.2.qp/\r.2.qp<=cs.l.length/\(r.1=true->r.2.qp=b.qp+1)/\(r.1=false->r.2.qp=b.qp)):=by refine(Vf hc c b h h0).mono fun r hr=>?_;cases h2:r.1;exact tW;exact tW
def O4(cs:Sl qa)(x:qG)(a:Int)(r:qG×Int×qd):Prop:=
 r.2.2.cs=cs/\(r.2.1=0->a<=r.2.2.qp/\r.2.2.qp<=cs.l.length/\(ru r.1:Int)<=ru x+(r.2.2.qp-a))
theorem Ek(x:qG)(b:qd)(h:b.cs=cs)(h0:0<=b.qp)(h1:b.qp<=cs.l.length):
  qJ (ky x b) (O4 cs x b.qp):=by
 have last: ∀(w:qd)(p q:Int),w.cs=cs->b.qp<w.qp->w.qp<=cs.l.length->qJ (qK ([63]:qa) w>>=fun v5=>
   some ((qG.mk (7:Int) ([]:qa) false (⟨true,[]⟩:(Sl qV)) p q v5.1 (⟨false,[x]⟩:(Sl qG))),(0:Int),v5.2)) (O4 cs x b.qp):=by
  intro w p q g1 g2 g3;refine .bind (jU hc _ w g1 o? g3) fun z hz=>?_;refine .ret ⟨hz.1,fun _=>⟨u?,u?, ?_⟩⟩;simp only[rep_W];omega
 unfold ky;refine .bind (jU hc _ b h h0 h1) fun v hv=>?_;refine .tI ?_ ?_<;>intro hT;exact last _ _ _ hv.1 (by have g:=hT;have:=hv.2.2.2.1 g;omega) o?;have g1:=hT;have Zf:=hv.2.2.2.2 g1;refine .bind (jU hc _ v.2 hv.1 o? o?) fun w hw=>?_;refine .tI ?_ ?_<;>intro hT;exact last _ _ _ hw.1 (by have g:=hT;have:=hw.2.2.2.1 g;omega) o?;have g2:=hT;have Wn:=hw.2.2.2.2 g2;refine .bind (jU hc _ w.2 hw.1 o? o?) fun y hy=>?_;refine .tI ?_ ?_<;>intro hT;exact last _ _ _ hy.1 (by have g:=hT;have:=hy.2.2.2.1 g;omega) o?;have g3:=hT;have hy1:=hy.2.2.2.2 g3;refine .bind (jU hc _ y.2 hy.1 o? o?) fun z hz=>?_;refine .tI ?_ ?_<;>intro hT;have g4:=hT;have hz1:=hz.2.2.2.1 g4;refine .bind (Xb hc z.2 hz.1 o? o?) fun n hn=>?_;refine .tI ?_ ?_<;>intro hT;exact .ret ⟨hn.2.2.1,z?⟩;refine .bind (jU hc _ n.2.2 hn.2.2.1 o? o?) fun k hk=>?_;refine .tI ?_ ?_<;>intro hT;refine .bind (dI hc k.2 hk.1 o?) fun s hs=>?_;refine .tI ?_ ?_<;>intro hT;refine .bind (Xb hc k.2 hk.1 o? o?) fun q hq=>?_;refine .tI ?_ ?_<;>intro hT;exact .ret ⟨hq.2.2.1,z?⟩;refine .bind (jU hc _ q.2.2 hq.2.2.1 o? o?) fun p hp=>?_;refine .tI ?_ ?_<;>intro hT;exact .ret ⟨hp.1,z?⟩;exact last _ _ _ hp.1 o? o?;refine .bind (jU hc _ k.2 hk.1 o? o?) fun p hp=>?_;refine .tI ?_ ?_<;>intro hT;exact .ret ⟨hp.1,z?⟩;exact last _ _ _ hp.1 o? o?;refine .bind (jU hc _ k.2 hk.1 o? o?) fun p hp=>?_;refine .tI ?_ ?_<;>intro hT;exact .ret ⟨hp.1,z?⟩;exact last _ _ _ hp.1 o? o?;have g4:=hT;have hz1:=hz.2.2.2.2 g4;exact .ret ⟨hz.1,fun _=>⟨u?,u?,u?⟩⟩
end
def PatQ(cs:Sl qa)(a:Int)(r:qG×Int×qd):Prop:=
 r.2.2.cs=cs/\(r.2.1=0->a<=r.2.2.qp/\r.2.2.qp<=cs.l.length/\(ru r.1:Int)<=1000*(r.2.2.qp-a)+2)
def Sx(cs:Sl qa)(a:Int)(r:qG×Int×qd):Prop:=
 r.2.2.cs=cs/\(r.2.1=0->a<r.2.2.qp/\r.2.2.qp<=cs.l.length/\(ru r.1:Int)<=1000*(r.2.2.qp-a))
theorem KO(k:Int):ru (qG.mk k ([]:qa) false (⟨true,([]:List qV)⟩:(Sl qV)) (0:Int) (0:Int) false (⟨true,([]:List qG)⟩:(Sl qG)))=1:=by rw[yo];simp[qO,dJ,Zt]
theorem kid_W(k:Int)(x:qG):ru (qG.mk k ([]:qa) false (⟨true,[]⟩:(Sl qV)) (0:Int) (0:Int) false (⟨false,[x]⟩:(Sl qG)))=1+ru x:=by rw[yo];simp[qO,dJ,Zt]
section
variable {cs:Sl qa} (hc:ZH cs) (a0:Int) (EE:0<=a0)
 (H: ∀(deep:Int)(b:qd),0<=deep->deep<=16->b.cs=cs->a0<b.qp->b.qp<=cs.l.length->qJ (zI (deep,b)) (PatQ cs b.qp))
include hc EE H
theorem Oy(deep:Int)(d0:0<=deep)(d1:deep<=16)(b:qd)(h:b.cs=cs)(h0:a0<=b.qp)(h1:b.qp<=cs.l.length):qJ (ke (deep,b)) (Sx cs b.qp):=by
 have hm:=hc.many;rw[ke.eq_1];refine .bind (jU hc _ b h o? h1) fun v hv=>?_;refine .tI ?_ ?_<;>intro hT;have g:=hT;have:=hv.2.2.2.1 g;exact .ret ⟨hv.1,fun _=>⟨u?,u?,by simp only[KO];omega⟩⟩
 have g:=hT;have Zf:=hv.2.2.2.2 g;refine .bind (jU hc _ v.2 hv.1 o? o?) fun w hw=>?_;have grp: ∀(k:Int)(u:qd),u.cs=cs->b.qp<u.qp->u.qp<=cs.l.length->deep<16->qJ (zI ((q?.wrap (deep+(1:Int))),u)>>=fun vG=>
       if(vG.2.1 != (0:Int))then
        some ((qG.mk (0:Int) ([]:qa) false (⟨true,([]:List qV)⟩:(Sl qV)) (0:Int) (0:Int) false (⟨true,([]:List qG)⟩:(Sl qG))),vG.2.1,vG.2.2)
       else
        qK ([41]:qa) vG.2.2>>=fun tC=>
        if(!tC.1)then
         some ((qG.mk (0:Int) ([]:qa) false (⟨true,([]:List qV)⟩:(Sl qV)) (0:Int) (0:Int) false (⟨true,([]:List qG)⟩:(Sl qG))),(10:Int),tC.2)
        else
         some ((qG.mk k ([]:qa) false (⟨true,[]⟩:(Sl qV)) (0:Int) (0:Int) false (⟨false,[vG.1]⟩:(Sl qG))),(0:Int),tC.2)) (Sx cs b.qp):=by
  intro k u g1 g2 g3 g4
  (repeat (first|(rw [qH];rotate_left;omega;omega)|(rw [xI];rotate_left;omega;omega)))
  refine .bind (H (deep+1) u o? o? g1 o? g3) fun y hy=>?_;refine .tI ?_ ?_<;>intro hT
  ·have Kg:=hT;exact .ret ⟨hy.1,fun h=>absurd h Kg⟩
  have Kg:=hT;have XT:=hy.2 Kg;refine .bind (jU hc _ y.2.2 hy.1 o? o?) fun z hz=>?_;refine .tI ?_ ?_<;>intro hT
  ·exact .ret ⟨hz.1,z?⟩
  have Hl:=hT;have:=hz.2.2.2.1 Hl;exact .ret ⟨hz.1,fun _=>⟨u?,u?,by simp only[kid_W];omega⟩⟩
 refine .tI ?_ ?_<;>intro hT;have g:=hT;have Wn:=hw.2.2.2.1 g;refine .tI ?_ ?_<;>intro hT;exact .ret ⟨hw.1,z?⟩;refine .bind (jU hc _ w.2 hw.1 o? o?) fun y hy=>?_;refine .tI ?_ ?_<;>intro hT;refine .bind (jU hc _ y.2 hy.1 o? o?) fun z hz=>?_;refine .tI ?_ ?_<;>intro hT;exact .ret ⟨hz.1,z?⟩;exact grp 6 z.2 hz.1 o? o? o?;exact grp 5 y.2 hy.1 o? o? o?;have g:=hT;have Wn:=hw.2.2.2.2 g;refine .bind (jU hc _ w.2 hw.1 o? o?) fun y hy=>?_;refine .tI ?_ ?_<;>intro hT;have g:=hT;have hy1:=hy.2.2.2.1 g;refine .bind (F4 hc y.2 hy.1 o? o?) fun z hz=>?_;refine .ret ⟨hz.1,fun h=>?_⟩;have:=hz.2 h;simp only;omega;have g:=hT;have hy1:=hy.2.2.2.2 g;refine .bind (jU hc _ y.2 hy.1 o? o?) fun z hz=>?_;refine .tI ?_ ?_<;>intro hT;have g:=hT;have hz1:=hz.2.2.2.1 g;refine .bind (PX hc z.2 hz.1 o? o?) fun u hu=>?_;refine .ret ⟨hu.1,fun h=>?_⟩;have:=hu.2 h;simp only;omega;have g:=hT;have hz1:=hz.2.2.2.2 g;refine .bind (dI hc z.2 hz.1 o?) fun s hs=>?_;refine .tI ?_ ?_<;>intro hT;exact .ret ⟨hz.1,z?⟩;by_cases hn:s=[];refine .bind (o:=jt s) (P:=fun r=>r=false) ⟨false,by rw[hn];unfold jt;simp,rfl⟩ fun p hp=>?_;subst hp;exact .ret ⟨hz.1,z?⟩;refine .bind (Zl s (by unfold BN;omega)) fun p hp=>?_;refine .tI ?_ ?_<;>intro hT;exact .ret ⟨hz.1,z?⟩;have:=hs.2 hn;(repeat (first|(rw [qH];rotate_left;omega;omega)|(rw [xI];rotate_left;omega;omega)));refine .ret ⟨hz.1,fun _=>⟨u?,u?, ?_⟩⟩;simp only[yo,dJ,Zt,K7,L?,qO];omega
theorem term_tot(deep:Int)(d0:0<=deep)(d1:deep<=16)(b:qd)(h:b.cs=cs)(h0:a0<=b.qp)(h1:b.qp<=cs.l.length):qJ (vP (deep,b)) (Sx cs b.qp):=by
 have hm:=hc.many;rw[vP.eq_1];refine .bind (jU hc _ b h o? h1) fun v hv=>?_;refine .tI ?_ ?_<;>intro hT;have g:=hT;have:=hv.2.2.2.1 g;exact .ret ⟨hv.1,fun _=>⟨u?,u?,by simp only[KO];omega⟩⟩;have g:=hT;have Zf:=hv.2.2.2.2 g;refine .bind (jU hc _ v.2 hv.1 o? o?) fun w hw=>?_;refine .tI ?_ ?_<;>intro hT;have g:=hT;have:=hw.2.2.2.1 g;exact .ret ⟨hw.1,fun _=>⟨u?,u?,by simp only[KO];omega⟩⟩
 have g:=hT;have Wn:=hw.2.2.2.2 g;have at1:qJ (ke (deep,w.2)>>=fun v26=>
     if(v26.2.1 != (0:Int))then
      some ((qG.mk (0:Int) ([]:qa) false (⟨true,([]:List qV)⟩:(Sl qV)) (0:Int) (0:Int) false (⟨true,([]:List qG)⟩:(Sl qG))),v26.2.1,v26.2.2)
     else
      ky v26.1 v26.2.2>>=fun v29=>
      some (v29.1,v29.2.1,v29.2.2)) (Sx cs b.qp):=by
  refine .bind (Oy hc a0 EE H deep d0 d1 w.2 hw.1 o? o?) fun y hy=>?_;refine .tI ?_ ?_<;>intro hT
  ·have Kg:=hT;exact .ret ⟨hy.1,fun h=>absurd h Kg⟩
  have Kg:=hT;have XT:=hy.2 Kg;refine .bind (Ek hc y.1 y.2.2 hy.1 o? o?) fun z hz=>?_;refine .ret ⟨hz.1,fun h=>?_⟩;have:=hz.2 h;simp only;omega
 refine .bind (dI hc w.2 hw.1 o?) fun s hs=>?_;rw[hw.1];refine .tI ?_ ?_<;>intro hT;{(repeat (first|(rw [qH];rotate_left;omega;omega)|(rw [xI];rotate_left;omega;omega)));refine .bind .get fun c Hl=>?_;refine .tI ?_ ?_<;>intro hT;exact .ret ⟨rfl,fun _=>⟨u?,u?,by simp only[KO];omega⟩⟩;refine .tI ?_ ?_<;>intro hT;exact .ret ⟨rfl,fun _=>⟨u?,u?,by simp only[KO];omega⟩⟩;exact at1};exact at1
end
section
variable {cs:Sl qa} (hc:ZH cs) (a0:Int) (EE:0<=a0)
 (H: ∀(deep:Int)(b:qd),0<=deep->deep<=16->b.cs=cs->a0<b.qp->b.qp<=cs.l.length->qJ (zI (deep,b)) (PatQ cs b.qp))
include hc EE H
theorem Rd(deep:Int)(d0:0<=deep)(d1:deep<=16)(t:qG)(alts:List qG)(a1:Int)(oP:0<=a1): ∀(m:Nat)(b:qd)(sx:List qG),m=(cs.l.length-b.qp).toNat->b.cs=cs->a0<=b.qp->a1<=b.qp->b.qp<=cs.l.length->
  (qO (sx.map ru):Int)<=1000*(b.qp-a1)->qJ (xu (deep,b,t,alts,sx)) (fun r=>(∀ y,r= .inl y->y.1≠0/\y.2.1.cs=cs)/\
   ∀y,r= .inr y->y.1.cs=cs/\b.qp<=y.1.qp/\y.1.qp<=cs.l.length/\(qO (y.2.map ru):Int)<=1000*(y.1.qp-a1)):=by
 have hm:=hc.many;intro m;induction m using p? with
  |_ m ih=>
   intro b sx Lt h h0 h1 h2 hw;have hl:=xc ee sx;rw[xu.eq_1];have stop:qJ (some (Sum.inr (b,sx):(Int×qd×qG×(List qG))⊕(qd×(List qG)))) (fun r=>(∀ y,r= .inl y->y.1≠0/\y.2.1.cs=cs)/\
     ∀y,r= .inr y->y.1.cs=cs/\b.qp<=y.1.qp/\y.1.qp<=cs.l.length/\(qO (y.2.map ru):Int)<=1000*(y.1.qp-a1)):=by
    refine .ret ⟨fun y hy=>(by cases hy),fun y hy=>?_⟩;cases hy;exact⟨h,z?,h2,hw⟩
   rw[h];refine .tI ?_ ?_<;>intro hT;refine .bind (dI hc b h o?) fun s hs=>?_;refine .tI ?_ ?_<;>intro hT;refine .tI ?_ ?_<;>intro hT;refine .bind (term_tot hc a0 EE H deep d0 d1 b h h0 h2) fun y hy=>?_;refine .tI ?_ ?_<;>intro hT;have Kg:=hT;refine .ret ⟨fun z hz=>?_,fun z hz=>by cases hz⟩;cases hz;exact⟨Kg,hy.1⟩;have Kg:=hT;have XT:=hy.2 Kg;refine .zx qA ?_;refine(ih _ o? y.2.2 _ rfl hy.1 o? o? o? (by rw[kf];omega)).mono fun r hr=>⟨hr.1,fun z hz=>?_⟩;have:=hr.2 z hz;exact⟨this.1,o?,this.2.2.1,this.2.2.2⟩;exact stop;exact stop;exact stop
theorem Rb(deep:Int)(d0:0<=deep)(d1:deep<=16)(t:qG): ∀(m:Nat)(b:qd)(alts:List qG),m=(cs.l.length-b.qp).toNat->b.cs=cs->a0<=b.qp->b.qp<=cs.l.length->
  (qO (alts.map ru):Int)<=1000*(b.qp-a0)->qJ (xt (deep,b,t,alts)) (fun r=>(∀ y,r= .inl y->y.1≠0/\y.2.1.cs=cs)/\
   ∀y,r= .inr y->y.2.1.cs=cs/\a0<=y.2.1.qp/\y.2.1.qp<=cs.l.length/\(ru y.2.2:Int)<=1000*(y.2.1.qp-a0)+2):=by have hm:=hc.many;intro m;induction m using p? with|_ m ih=>intro b alts Lt h h0 h2 hw;have hl:=xc ee alts;rw[xt.eq_1];refine .bind (Rd hc a0 EE H deep d0 d1 t alts b.qp o? _ b [] rfl h h0 o? h2 (by simp[qO])) fun v hv=>?_;rcases v with y|y;have:=hv.1 y rfl;refine .ret ⟨fun z hz=>?_,fun z hz=>by cases hz⟩;cases hz;exact this;obtain⟨g1,g2,g3,g4⟩:=hv.2 y rfl;refine .bind (seq_tot (⟨y.2.isEmpty,y.2⟩:Sl qG) u?) fun w P9=>?_;simp only at P9;refine .zx qA ?_;refine .bind (jU hc _ y.1 g1 o? g3) fun z hz=>?_;refine .tI ?_ ?_<;>intro hT;have Kg:=hT;have hz1:=hz.2.2.2.2 Kg;refine .bind (alt_tot (⟨false,(alts++[w])⟩:Sl qG) (by simp only[kf];omega)) fun u hu=>?_;simp only[kf]at hu;refine .ret ⟨fun x hx=>(by cases hx),fun x hx=>?_⟩;cases hx;exact⟨hz.1,u?,u?,u?⟩;have Kg:=hT;have hz1:=hz.2.2.2.1 Kg;exact ih _ o? z.2 _ rfl hz.1 o? o? (by rw[kf];omega)
end
theorem pat_tot{cs:Sl qa}(hc:ZH cs): ∀(m:Nat)(deep:Int)(b:qd),m=(cs.l.length-b.qp).toNat->0<=deep->deep<=16->b.cs=cs->0<=b.qp->b.qp<=cs.l.length->qJ (zI (deep,b)) (PatQ cs b.qp):=by intro m;induction m using p? with|_ m ih=>intro deep b Lt d0 d1 h h0 h1;rw[zI.eq_1];refine .bind (Rb hc b.qp h0 (fun d2 b2 e1 e2 e3 e4 e5=>ih _ o? d2 b2 rfl e1 e2 e3 o? e5) deep d0 d1 _ _ b [] rfl h o? h1 (by simp[qO])) fun v hv=>?_;rcases v with y|y;have:=hv.1 y rfl;exact .ret ⟨this.2,fun h=>absurd h this.1⟩;obtain⟨g1,g2,g3,g4⟩:=hv.2 y rfl;exact .ret ⟨g1,fun _=>⟨g2,g3,g4⟩⟩
theorem Rl(s:qa):qJ (fx s) (fun r=>r.2=0->s.length<=256/\ru r.1<=1000*s.length+1002):=by unfold fx;refine .tI ?_ ?_<;>intro hT;exact .ret z?;refine .bind (UB s (by unfold BN;omega)) fun v hv=>?_;have hc:ZH v:=⟨o?,fun c h=>by have:=hv.2 c h;omega⟩;refine .bind (pat_tot hc _ 0 (qd.mk v 0) rfl o? o? rfl z? z?) fun w hw=>?_;refine .tI ?_ ?_<;>intro hT;exact .ret z?;refine .tI ?_ ?_<;>intro hT;have h:=hT;exact .ret fun h2=>absurd h2 h;have h:=hT;have:=hw.2 h;refine .ret fun _=>⟨o?, ?_⟩;simp only at this |-;omega
def vK(f:zn):Nat:=ru f.rx+qO (f.wy.l.map oz)+QX f.wy
theorem HX(s:qa)(hs:s.length<=BN)(t:zn): ∀(m:Nat)(k:Int)(b:List UInt8),m=(s.length-k).toNat->0<=k->k<=s.length->(b.length:Int)<=k->
  qJ (vt (s,k,t,b)) (fun r=>k<=r.1/\r.1<=s.length/\(r.2.length:Int)<=b.length+(r.1-k)):=by have hB:s.length<=8192:=hs;intro m;induction m using p? with|_ m ih=>intro k b hm h0 h1 hb;rw[vt.eq_1];refine .tI ?_ ?_<;>intro hT;{refine .bind .get fun c hc=>?_;refine .tI ?_ ?_<;>intro hT;{refine .tI ?_ ?_<;>intro hT;{(repeat (first|(rw [qH];rotate_left;omega;omega)|(rw [xI];rotate_left;omega;omega)));refine .bind .get fun c2 Hl=>?_;refine .tI ?_ ?_<;>intro hT;(refine .zx qA ?_;refine .zx (qA v? o?) ?_;exact(ih _ o? (k+1+1) _ rfl o? o? v?).mono fun r hr=>by simp only[t?,h?,e?]at hr;omega);refine .zx qA ?_;exact(ih _ o? (k+1+1) _ rfl o? o? v?).mono fun r hr=>by simp only[t?,h?,e?]at hr;omega};refine .zx qA ?_;(repeat (first|(rw [qH];rotate_left;omega;omega)|(rw [xI];rotate_left;omega;omega)));exact(ih _ o? (k+1) _ rfl o? o? v?).mono fun r hr=>by simp only[t?,h?,e?]at hr;omega};exact .ret ⟨z?,h1,u?⟩};exact .ret ⟨z?,h1,u?⟩
theorem HY(s:qa)(hs:s.length<=BN)(t:zn)(l:List UInt8)(x:qG): ∀(m:Nat)(e:Int)(f:zn),m=(s.length-e).toNat->0<=e->
  qJ (vu (s,e,t,l,x,f)) (fun r=>(∀ y,r= .inl y->y.2.1=false)/\ ∀y,r= .inr y->e<=y.1/\vK y.2=vK f):=by have hB:s.length<=8192:=hs;intro m;induction m using p? with|_ m ih=>(intro e f hm h0;rw[vu.eq_1];have stop:qJ (some (Sum.inr (e,f):(Int×Bool×Int×zn×zn)⊕(Int×zn))) (fun r=>(∀ y,r= .inl y->y.2.1=false)/\ ∀y,r= .inr y->e<=y.1/\vK y.2=vK f):=by refine .ret ⟨fun y hy=>(by cases hy),fun y hy=>?_⟩;cases hy;exact⟨z?,rfl⟩);(have go: ∀f2:zn,e<s.length->vK f2=vK f->qJ (vu (s,e+1,t,l,x,f2)) (fun r=>(∀ y,r= .inl y->y.2.1=false)/\ ∀y,r= .inr y->e<=y.1/\vK y.2=vK f):=by intro f2 he hf;exact(ih _ o? (e+1) f2 rfl o?).mono fun r hr=>⟨hr.1,fun y hy=>by have:=hr.2 y hy;exact⟨o?,this.2.trans hf⟩⟩);refine .tI ?_ ?_<;>intro hT;{refine .bind .get fun c hc=>?_;(repeat (first|(rw [qH];rotate_left;omega;omega)|(rw [xI];rotate_left;omega;omega)));refine .tI ?_ ?_<;>intro hT;{refine .tI ?_ ?_<;>intro hT;exact go _ o? rfl;(repeat (first|(rw [qH];rotate_left;omega;omega)|(rw [xI];rotate_left;omega;omega)));refine .tI ?_ ?_<;>intro hT;exact go _ o? rfl;refine .ret ⟨fun y hy=>?_,fun y hy=>by cases hy⟩;cases hy;rfl};exact stop};exact stop
theorem Mc(s:qa)(hs:s.length<=BN)(qp:Int):
  qJ (cU s qp) (fun r=>r.2.2=true->0<=qp/\qp<r.2.1/\r.2.1<s.length/\(vK r.1:Int)<=1000*(r.2.1-qp)):=by have hB:s.length<=8192:=hs;unfold cU;refine .tI ?_ ?_<;>intro hT;exact .ret z?;refine .bind .get fun c hc=>?_;refine .tI ?_ ?_<;>intro hT;exact .ret z?;(repeat (first|(rw [qH];rotate_left;omega;omega)|(rw [xI];rotate_left;omega;omega)));refine .bind (HX s hs _ _ (qp+1) [] rfl o? o? v?) fun v hv=>?_;simp only[e?]at hv;refine .tI ?_ ?_<;>intro hT;exact .ret z?;refine .bind (Rl v.2) fun w hw=>?_;refine .tI ?_ ?_<;>intro hT;exact .ret z?;have Kg:=hT;have P9:=hw Kg;(repeat (first|(rw [qH];rotate_left;omega;omega)|(rw [xI];rotate_left;omega;omega)));refine .bind (Rm s hs (v.1+1)) fun y hy=>?_;refine .tI ?_ ?_<;>intro hT;exact .ret z?;have Hl:=hT;have XT:=hy Hl;(repeat (first|(rw [qH];rotate_left;omega;omega)|(rw [xI];rotate_left;omega;omega)));refine .bind (HY s hs _ _ _ _ (y.2.1+1) _ rfl o?) fun z hz=>?_;rcases z with z|z;(have:=hz.1 z rfl;exact .ret fun h=>by simp only[this]at h;cases h);obtain⟨g1,g2⟩:=hz.2 z rfl;refine .tI ?_ ?_<;>intro hT;exact .ret z?;refine .ret fun _=>?_;simp only[g2];simp only[vK];omega
def ES(s:qa):Nat:=1+s.length
mutual
def pU:qD->Nat
 |⟨_,t,_,_,_,f,o,qz⟩=>1+t.length+vK f+qO (o.l.map ES)+snWS qz
def snWS:Sl qD->Nat
 |⟨_,l⟩=>snWL l
def snWL:List qD->Nat
 |[]=>0
 |x::r=>pU x+snWL r
end
theorem MF: ∀l:List qD,snWL l=qO (l.map pU)
 |[]=>by simp[snWL,qO]
 |x::r=>by simp[snWL,qO,MF r]
theorem nJ(x:qD):pU x=1+x.text.length+vK x.qR+qO (x.opts.l.map ES)+qO (x.qz.l.map pU):=by cases x with|mk a b c d e f g h=>cases h;simp[pU,snWS,MF]
theorem ct(x:qD):1<=pU x:=by rw[nJ];omega
theorem HG(x:qa):1<=ES x:=by unfold ES;omega
theorem Z4(s:qa)(hs:s.length<=BN)(qp:Int)(h0:0<=qp)(h1:qp<s.length)(c:Bool):qJ (tR s qp c) (fun r=>r=true->qp+1<s.length):=by have hB:s.length<=8192:=hs;unfold tR;refine .bind (v_ h0 h1) fun b hb=>?_;refine .tI ?_ ?_<;>intro hT;exact .ret z?;(repeat (first|(rw [qH];rotate_left;omega;omega)|(rw [xI];rotate_left;omega;omega)));refine .bind .get fun b2 hb2=>?_;repeat' (first|(refine .tI ?_ ?_<;>intro hT)|exact .ret (fun _=>by omega))
theorem NX(s:qa)(hs:s.length<=BN)(w:List qD)(es:List Int)(a1:Int)(oP:0<=a1): ∀(m:Nat)(qp:Int)(l:List qa)(t:List UInt8),m=(s.length-qp).toNat->a1<=qp->qp<=s.length->(qO (l.map ES)+t.length:Int)<=qp-a1->
  qJ (j9 (qp,s,w,es,l,t)) (fun r=>qp<=r.1/\r.1<=s.length/\(qO (r.2.1.map ES)+r.2.2.length:Int)<=r.1-a1):=by have hB:s.length<=8192:=hs;intro m;induction m using p? with|_ m ih=>intro qp l t hm h0 h1 hw;have hl:=xc HG l;rw[j9.eq_1];refine .tI ?_ ?_<;>intro hT;{refine .bind .get fun c hc=>?_;refine .tI ?_ ?_<;>intro hT;{refine .tI ?_ ?_<;>intro hT;{refine .zx qA ?_;(repeat (first|(rw [qH];rotate_left;omega;omega)|(rw [xI];rotate_left;omega;omega)));exact(ih _ o? (qp+1) _ _ rfl o? o? (by rw[kf];simp only[ES,e?];omega)).mono fun r hr=>⟨o?,hr.2.1,hr.2.2⟩};refine .bind (Z4 s hs qp o? o? true) fun v hv=>?_;refine .tI ?_ ?_<;>intro hT;{have Kg:=hT;have:=hv Kg;(repeat (first|(rw [qH];rotate_left;omega;omega)|(rw [xI];rotate_left;omega;omega)));refine .bind .get fun c2 Hl=>?_;refine .zx qA ?_;(repeat (first|(rw [qH];rotate_left;omega;omega)|(rw [xI];rotate_left;omega;omega)));exact(ih _ o? (qp+1+1) _ _ rfl o? o? v?).mono fun r hr=>⟨o?,hr.2.1,hr.2.2⟩};refine .zx qA ?_;(repeat (first|(rw [qH];rotate_left;omega;omega)|(rw [xI];rotate_left;omega;omega)));exact(ih _ o? (qp+1) _ _ rfl o? o? v?).mono fun r hr=>⟨o?,hr.2.1,hr.2.2⟩};exact .ret ⟨z?,h1,hw⟩};exact .ret ⟨z?,h1,hw⟩
theorem q0N(s:qa)(hs:s.length<=BN)(w:List qD)(es:List Int)(qp:Int)(h0:0<=qp)(h1:qp<=s.length):
  qJ (gf qp s w es) (fun r=>r.2>=0->qp<=r.2/\r.2<s.length/\(qO (r.1.l.map ES):Int)<=r.2-qp+1):=by have hB:s.length<=8192:=hs;unfold gf;refine .bind (NX s hs w es qp h0 _ qp [] [] rfl o? h1 (by simp[qO])) fun v hv=>?_;have hl:=xc HG v.2.1;refine .tI ?_ ?_<;>intro hT;exact .ret z?;refine .zx qA ?_;refine .ret fun _=>⟨u?,u?, ?_⟩;simp only[kf,ES];omega
theorem Nq(l:Sl qD)(hw:qO (l.l.map pU)<=100000000): ∀(r:List qD)(k:Nat)(out:List qD),l.l.drop k=r->qO (out.map pU)+qO (r.map pU)<=qO (l.l.map pU)->
  qJ (jK (l,(k:Int),out)) (fun t=>qO (t.map pU)<=qO (l.l.map pU)):=by have hl:=xc ct l.l;intro r;induction r with|nil=>intro k out hk hs;rw[jK.eq_1];have:=vI hk;refine .tI ?_ ?_<;>intro hT;omega;exact .ret (by simp[qO]at hs;exact hs)|cons x r ih=>(intro k out hk hs;obtain⟨h1,h2,h3⟩:=drop_cons hk;have P7:=xc ct out;simp only[s?,qO]at hs;rw[jK.eq_1];have e1:q?.wrap ((k:Int)+1)=((k+1:Nat):Int):=pE o?;rw[e1];have hg:qJ (qh l.l (k:Int)) (fun y=>y=x):=⟨x,by rw[xd h3];simpa[wu h3]using h1,rfl⟩;have put:qJ (if qg (out.length+1) 224=true then jK (l,((k+1:Nat):Int),(out++[x]))else none) (fun t=>qO (t.map pU)<=qO (l.l.map pU)):=by refine .zx qA ?_;exact ih (k+1) _ h2 (by rw[kf];omega));refine .tI ?_ ?_<;>intro hT;refine .bind hg fun y hy=>?_;subst hy;refine .tI ?_ ?_<;>intro hT;refine .tI ?_ ?_<;>intro hT;exact ih (k+1) _ h2 o?;refine .tI ?_ ?_<;>intro hT;have e2:q?.wrap ((out.length:Int)-1)=(out.length:Int)-1:=qH o? o?;rw[e2];refine .bind .get fun z hz=>?_;refine .tI ?_ ?_<;>intro hT;have hz2:=xP (f:=pU) hz.2;have hzw:=nJ z;have hyw:=nJ y;refine .zx o? ?_;refine ih (k+1) _ h2 ?_;have:=Q7 pU out ((out.length:Int)-1).toNat (qD.mk z.kind (z.text++y.text) z.n z.has z.qL z.qR z.opts z.qz) z hz.1;have e3:=nJ (qD.mk z.kind (z.text++y.text) z.n z.has z.qL z.qR z.opts z.qz);simp only[t?]at e3;omega;exact put;exact put;exact put;omega
theorem q01(l:Sl qD)(hw:qO (l.l.map pU)<=100000000):qJ (fJ l) (fun t=>qO (t.l.map pU)<=qO (l.l.map pU)):=by unfold fJ;have h:=Nq l hw l.l 0 [] rfl (by simp[qO]);rw[show ((0:Nat):Int)=0 from rfl]at h;refine .bind h fun v hv=>?_;exact .ret hv
theorem Sd(t:qa):pU (qD.mk (0:Int) t (0:Int) false false (zn.mk (qG.mk (0:Int) ([]:qa) false (⟨true,[]⟩:(Sl qV)) (0:Int) (0:Int) false (⟨true,[]⟩:(Sl qG))) (⟨true,[]⟩:(Sl zt)) false false) (⟨true,[]⟩:(Sl qa)) (⟨true,[]⟩:(Sl qD)))=2+t.length:=by rw[nJ];simp[vK,yo,dJ,Zt,qO];omega
structure ZJ (s:qa) (w:List qD) (es:List Int):Prop where
 lw:w.length=s.length
 le:es.length=s.length
 ok: ∀(p:Nat)(e:Int)(x:qD),es[p]? =some e->0<e->w[p]? =some x->(p:Int)<e/\e<=s.length/\(pU x+2:Int)<=1000*(e-p)
def XB(s:qa)(a1 qp:Int)(r:Int×List qD×List UInt8):Prop:=qp<=r.1/\r.1<=s.length/\(qO (r.2.1.map pU)+r.2.2.length:Int)<=1000*(r.1-a1)
theorem HS(s:qa)(hs:s.length<=BN)(w:List qD)(es:List Int)(hS:ZJ s w es)(br:Bool)(a1:Int)(oP:0<=a1): ∀(m:Nat)(qp:Int)(l:List qD)(t:List UInt8),m=(s.length-qp).toNat->a1<=qp->qp<=s.length->(qO (l.map pU)+t.length:Int)<=1000*(qp-a1)->
  qJ (zj (qp,br,s,w,es,l,t)) (XB s a1 qp):=by
 have hB:s.length<=8192:=hs;intro m;induction m using p? with
  |_ m ih=>
   intro qp l t hm h0 h1 hw;have hl:=xc ct l;have stop:qJ (some (qp,l,t)) (XB s a1 qp):= .ret ⟨z?,h1,hw⟩;have go: ∀(a2:Int)(l2:List qD)(t2:List UInt8),qp<a2->a2<=s.length->(qO (l2.map pU)+t2.length:Int)<=1000*(a2-a1)->qJ (zj (a2,br,s,w,es,l2,t2)) (XB s a1 qp):=by intro a2 l2 t2 g1 g2 g3;exact(ih _ o? a2 l2 t2 rfl o? g2 g3).mono fun r hr=>⟨by have:=hr.1;omega,hr.2.1,hr.2.2⟩
   have two:qp<s.length-> ∀e:Int,es[qp.toNat]? =some e->0<e-> ∀f:qD,pU f=2+t.length->qJ (qh w qp>>=fun Z0=>
        if qg (l.length+2) 224=true then
         zj (e,br,s,w,es,(l++[f,Z0]),([]:List UInt8))
        else none) (XB s a1 qp):=by
    intro xJ e he h2 f hf;refine .bind (v_ o? (by have:=hS.lw;omega)) fun x hx=>?_;obtain⟨g1,g2,g3⟩:=hS.ok qp.toNat e x he h2 hx.1;refine .zx qA ?_;refine go e _ _ o? g2 ?_;simp only[Y!,s?,L?,bM,qO,e?,hf];omega
   have text:qp<s.length-> ∀c:UInt8,qJ (if qg (t.length+1) 1=true then zj ((q?.wrap (qp+(1:Int))),br,s,w,es,l,(t++[c]))else none) (XB s a1 qp):=by intro xJ c;refine .zx qA ?_;(repeat (first|(rw [qH];rotate_left;omega;omega)|(rw [xI];rotate_left;omega;omega)));exact go (qp+1) _ _ o? o? v?
   have esc:qp+1<s.length->qJ (qh s (q?.wrap (qp+(1:Int)))>>=fun b16=>
         if qg (t.length+1) 1=true then
          zj ((q?.wrap ((q?.wrap (qp+(1:Int)))+(1:Int))),br,s,w,es,l,(t++[b16]))
         else none) (XB s a1 qp):=by
    intro xJ
    (repeat (first|(rw [qH];rotate_left;omega;omega)|(rw [xI];rotate_left;omega;omega)))
    refine .bind .get fun c hc=>?_;refine .zx qA ?_
    (repeat (first|(rw [qH];rotate_left;omega;omega)|(rw [xI];rotate_left;omega;omega)))
    exact go (qp+1+1) _ _ o? o? v?
   rw[zj.eq_1];refine .tI ?_ ?_<;>intro hT;have xJ:=hT;refine .tI ?_ ?_<;>intro hT;refine .bind .get fun c hc=>?_;refine .tI ?_ ?_<;>intro hT;refine .bind (v_ o? (by have:=hS.le;omega)) fun e he=>?_;refine .tI ?_ ?_<;>intro hT;have h2:=hT;exact two xJ e he.1 h2 _ (Sd t);refine .bind (Z4 s hs qp o? o? false) fun v hv=>?_;refine .tI ?_ ?_<;>intro hT;have h3:=hT;exact esc (hv h3);exact text xJ c;exact stop;refine .bind (v_ o? (by have:=hS.le;omega)) fun e he=>?_;refine .tI ?_ ?_<;>intro hT;have h2:=hT;exact two xJ e he.1 h2 _ (Sd t);refine .bind (Z4 s hs qp o? o? false) fun v hv=>?_;refine .tI ?_ ?_<;>intro hT;have h3:=hT;exact esc (hv h3);refine .bind .get fun c hc=>?_;exact text xJ c;exact stop
theorem Ua(s:qa)(hs:s.length<=BN)(w:List qD)(es:List Int)(hS:ZJ s w es)(qp:Int)(h0:0<=qp)(h1:qp<=s.length)(br:Bool):
  qJ (wG qp br s w es) (fun r=>(r.2>=0->qp<=r.2/\r.2<=s.length/\(br=true->r.2<s.length)/\(qO (r.1.l.map pU):Int)<=1000*(r.2-qp)+2)/\(br=false->0<=r.2)):=by have hB:s.length<=8192:=hs;unfold wG;refine .bind (HS s hs w es hS br qp h0 _ qp [] [] rfl o? h1 (by simp[qO])) fun v hv=>?_;obtain⟨g1,g2,g3⟩:=hv;have hl:=xc ct v.2.1;have:= @q01;have:= @kf;have:= @Sd;exact tW
structure HeadQ (s:qa) (qp:Int) (r:qD×Int×Bool):Prop where
 lt:qp<r.2.1
 le:r.2.1<=s.length
 text:(r.1.text.length:Int)<=r.2.1-qp
 qR:vK r.1.qR=1
 opts:r.1.opts.l=[]
 qz:r.1.qz.l=[]
theorem Nf(s:qa)(hs:s.length<=BN)(w:List qD)(es:List Int)(qp:Int)(h0:0<=qp)(h1:qp<=s.length):
  qJ (vS qp s w es) (fun r=>r.2.2=true->HeadQ s qp r):=by unfold vS;refine .bind (fj s hs qp h0 h1) fun v hv=>?_;refine .tI ?_ ?_<;>intro hT;have hc:=hT;have:=hv.2.2 hc;exact .ret fun _=>⟨u?,u?,by simp only[e?];omega,by simp[vK,yo,dJ,Zt,qO],rfl,rfl⟩;refine .bind (AS s hs w es qp h0 h1) fun y hy=>?_;refine .tI ?_ ?_<;>intro hT;have hc:=hT;have:=hy.2.2.2 hc;exact .ret fun _=>⟨u?,u?,u?,by simp[vK,yo,dJ,Zt,qO],rfl,rfl⟩;exact .ret z?
def Xz(s:qa)(qp:Int)(r:qD×Int×Bool):Prop:=r.2.2=true->qp<r.2.1/\r.2.1<=s.length/\(pU r.1+2:Int)<=1000*(r.2.1-qp)
theorem PY(s:qa)(hs:s.length<=BN)(w:List qD)(es:List Int)(hS:ZJ s w es)(qp:Int)(h0:0<=qp)(h1:qp<s.length):qJ (yx qp s w es) (Xz s qp):=by have hB:s.length<=8192:=hs;unfold yx;(repeat (first|(rw [qH];rotate_left;omega;omega)|(rw [xI];rotate_left;omega;omega)));refine .bind (Nf s hs w es (qp+1) o? o?) fun v hv=>?_;refine .tI ?_ ?_<;>intro hT;have hc:=hT;obtain⟨g1,g2,g3,g4,g5,g6⟩:=hv hc;refine .ret fun _=>⟨u?,g2, ?_⟩;simp only[nJ,g4,g5,g6,L?,qO];omega;refine .tI ?_ ?_<;>intro hT;exact .ret (by simp[Xz]);refine .bind .get fun b hb=>?_;refine .tI ?_ ?_<;>intro hT;exact .ret (by simp[Xz]);(repeat (first|(rw [qH];rotate_left;omega;omega)|(rw [xI];rotate_left;omega;omega)));refine .bind (Nf s hs w es (qp+2) o? o?) fun v hv=>?_;refine .tI ?_ ?_<;>intro hT;exact .ret (by simp[Xz]);have hc:=hT;obtain⟨g1,g2,g3,g4,g5,g6⟩:=hv hc.1;refine .bind .get fun c Hl=>?_;(repeat (first|(rw [qH];rotate_left;omega;omega)|(rw [xI];rotate_left;omega;omega)));refine .tI ?_ ?_<;>intro hT;refine .ret fun _=>⟨u?,u?, ?_⟩;simp only[nJ,g4,g5,g6,L?,qO];omega;(repeat (first|(rw [qH];rotate_left;omega;omega)|(rw [xI];rotate_left;omega;omega)));refine .tI ?_ ?_<;>intro hT;refine .bind (Ua s hs w es hS (v.2.1+1) o? o? true) fun y hy=>?_;refine .ret fun h=>?_;simp only[decide_eq_true_eq]at h;obtain⟨k1,k2,k3,k4⟩:=hy.1 h;have:=k3 rfl;simp only;rw[qH o? o?];refine⟨o?,o?, ?_⟩;simp only[nJ,g4,g5,L?,qO];omega;refine .tI ?_ ?_<;>intro hT;refine .bind (Mc s hs v.2.1) fun y hy=>?_;refine .ret fun h=>?_;obtain⟨k1,k2,k3,k4⟩:=hy h;simp only;rw[qH o? o?];refine⟨o?,o?, ?_⟩;simp only[nJ,g5,g6,L?,qO];omega;(repeat (first|(rw [qH];rotate_left;omega;omega)|(rw [xI];rotate_left;omega;omega)));refine .tI ?_ ?_<;>intro hT;{refine .bind (q0N s hs w es (v.2.1+1) o? o?) fun y hy=>?_;refine .ite (fun hT=>?_) fun hT=>?_<;>(try simp only[tfx.down]at hT)<;>(try simp(disch:=omega) only[qH,xI]at hT);{have hc3:=hT;obtain⟨k1,k2,k3⟩:=hy hc3.1;(repeat (first|(rw [qH];rotate_left;omega;omega)|(rw [xI];rotate_left;omega;omega)));refine .bind .get fun d hd=>?_;refine .ret fun h=>⟨u?,u?, ?_⟩;simp only[nJ,g4,g6,L?,qO];omega};exact .ret (by simp[Xz])};exact .ret (by simp[Xz])
theorem ZJ.set{s:qa}{w:List qD}{es:List Int}(hS:ZJ s w es){qp:Int}(h0:0<=qp)(h1:qp<s.length){x:qD}{e:Int}(h:qp<e/\e<=s.length/\(pU x+2:Int)<=1000*(e-qp)):
  ZJ s (w.set qp.toNat x) (es.set qp.toNat e) where
 lw:=by simpa using hS.lw
 le:=by simpa using hS.le
 ok:=by intro p e2 x2 h2 h3 h4;rw[List.getElem?_set]at h2 h4;by_cases hp:qp.toNat=p;exact tW;rw[if_neg hp]at h2 h4;exact hS.ok p e2 x2 h2 h3 h4
theorem Y3(s:qa)(hs:s.length<=BN): ∀(m:Nat)(qp:Int)(w:List qD)(es:List Int),m=(qp+1).toNat-> -1<=qp->qp<s.length->ZJ s w es->
  qJ (yL (s,qp,w,es,s)) (fun r=>ZJ s r.1 r.2):=by have hB:s.length<=8192:=hs;intro m;induction m using p? with|_ m ih=>intro qp w es hm h0 h1 hS;rw[yL.eq_1];refine .tI ?_ ?_<;>intro hT;{refine .bind .get fun c hc=>?_;refine .tI ?_ ?_<;>intro hT;{refine .bind (PY s hs w es hS qp o? h1) fun y hy=>?_;refine .tI ?_ ?_<;>intro hT;{have Hl:=hT;refine .bind (v_ o? (by have:=hS.lw;omega)) fun p hp=>?_;refine .bind (v_ o? (by have:=hS.le;omega)) fun q hq=>?_;(repeat (first|(rw [qH];rotate_left;omega;omega)|(rw [xI];rotate_left;omega;omega)));exact ih _ o? (qp-1) _ _ rfl o? o? (hS.set o? h1 (hy Hl))};exact tW};exact tW};exact .ret hS
theorem BW: ∀(n:Nat)(l:Sl qD),qO (l.l.map pU)<=n->n<=100000000->qJ (nf l) (fun r=>0<=r/\r<=n):=by
 intro n;induction n using p? with
 |_ n ih=>
 intro l hl hn;have hlen:=xc ct l.l;have loop: ∀(r:List qD)(k:Nat)(d:Int),l.l.drop k=r->0<=d->d<=n->qJ (kT (l,d,(k:Int))) (fun r=>0<=r/\r<=n):=by
  intro r;induction r with
  |nil=>
   intro k d hk h1 h2;rw[kT.eq_1];have:=vI hk;refine .tI ?_ ?_<;>intro hT
   ·omega
   exact .ret ⟨h1,h2⟩
  |cons x r Ki=>
   intro k d hk h1 h2;obtain⟨e1,e2,e3⟩:=drop_cons hk;have hx:=xP (f:=pU) (z6 e1);have hxw:=nJ x;rw[kT.eq_1];have e4:q?.wrap ((k:Int)+1)=((k+1:Nat):Int):=pE o?;rw[e4];refine .tI ?_ ?_<;>intro hT
   ·refine .bind (P:=fun y=>y=x) ⟨x,by rw[xd e3];simpa[wu e3]using e1,rfl⟩ fun y hy=>?_;subst hy;refine .bind (ih (n-1) o? y.qz o? o?) fun z hz=>?_;refine .tI ?_ ?_<;>intro hT
    ·(repeat (first|(rw [qH];rotate_left;omega;omega)|(rw [xI];rotate_left;omega;omega)))
     exact Ki (k+1) _ e2 (by split<;>omega) (by split<;>omega)
    exact Ki (k+1) _ e2 (by split<;>omega) (by split<;>omega)
   omega
 have h:=loop l.l 0 0 rfl o? o?;rw[show ((0:Nat):Int)=0 from rfl]at h;rw[nf.eq_1];first
 |exact h
 |(refine .bind h fun v hv=>?_;exact .ret hv)
theorem seen_new(s:qa)(x:qD):ZJ s (b? s.length x) (b? s.length (0:Int)) where
 lw:=z?
 le:=z?
 ok:=by (intro p e y h1 h2 h3;have:e=0:=by have:=z6 h1;exact(List.mem_replicate.1 this).2);omega
theorem Rn(s:qa):qJ (fK s) (fun r=>qO (r.1.l.map pU)<=8192002/\(r.2=0->s.length<=BN)):=by
 unfold fK;refine .tI ?_ ?_<;>intro hT;exact .ret ⟨by simp[qO],z?⟩;have hc:=hT;have hs:s.length<=BN:=by unfold BN;omega
 have e:(s.length:Int).toNat=s.length:=z?;refine .zx o? ?_;rw[e];refine .zx qA ?_;refine .zx o? ?_;refine .zx qA ?_;(repeat (first|(rw [qH];rotate_left;omega;omega)|(rw [xI];rotate_left;omega;omega)));refine .bind (Y3 s hs _ ((s.length:Int)-1) _ _ rfl o? o? (seen_new s _)) fun v hv=>?_;refine .bind (Ua s hs v.1 v.2 hv 0 o? o? false) fun y hy=>?_;obtain⟨k1,k2,_,k4⟩:=hy.1 (hy.2 rfl);refine .bind (BW 8192002 y.1 o? o?) fun z hz=>?_;refine .tI ?_ ?_<;>intro hT;exact .ret ⟨by simp[qO],fun _=>hs⟩;exact .ret ⟨u?,fun _=>hs⟩
theorem yu{α:Type}{xs:List α}{k:Nat}(h:xs.drop k=[]): ¬((k:Int)<(xs.length:Int)):=by have:=vI h;omega
theorem wS{α:Type}{xs r:List α}{x:α}{k:Nat}(h:xs.drop k=x::r):(k:Int)<(xs.length:Int)/\qh xs (k:Int)=some x/\xs.drop (k+1)=r/\x∈xs:=by obtain⟨a,b,c⟩:=drop_cons h;refine⟨o?, ?_,b,z6 a⟩;rw[xd c];exact tW
theorem ll{α:Type}{xs:List α}{k:Nat}(hl:xs.length<=9223372036854775807)(h:(k:Int)<(xs.length:Int)):q?.wrap ((k:Int)+1)=((k+1:Nat):Int):=pE o?
theorem wr{n:Int}(h1: -(2^62)<=n)(h2:n<=2^62):q?.wrap n=n:=qH o? o?
theorem Zr{P:qG->Prop}(h: ∀x,(∀ y∈x.qz.l,P y)->P x)(x:qG):P x:=by
 have key: ∀n(x:qG),ru x<n->P x:=by intro n;induction n with|zero=>intro x hx;omega|succ n ih=>intro x hx;have:= @xP;have:= @yo;exact tW
 exact key _ x (Nat.lt_succ_self _)
theorem au(x:qG):x.qz.l.length<ru x:=by have:=xc ee x.qz.l;rw[yo];omega
theorem Ge{x y:qG}(h:y∈x.qz.l):ru y<ru x:=by have:=xP (f:=ru) h;rw[yo x];omega
abbrev kO(x:qG):Prop:=ru x<=1099511627776
theorem md{x y:qG}(h:kO x)(hy:y∈x.qz.l):kO y:=by have:=Ge hy;unfold kO at *; omega
theorem M5: ∀x:qG,kO x->qJ (uZ x) (fun _=>True):=by
 apply Zr (P:=fun x=>kO x->qJ (uZ x) (fun _=>True));intro x ih0 hw;have hk:=au x;have key: ∀(r:List qG)(k:Nat)(n:Int),x.qz.l.drop k=r->qJ (kY (n,(k:Int),x)) (fun _=>True):=by intro r;induction r with|nil=>intro k n hd;rw[kY.eq_1,if_neg (by simpa using yu hd)];exact .ret trivial|cons y r ih=>intro k n hd;obtain⟨a1,a2,a3,a4⟩:=wS hd;rw[kY.eq_1,if_pos (by simpa using a1),ll (by unfold kO at hw;omega) a1];refine .go a2 ?_;exact .bind (ih0 y a4 (md hw a4)) fun v _=>ih (k+1) _ a3
 rw[uZ.eq_1];exact .bind (key x.qz.l 0 1 rfl) fun v _=> .ret trivial
theorem Tc: ∀x:qG,kO x->qJ (bV x) (fun _=>True):=by
 apply Zr (P:=fun x=>kO x->qJ (bV x) (fun _=>True));intro x ih0 hw;have hk:=au x;have key: ∀(r:List qG)(k:Nat)(n:Int),x.qz.l.drop k=r->qJ (wW (n,(k:Int),x)) (fun _=>True):=by intro r;induction r with|nil=>intro k n hd;rw[wW.eq_1,if_neg (by simpa using yu hd)];exact .ret trivial|cons y r ih=>intro k n hd;obtain⟨a1,a2,a3,a4⟩:=wS hd;rw[wW.eq_1,if_pos (by simpa using a1),ll (by unfold kO at hw;omega) a1];refine .go a2 ?_;exact .bind (ih0 y a4 (md hw a4)) fun v _=>ih (k+1) _ a3
 rw[bV.eq_1];refine .bind (key x.qz.l 0 0 rfl) fun v _=>?_;refine .tI ?_ ?_<;>intro hT;exact .ret trivial;exact .ret trivial
mutual
def db:qG->Nat
 |⟨k,_,_,_,_,_,_,s⟩=>(if k=5 then 1 else 0)+rxGS s
def rxGS:Sl qG->Nat
 |⟨_,l⟩=>rxGL l
def rxGL:List qG->Nat
 |[]=>0
 |x::r=>db x+rxGL r
end
theorem Mw: ∀l:List qG,rxGL l=qO (l.map db)
 |[]=>by simp[rxGL,qO]
 |x::r=>by simp[rxGL,qO,Mw r]
theorem WZ(x:qG):db x=(if x.kind=5 then 1 else 0)+qO (x.qz.l.map db):=by obtain⟨a,b,c,d,e,f,g,h⟩:=x;obtain⟨u,l⟩:=h;simp[db,rxGS,Mw]
theorem Dl{α:Type}{f g:α->Nat}: ∀{l:List α},(∀ a∈l,f a<=g a)->qO (l.map f)<=qO (l.map g)
 |[],_=>by simp[qO]
 |a::l,h=>by have h1:=h a z?;have h2:=Dl (l:=l) fun b hb=>h b (by simp[hb]);simp only[s?,qO];omega
theorem RT: ∀x:qG,db x<=ru x:=by apply Zr;intro x ih;have:=Dl ih;rw[WZ,yo];split<;>omega
theorem eT: ∀x:qG,kO x->jP x=some (db x:Int):=by
 apply Zr (P:=fun x=>kO x->jP x=some (db x:Int));intro x ih0 hw;have hk:=au x;have hp:=RT x;have key: ∀(r:List qG)(k n:Nat),x.qz.l.drop k=r->n+qO (r.map db)<=1099511627776->jJ ((n:Int),(k:Int),x)=some ((n+qO (r.map db):Nat):Int):=by intro r;induction r with|nil=>intro k n hd _;rw[jJ.eq_1,if_neg (by simpa using yu hd)];simp[qO]|cons y r ih=>(intro k n hd hn;obtain⟨a1,a2,a3,a4⟩:=wS hd;simp only[s?,qO]at hn;have e:q?.wrap ((n:Int)+(db y:Int))=((n+db y:Nat):Int):=by rw[wr o? o?];omega);rw[jJ.eq_1];simp only[a1,decide_true,if_true,a2,zF,qS,ih0 y a4 (md hw a4),ll (by unfold kO at hw;omega) a1,e];rw[ih (k+1) (n+db y) a3 o?];simp only[s?,qO,ki,Int.natCast_inj];omega
 have hg:=WZ x;rw[jP.eq_1];unfold kO at hw;by_cases h5:x.kind=5;rw[if_pos h5]at hg;have h:=key x.qz.l 0 1 rfl o?;rw[if_pos (by simp[h5]),show((1:Int),(0:Int),x)=(((1:Nat):Int),((0:Nat):Int),x)from rfl,h];simp[hg];rw[if_neg h5]at hg;have h:=key x.qz.l 0 0 rfl o?;rw[if_neg (by simp[h5]),show((0:Int),(0:Int),x)=(((0:Nat):Int),((0:Nat):Int),x)from rfl,h];simp[hg]
inductive WF:qG->Prop
 |mk (x:qG) (hk: ∀y∈x.qz.l,WF y) (h1:x.kind=5\/x.kind=6\/x.kind=7-> ∃y,x.qz.l=[y]) (h7:x.kind=7-> ∀y∈x.qz.l,2<=y.kind/\y.kind<=6):WF x
theorem WF.qz{x:qG}(h:WF x): ∀y∈x.qz.l,WF y:=by cases h;assumption
theorem WF.one{x:qG}(h:WF x):x.kind=5\/x.kind=6\/x.kind=7-> ∃y,x.qz.l=[y]:=by cases h;assumption
theorem WF.rep{x:qG}(h:WF x):x.kind=7-> ∀y∈x.qz.l,2<=y.kind/\y.kind<=6:=by cases h;assumption
theorem tJ(x:qG):qJ (ue x) (fun _=>True):=by unfold ue;refine .tI ?_ ?_<;>intro hT;exact .ret trivial;exact .ret trivial
def Jx(b:UInt8):Bool:=decide ((b.toNat:Int)<128) || decide ((b.toNat:Int)>191)
theorem Kk(b:UInt8):vU b=some (Jx b):=by unfold vU Jx;by_cases h:(b.toNat:Int)<128<;>simp[h]
theorem MM(s:qa)(hl:s.length<=1099511627776): ∀(r:qa)(k f:Nat)(l:List qa),s.drop k=r->k<=s.length->f<=k->l.length<=k->
  ∃out,zM (s,(f:Int),(k:Int),l)=some out/\out.length=l.length+r.countP Jx+1:=by
 have WY: ∀n,n<=1099511627777->qg n 16=true:=by intro n hn;simp only[qg,zO,decide_eq_true_eq];omega
 intro r;induction r with|nil=>(intro k f l hk pf hf FA;have h1:=vI hk;obtain rfl:k=s.length:=o?;have hs:jj s (f:Int) (s.length:Int)=some (s.drop f):=by unfold jj;rw[if_pos v?];simp);rw[zM.eq_1];simp only[Int.le_refl,decide_true,if_true,beq_self_eq_true,hs,zF,qS,WY _ (show l.length+1<=_ by omega)];rw[zM.eq_1,if_neg (by rw[wr o? o?];simp;omega)];exact⟨_,rfl,z?⟩|cons b r ih=>(intro k f l hk pf hf FA;obtain⟨a1,a2,a3,_⟩:=wS hk;have h1:((k:Int)<=(s.length:Int)):=o?;have h2:((k:Int)==(s.length:Int))=false:=v?;have hs:jj s (f:Int) (k:Int)=some ((s.take k).drop f):=by unfold jj;rw[if_pos v?];simp);rw[zM.eq_1];simp only[h1,decide_true,if_true,h2,ko,if_false,a2,zF,qS,Kk,ll o? a1];cases hb:Jx b;obtain⟨out,o1,o2⟩:=ih (k+1) f l a3 o? o? o?;exact⟨out,by simpa using o1,by rw[o2];simp[O!,hb]⟩;obtain⟨out,o1,o2⟩:=ih (k+1) k (l++[(s.take k).drop f]) a3 o? o? v?;refine⟨out, ?_,by rw[o2];simp[O!,hb];omega⟩;simp only[if_true,hs,qS,WY _ (show l.length+1<=_ by omega),o1]
theorem oH(c:qa)(hl:c.length<=1099511627776):qJ (jt c) (fun _=>True):=by unfold jt yJ;refine .tI ?_ ?_<;>intro hT;refine .bind .get fun b hb=>?_;refine .go (Kk b) ?_;refine .tI ?_ ?_<;>intro hT;obtain⟨out,o1,o2⟩:=MM c hl (c.drop 1) 1 0 [] rfl o? o? z?;exact .go (Option.bind_eq_some_iff.2 ⟨out,o1,rfl⟩) (.ret trivial);exact .ret trivial;exact .ret trivial
theorem RR(rows:Sl qV)(hw:qO (rows.l.map gn)<=1099511627776):qJ (ik rows) (fun _=>True):=by
 have FA:rows.l.length<=1099511627776:=by have:=xc sf rows.l;omega
 have key: ∀(r:List qV)(k:Nat),rows.l.drop k=r->qJ (uY (rows,(k:Int))) (fun _=>True):=by intro r;induction r with|nil=>intro k hk;rw[uY.eq_1,if_neg (by simpa using yu hk)];exact .ret trivial|cons x r ih=>(intro k hk;obtain⟨a1,a2,a3,a4⟩:=wS hk;have hx:gn x<=1099511627776:=by have:=xP (f:=gn) a4;omega);have ih:=ih (k+1) a3;unfold gn at hx;rw[uY.eq_1,if_pos (by simpa using a1),ll o? a1];refine .go a2 ?_;refine .bind (oH x.qB o?) fun v _=>?_;refine .tI ?_ ?_<;>intro hT;exact .ret trivial;refine .bind (oH x.to o?) fun w _=>?_;refine .tI ?_ ?_<;>intro hT;exact .ret trivial;refine .tI ?_ ?_<;>intro hT;{(repeat (first|(rw [qH];rotate_left;omega;omega)|(rw [xI];rotate_left;omega;omega)));refine .bind .get fun b hb=>?_;refine .tI ?_ ?_<;>intro hT;exact .ret trivial;exact ih};exact ih
 unfold ik;refine .bind (key rows.l 0 rfl) fun v _=>?_;rcases v with v|v<;>exact .ret trivial
theorem TT{o:Option (Bool⊕Unit)}{f:Unit->Option Bool}{P:Prop}(h:qJ o (fun v=>v= .inl true->False))(h2:o=some (.inr ())->qJ (f ()) (fun c=>c=true->P)):
  qJ (o>>=fun v=>match v with| .inl y=>some y| .inr y=>f y) (fun c=>c=true->P):=by obtain⟨v,rfl,hv⟩:=h;rcases v with v|v;refine .go rfl (.ret fun hc=>?_);exact absurd (congrArg Sum.inl hc) hv;exact .go rfl (h2 rfl)
theorem HA(x:qG)(hl:x.qz.l.length<=9223372036854775807): ∀(r:List qG)(k:Nat),x.qz.l.drop k=r->qJ (bX ((x.qz.l.length:Int),(k:Int),x)) (fun v=>v= .inl true->False):=by intro r;induction r with|nil=>intro k hk;rw[bX.eq_1,if_neg (by simpa using yu hk)];exact .ret z?|cons y r ih=>intro k hk;obtain⟨a1,a2,a3,a4⟩:=wS hk;rw[bX.eq_1,if_pos (by simpa using a1),ll hl a1];refine .go a2 ?_;refine .tI ?_ ?_<;>intro hT;exact .ret z?;refine .tI ?_ ?_<;>intro hT;exact .ret z?;exact ih (k+1) a3
theorem HB(x:qG)(hl:x.qz.l.length<=9223372036854775807): ∀(r:List qG)(k:Nat),x.qz.l.drop k=r->qJ (bY ((x.qz.l.length:Int),(k:Int),x)) (fun v=>v= .inl true->False):=by intro r;induction r with|nil=>intro k hk;rw[bY.eq_1,if_neg (by simpa using yu hk)];exact .ret z?|cons y r ih=>intro k hk;obtain⟨a1,a2,a3,a4⟩:=wS hk;rw[bY.eq_1,if_pos (by simpa using a1),ll hl a1];refine .go a2 ?_;refine .tI ?_ ?_<;>intro hT;exact .ret z?;exact ih (k+1) a3
theorem G8(x:qG):qJ (rV x) (fun c=>c=true-> ∃y,x.qz.l=[y]/\2<=y.kind/\y.kind<=6):=by unfold rV;refine .tI ?_ ?_<;>intro hT;exact .ret z?;have h1:x.qz.l.length=1:=o?;obtain⟨y,hy⟩:=L_.1 h1;refine .go (a:=y) (by rw[hy];rfl) ?_;refine .bind (tJ _) fun v _=>?_;refine .tI ?_ ?_<;>intro hT;refine .tI ?_ ?_<;>intro hT;exact .ret fun _=>⟨y,hy,o?,o?⟩;refine .ret fun h=>⟨y,hy, ?_⟩;simp only[beq_iff_eq]at h;omega;exact .ret z?
theorem Gy{x:qG}(hk:x.qz.l=[])(h:x.kind≠5/\x.kind≠6/\x.kind≠7):WF x:= .mk x (by simp[hk]) (fun h2=>o?) (fun h2=>o?)
theorem len_nil{α:Type}{l:List α}(h:(l.length:Int)=0):l=[]:=by cases l with|nil=>rfl|cons _ _=>simp at h;omega
theorem FX: ∀x:qG,kO x->qJ (py x) (fun c=>c=true->WF x):=by
 apply Zr (P:=fun x=>kO x->qJ (py x) (fun c=>c=true->WF x));intro x ih0 hw;have hk:=au x;have hx:=yo x;have hl:x.qz.l.length<=9223372036854775807:=by unfold kO at hw;omega
 have key: ∀(r:List qG)(k:Nat),x.qz.l.drop k=r->qJ (yE ((x.qz.l.length:Int),(k:Int),x)) (fun v=>(v= .inl true->False)/\(v= .inr ()-> ∀y∈r,WF y)):=by intro r;induction r with|nil=>intro k hd;rw[yE.eq_1,if_neg (by simpa using yu hd)];exact .ret ⟨z?,z?⟩|cons y r ih=>intro k hd;obtain⟨a1,a2,a3,a4⟩:=wS hd;rw[yE.eq_1,if_pos (by simpa using a1),ll hl a1];refine .go a2 ?_;refine .bind (ih0 y a4 (md hw a4)) fun v hv=>?_;refine .tI ?_ ?_<;>intro hT;exact .ret ⟨z?,z?⟩;have hv:=hv hT;refine(ih (k+1) a3).mono fun w h=>⟨h.1,fun hw=>?_⟩;intro z hz;rcases U?.1 hz with rfl|hz;exact hv;exact h.2 hw z hz
 have key:=key x.qz.l 0 rfl;rw[show ((0:Nat):Int)=0 from rfl]at key;have e3:=HA x hl x.qz.l 0 rfl;have e5:=HB x hl x.qz.l 0 rfl;rw[show ((0:Nat):Int)=0 from rfl]at e3 e5;unfold kO at hw;rw[py.eq_1];refine TT (key.mono fun v h=>h.1) fun hr=>?_;obtain⟨v,Zf,TA⟩:=key;rw[hr]at Zf;cases Zf;have qz:=TA.2 rfl;refine .tI ?_ ?_<;>intro hT;have h0:=hT;refine TT e3 fun _=>?_;refine .bind (tJ _) fun v _=>?_;refine .tI ?_ ?_<;>intro hT;exact .ret fun _=> .mk x qz (fun h=>o?) (fun h=>o?);exact .ret z?;refine .tI ?_ ?_<;>intro hT;have h0:=hT;refine TT e5 fun _=>?_;refine .bind (tJ _) fun v _=>?_;refine .tI ?_ ?_<;>intro hT;exact .ret fun _=> .mk x qz (fun h=>o?) (fun h=>o?);exact .ret z?;refine .tI ?_ ?_<;>intro hT;have h0:=hT;refine .bind (tJ _) fun v _=>?_;refine .tI ?_ ?_<;>intro hT;have h1:=hT;refine .bind (oH x.char o?) fun v _=>?_;exact .ret fun _=>Gy (len_nil h1.2) o?;exact .ret z?;refine .tI ?_ ?_<;>intro hT;have h0:=hT;refine .bind (tJ _) fun v _=>?_;refine .tI ?_ ?_<;>intro hT;refine .ret fun h=>Gy (len_nil (by simpa using h)) o?;exact .ret z?;refine .tI ?_ ?_<;>intro hT;have h0:=hT;refine .bind (tJ _) fun v _=>?_;refine .tI ?_ ?_<;>intro hT;have h1:=hT;refine .bind (RR x.rows o?) fun v _=>?_;exact .ret fun _=>Gy (len_nil h1.2) o?;exact .ret z?;refine .tI ?_ ?_<;>intro hT;have h0:=hT;refine .bind (tJ _) fun v _=>?_;refine .tI ?_ ?_<;>intro hT;refine .ret fun h=> .mk x qz (fun _=>?_) (fun h=>o?);exact L_.1 (by simp at h;omega);exact .ret z?;refine .tI ?_ ?_<;>intro hT;have h0:=hT;refine .bind (G8 x) fun v hv=>?_;refine .ret fun h=>?_;obtain⟨y,y1,y2⟩:=hv h;refine .mk x qz (fun _=>⟨y,y1⟩) (fun _ z hz=>?_);rw[y1]at hz;simp only[a?]at hz;subst hz;exact y2;exact .ret z?
theorem XA(x:qG)(hw:kO x):qJ (sO x) (fun c=>c=true->WF x):=by unfold sO;refine .bind (M5 x hw) fun v _=>?_;refine .tI ?_ ?_<;>intro hT;refine .bind (Tc x hw) fun v _=>?_;refine .tI ?_ ?_<;>intro hT;refine .bind (FX x hw) fun v hv=>?_;exact .ret hv;exact .ret z?;exact .ret z?
end Go.Proofs.YtnojdepmnnebnaaGreat
