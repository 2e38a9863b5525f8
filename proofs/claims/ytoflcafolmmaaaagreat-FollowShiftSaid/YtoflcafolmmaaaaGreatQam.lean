/-
  Expressions: how many parts, groups, how deep; which may be.
-/
import Derived.Test.YtoflcafolmmaaaaGreatQal
import Derived.Test.YtoflcafolmmaaaaGreatQak
open Go.IntKind renaming i64->q?
open Go.Proofs.YtoflcafolmmaaaaGreat.qJ renaming get->n_
open Int renaming toNat_natCast->c?
open List renaming map->w?,length_cons->g?,replicate->b?,mem_append->m?,length_append->t?,map_cons->s?,mem_singleton->d?,length_nil->e?,mem_cons->U?,map_nil->L?,map_append->Y!,ne_nil_of_length_pos->P!,countP_cons->O!,take_append_drop->s_,length_eq_one_iff->A_
open Nat renaming strongRecOn->r?
set_option linter.unusedSimpArgs false
set_option linter.unusedVariables false
namespace Go.Proofs.YtoflcafolmmaaaaGreat
open Go Go.Gm
namespace Xr
def newText(b:qa)(e:ql):qa:=b.take e.span.qI.toNat++e.text++b.drop e.span.to.toNat
theorem Jo(b:qa)(e:ql)(he:wv e b.length):((newText b e).length:Int)=b.length+(e.text.length-(e.span.to-e.span.qI)):=by have:=he.a0;have:=he.ab;have:=he.bn;unfold newText;simp only[t?,List.length_take,List.length_drop];omega
structure Iu (P:qr->Prop) (b:qa) (e:ql) (ss:List qb) (top inst:Int) (v:qa×Sl qy×List qb×Sl (Sl (Sl Int))):Prop where
 text:v.1=newText b e
 ok:S2 P v.1 v.2.1 v.2.2.1 v.2.2.2
 len:v.2.2.1.length=ss.length
 cur: ∀(j:Nat) s,ss[j]? =some s-> ∃s',v.2.2.1[j]? =some s' /\s'.cur=s.cur
 top: ∀(t:Nat) s,top=t->inst≠ -1->ss[t]? =some s-> ∃s',v.2.2.1[t]? =some s' /\s'.insts.l.length=s.insts.l.length
section
variable {P:qr->Prop} (hP:Cored P) {b:qa} {q:Sl qy} {ss:List qb} {fl:Sl (Sl (Sl Int))}
include hP in
theorem SK(W:S2 P b q ss fl){e:ql}(he:wv e b.length)(hB:b.length+e.text.length<=2^39)(is ks:List Int)(ho:o0 e ss is ks)(top inst:Int)(htop: ∀(t:Nat),top=t->inst≠ -1-> ∀a,is[t]? =some a->a≠ -1)
  {ss' :List qb} {UI:Sl (Sl (Sl Int))} (H:Laid e b.length ss is ss.length ss' UI):
  Iu P b e ss top inst (newText b e,⟨(mm (q.l.map (QK e))).isEmpty,mm (q.l.map (QK e))⟩,ss',UI):=by
 have hl:=Jo b e he;have hn:=(Nj e b.length he q (by have:=W.VJ;omega) W.K7).2;rw[<- hl]at hn;have hap:=Zb _ _ hn;have Vc:=Wn (q.l.map (QK e));have eR:=he.ab;have hd: ∀(j:Nat) s',ss'[j]? =some s' -> ∃s f a,ss[j]? =some s/\UI.l[j]? =some f/\is[j]? =some a/\Up e b.length s a s' f:=by intro j s' oM;have hj:=(qF oM).1;obtain⟨s,hs⟩:=gl (l:=ss) (k:=j) (by have:=H.len;omega);obtain⟨s2,f,a,k1,k2,k3,k4⟩:=H.done j s (by have:=H.len;omega) hs;rw[oM]at k1;cases k1;exact⟨s,f,a,hs,k2,k3,k4⟩
 refine⟨rfl, ?_,H.len, ?_, ?_⟩;refine⟨u?,Vc.2 (by simpa using W.ne),by have:=W.VJ;have:=Vc.1;simp only[List.length_map]at this;simp only;omega,hap.1,hap.2,by rw[H.len];exact W.di, ?_, ?_,by rw[H.KV,H.len], ?_, ?_, ?_⟩;intro s' oM;obtain⟨j,hj⟩:=kh oM;obtain⟨s,f,a,k1,k2,k3,k4⟩:=hd j s' hj;have dF:=W.small s (z7 k1);refine⟨by have:=k4.len;have:=dF.1;omega,fun i hi=>?_⟩;obtain⟨i0,hi0,h1,_⟩:=k4.core i hi;have:=dF.2 i0 hi0;omega;intro s' oM;obtain⟨j,hj⟩:=kh oM;obtain⟨s,f,a,k1,k2,k3,k4⟩:=hd j s' hj;rw[hl];exact k4.may;intro jx;refine H.fnn fun c=>?_;have:=H.len;rw[c]at this;exact jx (List.eq_nil_of_length_eq_zero (by simpa using this));intro j s' f oM hf;obtain⟨s,f2,a,k1,k2,k3,k4⟩:=hd j s' oM;rw[hf]at k2;cases k2;exact k4.fl;intro s' oM i hi x hx;obtain⟨j,hj⟩:=kh oM;obtain⟨s,f,a,k1,k2,k3,k4⟩:=hd j s' hj;obtain⟨i0,hi0,_,h2⟩:=k4.core i hi;obtain⟨x0,hx0,h3⟩:=h2 x hx;exact hP x x0 h3 (W.stop s (z7 k1) i0 hi0 x0 hx0);intro j s hs;obtain⟨s',f,a,k1,k2,k3,k4⟩:=H.done j s (qF hs).1 hs;exact⟨s',k1,k4.cur⟩;intro t s ht dE hs;obtain⟨s',f,a,k1,k2,k3,k4⟩:=H.done t s (qF hs).1 hs;exact⟨s',k1,k4.all (htop t ht dE a k3)⟩
include hP in
theorem Th(W:S2 P b q ss fl){e:ql}(he:wv e b.length)(hB:b.length+e.text.length<=2^39)(top inst stop:Int)(mark:Bool)
  (ho:(inst= -1/\stop= -1)\/ ∃(t:Nat)(s:qb),top=t/\ss[t]? =some s/\inst≠ -1/\Ix e s inst stop):
  ∃v,jK top inst stop e mark b q ss fl=some v/\Iu P b e ss top inst v:=by
 have Ed:=W.di;have eR:=he.ab;have Ee:=he.a0;have hbn:=he.bn;obtain⟨is0,ks0,g1,g2,g3,g4⟩:=lay_L0 mark b q ss fl (e:=e) top inst stop Ed ss.length 0 (b? ss.length 0) (b? ss.length 0) o? z? z? (fun j hj=>o?);have ho0:o0 e ss is0 ks0:=by refine⟨g2,g3,fun j s hs=>?_⟩;have hj:=g4 j (qF hs).1;exact⟨-1,-1,hj.1,hj.2,.inl ⟨rfl,rfl⟩⟩
 have L0: ∀is:List Int,Laid e b.length ss is 0 ss fl:=by intro is;refine⟨rfl,W.KV,W.fnn,fun j s hj=>o?,fun j s _ hs=>?_⟩;obtain⟨f,hf⟩:=gl (l:=fl.l) (k:=j) (by rw[W.KV];exact(qF hs).1);exact⟨hs,f,hf,W.each j s f hs hf⟩
 have hmv:=(Nj e b.length he q (by have:=W.VJ;omega) W.K7).1;have c1:kQ b e.span.qI=some (b.take e.span.qI.toNat):=by obtain⟨r,k1,k2,_⟩:=qJ.kQ (l:=b) Ee o?;rw[k1,k2]
 have c2:mo b e.span.to=some (b.drop e.span.to.toNat):=by obtain⟨r,k1,k2,_⟩:=qJ.mo (l:=b) (lo:=e.span.to) o? o?;rw[k1,k2]
 have hbl:=W.blen;have r1:(b.take e.span.qI.toNat).length+e.text.length<=2^62:=v?;have r2:(b.take e.span.qI.toNat++e.text).length+(b.drop e.span.to.toNat).length<=2^62:=v?;unfold jK;rw[if_pos z?,if_pos (qA v? o?),if_pos z?,if_pos (qA v? o?)];simp only[c?];rw[show (0:Int)=((0:Nat):Int)from rfl,show b? ss.length ((0:Nat):Int)=b? ss.length 0 from rfl,g1];simp only[zJ,qS];rcases ho with ⟨rfl,rfl⟩|⟨t,s,rfl,hs,dE,how⟩;rw[if_neg z?];obtain⟨ss',UI,k1,k2⟩:=lay_L42 mark b q b.length he ss Ed W.small W.may is0 ks0 ho0 top ss.length 0 fl ss o? (L0 is0);rw[k1];simp only[qS,c1,c2,hmv];rw[if_pos r1,if_pos r2];exact⟨_,rfl,SK hP W he hB is0 ks0 ho0 top (-1) (fun t _ h=>absurd rfl h) k2⟩;rcases how with ⟨h,_⟩|⟨a',k',i,x,rfl,rfl,h1,h2,h3⟩;exact absurd h dE;have htl:=(qF hs).1;rw[if_pos z?,gi (g4 t htl).1,gi (g4 t htl).2,gi hs];simp only[qS];rw[gi h1];simp only[qS,c?];have sx:=z7 hs;have hin' :=(W.may s sx).may a' i h1 |>.inside k' x h2;have ho1:o0 e ss (is0.set t (a' :Int)) (ks0.set t (k' :Int)):=by refine⟨by simp[g2],by simp[g3],fun j s' oM=>?_⟩;rw[zm,zm];by_cases c:t=j;subst c;rw[hs]at oM;cases oM;rw[if_pos ⟨rfl,o?⟩,if_pos ⟨rfl,o?⟩];exact⟨_,_,rfl,rfl,.inr ⟨a',k',i,x,rfl,rfl,h1,h2,h3⟩⟩;rw[if_neg o?,if_neg o?];exact ho0.2.2 j s' oM
 obtain⟨MM,Fu,at',m1,m2,m3⟩:=lay_L2 mark b q ss fl (t:Int) W.small (fun s hs=>⟨_,W.may s hs⟩) t (is0.set t (a' :Int)) (ks0.set t (k' :Int)) i.span o? o? (oK h3 ⟨hin'.1,hin'.2⟩) ho1;rw[show q?.wrap ((t:Int)-1)=(t:Int)-1 from qG o? o?,m1];simp only[qS];obtain⟨ss',UI,k1,k2⟩:=lay_L4 mark b q b.length he ss Ed W.small W.may MM Fu m2 (t:Int) at' ss.length 0 fl ss o? (L0 MM);rw[k1];simp only[qS,c1,c2,hmv];rw[if_pos r1,if_pos r2];refine⟨_,rfl,SK hP W he hB MM Fu m2 (t:Int) (a' :Int) (fun t' ht' _ a ha=>?_) k2⟩;obtain rfl:t=t' :=o?;rw[m3 t (jv _),zm,if_pos ⟨rfl,o?⟩]at ha;cases ha;omega
end
end Xr
namespace Xr
theorem Xx(n:Int)(l:List Int)(hl:l.length<2^60):qJ (mQ n l) (fun _=>True):=by
 have loop: ∀(d k:Nat),k+d=l.length->qJ (ux (n,(k:Int),l)) (fun _=>True):=by intro d;induction d with|zero=>intro k h;rw[ux.eq_1,if_neg v?];exact .ret trivial|succ d ih=>intro k h;obtain⟨x,hx⟩:=gl (l:=l) (k:=k) o?;rw[ux.eq_1,if_pos v?,ws o?];refine .go (gi hx) ?_;split;exact .ret trivial;exact ih (k+1) o?
 unfold mQ;refine .bind (loop l.length 0 o?) fun v _=>?_;rcases v with v|v<;>exact .ret trivial
theorem in_tot(l:Sl qr)(b:Int): ∀(m:Nat)(a:Int),m=(a+1).toNat->qJ (cP l a b) (fun _=>True):=by
 have loop: ∀(m:Nat)(a:Int),m=(a+1).toNat->qJ (bG (l,a,b)) (fun _=>True):=by intro m;induction m using r? with|_ m ih=>intro a hm;rw[bG.eq_1];by_cases c:0<=a/\a<(l.l.length:Int);obtain⟨k,rfl⟩: ∃k:Nat,a=k:=⟨a.toNat,o?⟩;obtain⟨x,hx⟩:=gl (l:=l.l) (k:=k) o?;rw[if_pos v?];refine .go (gi hx) ?_;refine .ite (fun c1=>?_) fun _=> .ret trivial;refine .ite (fun c2=>?_) fun _=> .ret trivial;refine .ite (fun _=> .ret trivial) fun _=>?_;simp only[decide_eq_true_eq]at c1 c2;exact ih (x.up+1).toNat o? x.up rfl;rw[if_neg (by simp only[zQ,decide_eq_true_eq];omega)];exact .ret trivial
 intro m a hm;unfold cP;refine .bind (loop m a hm) fun v _=>?_;rcases v with v|v<;>exact .ret trivial
theorem OG(l:Sl qr)(n:Int)(zS:List Int)(hl:l.l.length<2^60)(ht:zS.length<2^60):qJ (fQ l n zS) (fun _=>True):=by
 have LJ: ∀(a:Int)(d k:Nat),k+d=l.l.length->qJ (yP (l,n,a,(k:Int),zS)) (fun _=>True):=by intro a d;induction d with|zero=>intro k h;rw[yP.eq_1,if_neg v?];exact .ret trivial|succ d ih=>intro k h;obtain⟨x,hx⟩:=gl (l:=l.l) (k:=k) o?;rw[yP.eq_1,if_pos v?,ws o?];refine .go (gi hx) ?_;refine .ite (fun _=>?_) fun _=>ih (k+1) o?;refine .bind (in_tot l _ _ a rfl) fun v _=>?_;exact .ite (fun _=> .ret trivial) fun _=>ih (k+1) o?
 have loop: ∀(d k:Nat),k+d=l.l.length->qJ (vg (l,n,(k:Int),zS)) (fun _=>True):=by intro d;induction d with|zero=>intro k h;rw[vg.eq_1,if_neg v?];exact .ret trivial|succ d ih=>intro k h;obtain⟨x,hx⟩:=gl (l:=l.l) (k:=k) o?;rw[vg.eq_1,if_pos v?,ws o?];refine .go (gi hx) ?_;refine .ite (fun _=>ih (k+1) o?) fun _=>?_;refine .bind (Xx x.n zS ht) fun v _=>?_;refine .ite (fun _=>ih (k+1) o?) fun _=>?_;refine .bind (LJ (k:Int) l.l.length 0 o?) fun w _=>?_;rcases w with w|w;exact .ret trivial;exact ih (k+1) o?
 unfold fQ;refine .bind (loop l.l.length 0 o?) fun v _=>?_;rcases v with v|v<;>exact .ret trivial
theorem C5(ns:Sl Int)(n:Int)(hl:ns.l.length<=2^28):qJ (tU ns n) (fun r=>r.l.length<=ns.l.length+1/\(∀ x∈r.l,x=n\/x∈ns.l)/\n∈r.l/\ ∀x∈ns.l,x∈r.l):=by
 have loop: ∀(d k:Nat),k+d=ns.l.length->qJ (bY (ns,n,(k:Int))) (fun v=> ∃j:Nat,v=j/\j<=ns.l.length):=by intro d;induction d with|zero=>intro k h;rw[bY.eq_1,if_neg v?];exact .ret ⟨k,rfl,o?⟩|succ d ih=>intro k h;obtain⟨x,hx⟩:=gl (l:=ns.l) (k:=k) o?;rw[bY.eq_1,if_pos v?,ws o?];refine .go (gi hx) ?_;exact .ite (fun _=>ih (k+1) o?) fun _=> .ret ⟨k,rfl,o?⟩
 unfold tU;refine .bind (loop ns.l.length 0 o?) fun v hv=>?_;obtain⟨j,rfl,hj⟩:=hv;have mid:(ns.l.take j++[n]++ns.l.drop j).length<=ns.l.length+1/\(∀ x∈ns.l.take j++[n]++ns.l.drop j,x=n\/x∈ns.l)/\n∈ns.l.take j++[n]++ns.l.drop j/\ ∀x∈ns.l,x∈ns.l.take j++[n]++ns.l.drop j:=by refine⟨v?,fun x hx=>?_,z?,fun x hx=>?_⟩;simp only[m?,d?]at hx;rcases hx with (hx|hx)|hx;exact .inr (List.mem_of_mem_take hx);exact .inl hx;exact .inr (List.mem_of_mem_drop hx);rw[<- s_ j ns.l]at hx;simp only[m?,d?]at hx |-;rcases hx with hx|hx;exact .inl (.inl hx);exact .inr hx
 have r1:qg (ns.l.take j).length 8=true:=qA v? o?;have r2:qg ((ns.l.take j).length+1) 8=true:=qA v? o?;have r3:qg ((ns.l.take j++[n]).length+(ns.l.drop j).length) 8=true:=qA v? o?;refine .ite (fun c=>?_) fun _=>?_;obtain⟨x,hx⟩:=gl (l:=ns.l) (k:=j) (by simp at c;omega);refine .go (gi hx) ?_;refine .ite (fun c2=>?_) fun _=>?_;refine .ret ⟨o?,fun y hy=> .inr hy, ?_,fun y hy=>hy⟩;have:=z7 hx;simp only[beq_iff_eq]at c2;rw[<- c2];exact this;refine .go (JI _ _ hj) ?_;refine .zz r1 (qJ.zz r2 ?_);refine .go (Ot _ _ hj) ?_;exact .zz r3 (.ret mid);refine .go (JI _ _ hj) ?_;refine .zz r1 (qJ.zz r2 ?_);refine .go (Ot _ _ hj) ?_;exact .zz r3 (.ret mid)
theorem FG(i:qk)(hl:i.stops.l.length<=2^12):qJ (cQ i) (fun r=>r.l.length<=2^12):=by
 have loop0: ∀(d k:Nat)(a:Sl Int),k+d=i.stops.l.length->a.l.length<=k->qJ (uu (a,(k:Int),i)) (fun r=>r.l.length<=i.stops.l.length):=by intro d;induction d with|zero=>intro k a h ha;rw[uu.eq_1,if_neg v?];exact .ret o?|succ d ih=>intro k a h ha;obtain⟨x,hx⟩:=gl (l:=i.stops.l) (k:=k) o?;rw[uu.eq_1,if_pos v?,ws o?];refine .go (gi hx) ?_;refine .bind (C5 a x.n o?) fun v hv=>?_;exact ih (k+1) v o? o?
 have loop4: ∀(a:Sl Int)(zS:List Int),a.l.length<=2^12->zS.length<=2^12-> ∀(d k:Nat)(next:Int)(f:Bool),k+d=a.l.length->qJ (wa (a,next,f,(k:Int),i,zS)) (fun _=>True):=by intro a zS ha ht d;induction d with|zero=>intro k next f h;rw[wa.eq_1,if_neg v?];exact .ret trivial|succ d ih=>(intro k next f h);obtain⟨x,hx⟩:=gl (l:=a.l) (k:=k) o?;rw[wa.eq_1,ws o?];refine .ite (fun _=>?_) fun _=> .ret trivial;refine .go (gi hx) ?_;refine .bind (Xx x zS o?) fun v _=>?_;refine .ite (fun _=>?_) fun _=>ih (k+1) _ _ o?;refine .bind (OG i.stops x zS o? o?) fun w _=>?_;exact .ite (fun _=>ih (k+1) _ _ o?) fun _=>ih (k+1) _ _ o?
 have loop6: ∀(a:Sl Int)(zS:List Int),a.l.length<=2^12->zS.length<=2^12-> ∀(d k:Nat)(next:Int)(f:Bool),k+d=a.l.length->qJ (vA (a,next,f,(k:Int),i,zS)) (fun _=>True):=by intro a zS ha ht d;induction d with|zero=>intro k next f h;rw[vA.eq_1,if_neg v?];exact .ret trivial|succ d ih=>(intro k next f h);obtain⟨x,hx⟩:=gl (l:=a.l) (k:=k) o?;rw[vA.eq_1,ws o?];refine .ite (fun _=>?_) fun _=> .ret trivial;refine .go (gi hx) ?_;refine .bind (Xx x zS o?) fun v _=>?_;exact .ite (fun _=>ih (k+1) _ _ o?) fun _=>ih (k+1) _ _ o?
 have LJ: ∀(a:Sl Int),a.l.length<=2^12-> ∀(d:Nat)(zS:List Int),zS.length+d=a.l.length->qJ (uv (a,i,zS)) (fun r=>r.length<=2^12):=by intro a ha d;induction d with|zero=>intro zS h;rw[uv.eq_1,if_neg v?];exact .ret o?|succ d ih=>intro zS h;rw[uv.eq_1,if_pos v?];refine .bind (loop4 a zS ha o? a.l.length 0 _ _ o?) fun v _=>?_;refine .bind (loop6 a zS ha o? a.l.length 0 _ _ o?) fun w _=>?_;refine .zz qA ?_;exact ih _ v?
 unfold cQ;refine .bind (loop0 i.stops.l.length 0 ⟨true,[]⟩ o? z?) fun v hv=>?_;refine .bind (LJ v o? v.l.length [] z?) fun w hw=>?_;exact .ret hw
def Pb(m:Nat)(r:Int):Prop:=r<0\/ ∃j:Nat,r=j/\j<m
def SrcQ(m:Nat)(v:(Int×Int×Int)⊕(Int×Int)):Prop:=match v with| .inl w=>Pb m w.1| .inr w=>Pb m w.1/\Pb m w.2
theorem Rw(i:qk)(n:Int)(held:Sl Bool)(hl:i.stops.l.length<2^60):qJ (rR i n held) (fun r=>r<0\/ ∃(k:Nat)(x:qr),r=k/\i.stops.l[k]? =some x):=by
 have ok: ∀(r:Int),Pb i.stops.l.length r->(r<0\/ ∃(k:Nat)(x:qr),r=k/\i.stops.l[k]? =some x):=by intro r h;rcases h with h|⟨k,h1,h2⟩;exact .inl h;obtain⟨x,hx⟩:=gl h2;exact .inr ⟨k,x,h1,hx⟩
 have loop: ∀(d k:Nat)(f a:Int),k+d=i.stops.l.length->Pb i.stops.l.length f->Pb i.stops.l.length a->
   qJ (zO (n,held,f,a,(k:Int),i)) (SrcQ i.stops.l.length):=by
  intro d;induction d with
  |zero=>intro k f a h hf ha;rw[zO.eq_1,if_neg v?];exact .ret (show SrcQ _ (.inr (f,a))from⟨hf,ha⟩)
  |succ d ih=>
   intro k f a h hf ha;obtain⟨x,hx⟩:=gl (l:=i.stops.l) (k:=k) o?;have hk:Pb i.stops.l.length (k:Int):= .inr ⟨k,rfl,o?⟩;rw[zO.eq_1,if_pos v?,ws o?];refine .go (gi hx) ?_;refine .ite (fun _=>ih (k+1) f a o? hf ha) fun _=>?_;have rest: ∀(f' a' :Int),(f' =f\/f' =k)->(a' =a\/a' =k)->qJ (zO (n,held,f',a',((k+1:Nat):Int),i)) (SrcQ i.stops.l.length):=fun f' a' h1 h2=>
    ih (k+1) f' a' o? (h1.elim (fun e=>e ▸ hf) (fun e=>e ▸ hk)) (h2.elim (fun e=>e ▸ ha) (fun e=>e ▸ hk))
   refine .ite (fun c=>?_) fun _=>?_
   ·obtain⟨hb,hhb⟩:=gl (l:=held.l) (k:=k) (by simp at c;omega);refine .go (gi hhb) ?_;refine .ite (fun _=> .ret (show SrcQ _ (.inl _)from hk)) fun _=>?_;refine .ite (fun _=>?_) fun _=>?_
    ·exact .ite (fun _=>rest _ _ (.inr rfl) (.inr rfl)) fun _=>rest _ _ (.inr rfl) (.inl rfl)
    exact .ite (fun _=>rest _ _ (.inl rfl) (.inr rfl)) fun _=>rest _ _ (.inl rfl) (.inl rfl)
   refine .ite (fun _=>?_) fun _=>?_
   ·exact .ite (fun _=>rest _ _ (.inr rfl) (.inr rfl)) fun _=>rest _ _ (.inr rfl) (.inl rfl)
   exact .ite (fun _=>rest _ _ (.inl rfl) (.inr rfl)) fun _=>rest _ _ (.inl rfl) (.inl rfl)
 unfold rR;refine .bind (loop i.stops.l.length 0 (-1) (-1) o? (.inl o?) (.inl o?)) fun v hv=>?_;rcases v with v|v;exact .ret (ok _ hv);exact .ite (fun _=> .ret (ok _ hv.1)) fun _=> .ret (ok _ hv.2)
end Xr
set_option maxHeartbeats 1000000
def QP{α:Type}(s:Sl α):Nat:=if s.nil=s.l.isEmpty then 0 else 1000000000000000000
theorem dD{α:Type}:QP (⟨true,[]⟩:Sl α)=0:=rfl
theorem Zk{α:Type}(x:α)(l:List α):QP (⟨false,x::l⟩:Sl α)=0:=rfl
theorem JV{α:Type}(l:List α):QP (⟨l.isEmpty,l⟩:Sl α)=0:=by simp[QP]
def qO:List Nat->Nat
 |[]=>0
 |a::r=>a+qO r
theorem bH: ∀a b:List Nat,qO (a++b)=qO a+qO b
 |[],b=>by simp[qO]
 |x::a,b=>by simp only[List.cons_append,qO,bH a b];omega
theorem Mt: ∀{l:List Nat}{x:Nat},x∈l->x<=qO l
 |y::l,x,h=>by simp only[qO];rcases U?.1 h with rfl|h;omega;have:=Mt h;omega
theorem zZ{α:Type}{f:α->Nat}(hf: ∀a,1<=f a): ∀l:List α,l.length<=qO (l.map f)
 |[]=>by simp[qO]
 |a::l=>by have:=zZ hf l;have:=hf a;simp only[s?,qO,g?];omega
theorem kc{α:Type}(f:α->Nat)(l:List α)(a:α):qO ((l++[a]).map f)=qO (l.map f)+f a:=by rw[Y!,bH];simp[qO]
theorem xK{α:Type}{f:α->Nat}{l:List α}{a:α}(h:a∈l):f a<=qO (l.map f):=Mt (List.mem_map.2 ⟨a,h,rfl⟩)
theorem Q3{α:Type}(f:α->Nat): ∀(l:List α)(i:Nat)(a x:α),l[i]? =some x->qO ((l.set i a).map f)+f x=qO (l.map f)+f a
 |y::l,0,a,x,h=>by simp only[List.getElem?_cons_zero,kG]at h;subst h;simp only[List.set_cons_zero,s?,qO];omega
 |y::l,i+1,a,x,h=>by simp only[List.getElem?_cons_succ]at h;have:=Q3 f l i a x h;simp only[List.set_cons_succ,s?,qO];omega
def om(f:zs):Nat:=1+f.l9.length+f.Qv.length
theorem ZK(x:zs):1<=om x:=by unfold om;omega
theorem Wp(w:Int):qJ (sK w) (fun r=>r.length<=20):=by unfold sK;repeat' (first|(refine .tI ?_ ?_<;>intro hT)|exact .ret (by decide))
theorem NB(s:qa)(hs:s.length<=BN)(e:Int)(h0:0<=e)(h1:e+1<s.length)(t f:zs): ∀(m:Nat)(w:Int),m=(6-w).toNat->1<=w->
  qJ (gD (s,e,w,t,f)) (fun r=> ∀y,r= .inl y->e<y.1/\y.1<=s.length/\om y.2.2.1=om f/\y.2.1=true):=by unfold BN at hs;intro m;induction m using r? with|_ m ih=>intro w hm h2;rw[gD.eq_1];have:= @Wp;exact tW
theorem KB(s:qa)(hs:s.length<=BN)(qo:Int)(h0:0<=qo)(h1:qo<s.length)(c:Bool):qJ (tC s qo c) (fun r=>r=true->qo+1<s.length):=by unfold BN at hs;unfold tC;exact tW
theorem H6(s:qa)(hs:s.length<=BN)(stop:UInt8): ∀(m:Nat)(qo:Int)(b:List UInt8),m=(s.length-qo).toNat->0<=qo->qo<=s.length->b.length<=BN->(b.length:Int)<=qo->
  qJ (ui (s,qo,stop,b)) (fun r=>qo<=r.1/\r.1<=s.length/\(r.2.length:Int)+qo<=b.length+r.1):=by unfold BN at hs;intro m;induction m using r? with|_ m ih=>intro qo b hm h0 h1 hb hb2;rw[ui.eq_1];have:= @KB;exact tW
theorem eT(s:qa)(hs:s.length<=BN)(qo:Int)(h0:0<=qo)(h1:qo<=s.length)(stop:UInt8):
  qJ (hJ s qo stop) (fun r=>r.2.2=true->qo<=r.2.1/\r.2.1<s.length/\(r.1.length:Int)+qo<=r.2.1):=by unfold hJ;have:= @H6;exact tW
set_option maxHeartbeats 2000000 in
theorem TH(s:qa)(hs:s.length<=BN)(qo:Int)(h0:0<=qo)(h1:qo<s.length):
  qJ (fC s qo) (fun r=>r.2.2=true->qo+1<r.2.1/\r.2.1<=s.length/\(om r.1:Int)+qo+1<=r.2.1):=by have hB:s.length<=8192:=hs;unfold fC;(repeat (first|(rw [qG];rotate_left;omega;omega)|(rw [xC];rotate_left;omega;omega)));refine .bind (ff s hs (qo+1) o? o?) fun v hv=>?_;refine .tI ?_ ?_<;>intro hT;have hc:=hT;have:=hv.2.2 hc;exact .ret fun _=>⟨u?,u?,by simp only[om,e?];omega⟩;refine .tI ?_ ?_<;>intro hT;exact .ret z?;refine .bind .get fun b hb=>?_;refine .tI ?_ ?_<;>intro hT;exact .ret z?;refine .bind (ff s hs (qo+2) o? o?) fun w hw=>?_;refine .tI ?_ ?_<;>intro hT;exact .ret z?;have hc:=hT;have SC:=hw.2.2 (by simpa using hc.1);refine .bind .get fun b2 hb2=>?_;(repeat (first|(rw [qG];rotate_left;omega;omega)|(rw [xC];rotate_left;omega;omega)));refine .tI ?_ ?_<;>intro hT;exact .ret fun _=>⟨u?,u?,by simp only[om,e?];omega⟩;refine .tI ?_ ?_<;>intro hT;exact .ret z?;refine .bind .get fun b3 hb3=>?_;refine .tI ?_ ?_<;>intro hT;refine .bind (NB s hs w.2.1 o? o? _ _ _ 1 rfl o?) fun y hy=>?_;rcases y with y|y;obtain⟨g1,g2,g3,g4⟩:=hy y rfl;refine .ret fun _=>?_;simp only[om,e?]at g3 |-;omega;exact .ret z?;(repeat (first|(rw [qG];rotate_left;omega;omega)|(rw [xC];rotate_left;omega;omega)));refine .tI ?_ ?_<;>intro hT;{refine .bind (eT s hs (w.2.1+2) o? o? 125) fun y hy=>?_;refine .tI ?_ ?_<;>intro hT;exact .ret z?;have hc:=hT;have hy:=hy hc;(repeat (first|(rw [qG];rotate_left;omega;omega)|(rw [xC];rotate_left;omega;omega)));refine .ret fun _=>?_;simp only[om,e?];omega};refine .tI ?_ ?_<;>intro hT;{refine .bind (eT s hs (w.2.1+2) o? o? 58) fun y hy=>?_;refine .tI ?_ ?_<;>intro hT;{have hc:=hT;have hy:=hy hc;(repeat (first|(rw [qG];rotate_left;omega;omega)|(rw [xC];rotate_left;omega;omega)));refine .bind (eT s hs (y.2.1+1) o? o? 125) fun z hz=>?_;refine .tI ?_ ?_<;>intro hT;exact .ret z?;have hc:=hT;have hz:=hz hc;(repeat (first|(rw [qG];rotate_left;omega;omega)|(rw [xC];rotate_left;omega;omega)));refine .ret fun _=>?_;simp only[om];omega};exact .ret z?};refine .tI ?_ ?_<;>intro hT;{refine .bind (eT s hs (w.2.1+2) o? o? 125) fun y hy=>?_;refine .tI ?_ ?_<;>intro hT;exact .ret z?;have hc:=hT;have hy:=hy hc;(repeat (first|(rw [qG];rotate_left;omega;omega)|(rw [xC];rotate_left;omega;omega)));refine .ret fun _=>?_;simp only[om,e?];omega};refine .bind (eT s hs (w.2.1+1) o? o? 125) fun y hy=>?_;refine .tI ?_ ?_<;>intro hT;exact .ret z?;have hc:=hT;have hy:=hy hc;(repeat (first|(rw [qG];rotate_left;omega;omega)|(rw [xC];rotate_left;omega;omega)));refine .ret fun _=>?_;simp only[om,e?];omega
theorem last_eq{α:Type}(l:List α)(a:α):(((l++[a]).length:Int)-1).toNat=l.length:=z?
theorem set_snoc{α:Type}(l:List α)(a b:α):(l++[a]).set l.length b=l++[b]:=z?
theorem RI(c:UInt8)(fs:List zs)(hf:qO (fs.map om)<=4*BN):
  qJ (mO c fs) (fun r=>qO (r.map om)<=qO (fs.map om)+2):=by
 unfold BN at hf;have hl:=zZ ZK fs;have key: ∀z:zs,z.l9=[]->z.Qv=[]->qJ (qh (fs++[z]) (q?.wrap (((fs++[z]).length:Int)-1))) (fun x=>x=z):=by (intro z h1 h2;have:q?.wrap (((fs++[z]).length:Int)-1)=(fs.length:Int):=by rw[qG (by simp only[t?,g?,e?];omega) (by simp only[t?,g?,e?];omega)];simp);rw[this];refine(n_ o? (by simp only[t?,g?,e?];omega)).mono fun x hx=>?_;have:=hx.1;simp at this;exact this.symm
 have snd: ∀(z y:zs),z.l9=[]->z.Qv=[]->y.l9=[c]->y.Qv=[]->qO (((fs++[z]).set (q?.wrap (((fs++[z]).length:Int)-1)).toNat y).map om)<=qO (fs.map om)+2:=by intro z y h1 h2 h3 h4;rw[qG (by simp only[t?,g?,e?];omega) (by simp only[t?,g?,e?];omega),last_eq,set_snoc,kc];simp[om,h3,h4]
 unfold mO;refine .tI ?_ ?_<;>intro hT;refine .zz qA ?_;refine .bind (key _ rfl rfl) fun x hx=>?_;subst hx;refine .zz z? ?_;exact .ret (snd _ _ rfl rfl z? rfl);have e1:q?.wrap ((fs.length:Int)-1)=(fs.length:Int)-1:=qG o? o?;rw[e1];refine .bind .get fun x hx=>?_;have Lg:=xK (f:=om) hx.2;refine .tI ?_ ?_<;>intro hT;refine .zz qA ?_;refine .bind (key _ rfl rfl) fun x hx=>?_;subst hx;refine .zz z? ?_;exact .ret (snd _ _ rfl rfl z? rfl);refine .zz (by simp only[om]at Lg;simp;omega) ?_;refine .ret ?_;have:=Q3 om fs ((fs.length:Int)-1).toNat (zs.mk x.kind x.n x.Y5 (x.l9++[c]) x.Qv) x hx.1;simp only[om,t?,g?,e?]at this |-;have e2:qO (w? (fun f=>1+f.l9.length+f.Qv.length) (fs.set ((fs.length:Int)-1).toNat (zs.mk x.kind x.n x.Y5 (x.l9++[c]) x.Qv)))=qO (w? om (fs.set ((fs.length:Int)-1).toNat (zs.mk x.kind x.n x.Y5 (x.l9++[c]) x.Qv))):=rfl;omega
theorem VK(s:qa)(hs:s.length<=BN): ∀(m:Nat)(qo:Int)(fs:List zs),m=(s.length-qo).toNat->0<=qo->qo<=s.length->(qO (fs.map om):Int)<=2*qo->
  qJ (kU (s,qo,fs)) (fun r=>qo<=r.1/\r.1<=s.length/\(qO (r.2.map om):Int)+2*qo<=qO (fs.map om)+2*r.1):=by have hB:s.length<=8192:=hs;intro m;induction m using r? with|_ m ih=>intro qo fs hm h0 h1 hw;have hl:=zZ ZK fs;rw[kU.eq_1];have:= @RI;have:= @TH;have:= @kc;have:= @KB;exact tW
theorem TT(s:qa)(hs:s.length<=BN)(qo:Int):
  qJ (fB s qo) (fun r=>r.2.2=true->0<=qo/\qo<=r.2.1/\r.2.1<s.length/\(qO (r.1.l.map om):Int)+QP r.1<=2*(r.2.1-qo)):=by unfold fB;refine .tI ?_ ?_<;>intro hT;exact .ret z?;refine .bind (VK s hs _ qo [] rfl o? o? (by simp[qO];omega)) fun v hv=>?_;refine .tI ?_ ?_<;>intro hT;exact .ret z?;refine .ret fun _=>?_;simp only[L?,qO,JV]at hv |-;omega
def gn(r:qV):Nat:=1+r.qI.length+r.to.length
theorem rY(r:qV):1<=gn r:=by unfold gn;omega
mutual
def re:qE->Nat
 |⟨_,c,_,rows,_,_,_,qz⟩=>1+c.length+qO (rows.l.map gn)+QP rows+rxWS qz
def rxWS:Sl qE->Nat
 |⟨z,l⟩=>rxWL l+QP (⟨z,l⟩:Sl qE)
def rxWL:List qE->Nat
 |[]=>0
 |x::r=>re x+rxWL r
end
theorem M9: ∀l:List qE,rxWL l=qO (l.map re)
 |[]=>by simp[rxWL,qO]
 |x::r=>by simp[rxWL,qO,M9 r]
theorem yn(x:qE):re x=1+x.char.length+qO (x.rows.l.map gn)+qO (x.qz.l.map re)+(QP x.rows+QP x.qz):=by cases x with|mk a b c d e f g h=>cases h;simp[re,rxWS,M9];omega
theorem ea(x:qE):1<=re x:=by rw[yn];omega
theorem cB(b:UInt8):qJ (vT b) (fun _=>True):=by unfold vT;repeat' (first|(refine .tI ?_ ?_<;>intro hT)|exact .ret trivial)
theorem HY(s:qa)(hs:s.length<=BN): ∀(m:Nat)(f i:Int)(l:List qa),m=(s.length+1-i).toNat->0<=f->f<i->i<=s.length+1->(l.length:Int)<=f->(∀ c∈l,c.length<=s.length)->
  qJ (zL (s,f,i,l)) (fun r=>r.length<=s.length+1/\ ∀c∈r,c.length<=s.length):=by have hB:s.length<=8192:=hs;intro m;induction m using Nat.strongRecOn with|_ m ih=>(intro f i l hm h0 h1 h2 h3 h4;rw[zL.eq_1];have more:i<=s.length-> ∀r:qa,(r.length:Int)=i-f-> ∀c∈l++[r],c.length<=s.length:=by intro hi r hr c hc;rcases List.mem_append.1 hc with hc|hc;exact h4 c hc;(have:c=r:=by simpa using hc);subst this;omega);refine .tI ?_ ?_<;>intro hT;{refine .tI ?_ ?_<;>intro hT;exact tW;refine .bind .get fun b hb=>?_;refine .bind (cB b) fun v hv=>?_;refine .tI ?_ ?_<;>intro hT;exact tW;(repeat (first|(rw [qG];rotate_left;omega;omega)|(rw [xC];rotate_left;omega;omega)));exact ih _ o? f (i+1) _ rfl o? o? o? o? h4};exact .ret ⟨by show l.length<=_;omega,h4⟩
theorem Ud(s:qa)(hs:s.length<=BN):qJ (yJ s) (fun r=>r.l.length<=s.length+1/\ ∀c∈r.l,c.length<=s.length):=by unfold yJ;have:= @zL.eq_1;have:= @HY;exact tW
theorem Zc(c:qa)(hc:c.length<=BN):qJ (jq c) (fun _=>True):=by unfold jq;refine .tI ?_ ?_<;>intro hT;refine .bind .get fun b hb=>?_;refine .bind (cB b) fun v hv=>?_;have:= @Ud;exact tW;exact .ret trivial
theorem BH: ∀(m:Nat)(i:Int)(b:List UInt8),m=(b.length-i).toNat->0<=i->b.length<=BN->qJ (kS (i,b)) (fun r=>r.length=b.length):=by intro m;induction m using r? with|_ m ih=>intro i b hm h0 hb;have hB:b.length<=8192:=hb;rw[kS.eq_1];exact tW
theorem OE(s:qa)(hs:s.length<=BN):qJ (gB s) (fun r=>r.length=s.length):=by unfold gB;have:= @BH;exact tW
theorem Yz(c:UInt8):qJ (tQ c) (fun r=>qO (r.1.l.map gn)+QP r.1<=12):=by unfold tQ;repeat' (first|(refine .tI ?_ ?_<;>intro hT)|exact .ret (by decide))
theorem KQ(c:qa):qJ (wZ c) (fun r=>r.1.length<=c.length+1/\(r.2=true->0<c.length)):=by
 unfold wZ;refine .tI ?_ ?_<;>intro hT;exact .ret z?;have h0:=hT;have h1:0<c.length:=List.length_pos_iff.2 h0;repeat' (first|(refine .tI ?_ ?_<;>intro hT)|exact .ret ⟨by simp,fun _=>h1⟩)
 refine .bind .get fun b hb=>?_;refine .bind (tA b) fun v hv=>?_;refine .tI ?_ ?_<;>intro hT;exact .ret z?;refine .bind (ma b) fun w hw=>?_;refine .tI ?_ ?_<;>intro hT;exact .ret z?;exact .ret ⟨z?,fun _=>h1⟩
structure Zx (cs:Sl qa):Prop where
 many:cs.l.length<=257
 each: ∀c∈cs.l,c.length<=256
theorem dC{cs:Sl qa}(hc:Zx cs)(b:qd)(h:b.cs=cs)(h0:0<=b.qo):
  qJ (xj b) (fun r=>r.length<=256/\(r≠[]->b.qo<cs.l.length)):=by unfold xj;rw[h];refine .tI ?_ ?_<;>intro hT;exact .ret z?;refine .bind (n_ h0 o?) fun x hx=>?_;exact .ret ⟨hc.each x hx.2,fun _=>o?⟩
theorem V1{cs:Sl qa}(hc:Zx cs)(c:qa)(b:qd)(h:b.cs=cs)(h0:0<=b.qo):
  qJ (qK c b) (fun r=>r.2.cs=cs/\(r.1=true->r.2.qo=b.qo+1/\b.qo<cs.l.length)/\(r.1=false->r.2=b)):=by have hm:=hc.many;unfold qK;exact tW
def pJ(rows:List qV):Prop:= ∀r∈rows,r.qI.length<=300/\r.to.length<=300
theorem pJ.app{a b:List qV}(h1:pJ a)(h2:pJ b):pJ (a++b):=by intro r hr;rcases m?.1 hr with hr|hr;exact h1 r hr;exact h2 r hr
theorem pJ.one{f t:qa}(h1:f.length<=300)(h2:t.length<=300):pJ [qV.mk f t]:=by
 intro r hr;have:r=qV.mk f t:=by simpa using hr
 subst this;exact⟨h1,h2⟩
theorem pJ.light{rows:List qV}(h:qO (rows.map gn)<=300):pJ rows:=by intro r hr;have:=xK (f:=gn) hr;simp only[gn]at this;exact tW
section
variable {cs:Sl qa} (hc:Zx cs)
include hc
theorem N0(b:qd)(h:b.cs=cs)(h0:0<=b.qo)(h1:b.qo<=cs.l.length):
  qJ (vN b) (fun r=>r.2.2.2.cs=cs/\0<=r.2.2.2.qo/\(r.2.2.1=true->b.qo<r.2.2.2.qo/\r.2.2.2.qo<=cs.l.length/\qO (r.1.l.map gn)<=12/\r.2.1.length<=257)):=by
 have hm:=hc.many;unfold vN;refine .bind (dC hc b h h0) fun v hv=>?_;refine .tI ?_ ?_<;>intro hT;exact .ret ⟨h,h0,z?⟩;have h2:=hT;have h3:=hv.2 h2.1;(repeat (first|(rw [qG];rotate_left;omega;omega)|(rw [xC];rotate_left;omega;omega)));refine .tI ?_ ?_<;>intro hT;exact .ret ⟨h,u?,fun _=>⟨u?,u?,by simp[qO],u?⟩⟩;refine .bind (dC hc (qd.mk b.cs (b.qo+1)) h u?) fun w hw=>?_;simp only at hw;(repeat (first|(rw [qG];rotate_left;omega;omega)|(rw [xC];rotate_left;omega;omega)))
 have esc:qJ (wZ w>>=fun vI=>
   some ((⟨true,([]:List qV)⟩:Sl qV),vI.1,vI.2,(qd.mk b.cs (b.qo+1+1))))
   (fun r=>r.2.2.2.cs=cs/\0<=r.2.2.2.qo/\(r.2.2.1=true->b.qo<r.2.2.2.qo/\r.2.2.2.qo<=cs.l.length/\qO (r.1.l.map gn)<=12/\r.2.1.length<=257)):=by
  refine .bind (KQ w) fun y hy=>?_;refine .ret ⟨h,u?,fun VE=>?_⟩;simp only at VE |-;have hy3:=hy.2 VE;have SC:=hw.2 (P! hy3);exact⟨o?,o?,by simp[qO],o?⟩
 have:= @Yz;exact tW
theorem UE(t:qE)(x:qE)(a0:Int): ∀(m:Nat)(b:qd)(rows:List qV),m=(cs.l.length-b.qo).toNat->b.cs=cs->0<=a0->a0<=b.qo->b.qo<=cs.l.length->(qO (rows.map gn):Int)<=600*(b.qo-a0)->pJ rows->
  qJ (zy (b,t,x,rows)) (fun r=>(∀ y,r= .inl y->y.1≠0/\y.2.1.cs=cs)/\
   ∀y,r= .inr y->y.1.cs=cs/\b.qo<y.1.qo/\y.1.qo<=cs.l.length/\(qO (y.2.map gn):Int)<=600*(y.1.qo-a0)/\pJ y.2):=by
 have hm:=hc.many;intro m;induction m using r? with
  |_ m ih=>
   intro b rows L3 h Ee h0 h1 hw hro;have hl:=zZ rY rows;rw[zy.eq_1];refine .bind (V1 hc _ b h o?) fun v hv=>?_;have next: ∀(b2:qd)(M7:List qV),b2.cs=cs->b.qo<b2.qo->b2.qo<=cs.l.length->(qO (M7.map gn):Int)<=600*(b2.qo-a0)->pJ M7->
     qJ (zy (b2,t,x,M7)) (fun r=>(∀ y,r= .inl y->y.1≠0/\y.2.1.cs=cs)/\
      ∀y,r= .inr y->y.1.cs=cs/\b.qo<y.1.qo/\y.1.qo<=cs.l.length/\(qO (y.2.map gn):Int)<=600*(y.1.qo-a0)/\pJ y.2):=by
    intro b2 M7 g1 g2 g3 g4 g5;refine(ih _ o? b2 M7 rfl g1 Ee o? g3 g4 g5).mono fun r hr=>⟨hr.1,fun y hy=>?_⟩;have:=hr.2 y hy;exact⟨this.1,o?,this.2.2.1,this.2.2.2⟩
   refine .tI ?_ ?_<;>intro hT
   ·have Z7:=hT;have e:=hv.2.2 Z7;rw[e];refine .bind (N0 hc b h o? h1) fun w Wa=>?_;refine .tI ?_ ?_<;>intro hT;refine .ret ⟨fun y hy=>?_,fun y hy=>by cases hy⟩;cases hy;exact⟨z?,Wa.1⟩;have df:=hT;obtain⟨g1,g2,g3⟩:=Wa;obtain⟨g3,g4,g5,g6⟩:=g3 df;have T1:=zZ rY w.1.l;refine .tI ?_ ?_<;>intro hT;{refine .tI ?_ ?_<;>intro hT;{exact next _ _ g1 g3 g4 o? hro};refine .zz qA ?_;exact next _ _ g1 g3 g4 (by rw[Y!,bH];omega) (hro.app (pJ.light o?))}
    refine .bind (dC hc w.2.2.2 g1 g2) fun y hy=>?_;have one:qJ (if qg (rows.length+1) 32=true then zy (w.2.2.2,t,x,(rows++[(qV.mk w.2.1 w.2.1)]))else none)
      (fun r=>(∀ y,r= .inl y->y.1≠0/\y.2.1.cs=cs)/\
       ∀y,r= .inr y->y.1.cs=cs/\b.qo<y.1.qo/\y.1.qo<=cs.l.length/\(qO (y.2.map gn):Int)<=600*(y.1.qo-a0)/\pJ y.2):=by
     refine .zz qA ?_;exact next _ _ g1 g3 g4 (by rw[kc];simp only[gn];omega) (hro.app (pJ.one o? o?))
    rw[g1];refine .tI ?_ ?_<;>intro hT;{(repeat (first|(rw [qG];rotate_left;omega;omega)|(rw [xC];rotate_left;omega;omega)));refine .bind .get fun c UX=>?_;refine .tI ?_ ?_<;>intro hT;{refine .bind (N0 hc (qd.mk cs (w.2.2.2.qo+1)) rfl u? u?) fun z hz=>?_;simp only at hz;refine .tI ?_ ?_<;>intro hT;refine .ret ⟨fun y hy=>?_,fun y hy=>by cases hy⟩;cases hy;exact⟨z?,hz.1⟩;have hok2:=hT;obtain⟨k1,k2,k3⟩:=hz;obtain⟨k3,k4,k5,k6⟩:=k3 hok2.1;refine .zz qA ?_;exact next _ _ k1 o? k4 (by rw[kc];simp only[gn];omega) (hro.app (pJ.one o? o?))};exact one};exact one
   have Z7:=hT;obtain⟨g1,g2⟩:=hv.2.1 Z7;refine .ret ⟨fun y hy=>(by cases hy),fun y hy=>?_⟩;cases hy;exact⟨hv.1,u?,u?,u?,hro⟩
end
theorem G6(rows s:Sl qV)(i:Int)(x:qV)(hs:s.l.length<=1000000): ∀(m:Nat)(k:Int),m=k.toNat->0<=k->k<=s.l.length->qJ (uf (rows,s,i,k,x)) (fun r=>0<=r/\r<=s.l.length):=by intro m;induction m using r? with|_ m ih=>intro k hm h0 h1;rw[uf.eq_1];exact tW
theorem G5(rows:Sl qV)(hw:qO (rows.l.map gn)<=1000000)(he: ∀r∈rows.l,r.qI.length<=BN/\r.to.length<=BN): ∀(r:List qV)(k:Nat)(s:Sl qV),rows.l.drop k=r->qO (s.l.map gn)+qO (r.map gn)<=qO (rows.l.map gn)->
  qJ (kX (rows,s,(k:Int))) (fun t=>qO (t.l.map gn)<=qO (rows.l.map gn)):=by have hl:=zZ rY rows.l;intro r;induction r with|nil=>intro k s hk hs;rw[kX.eq_1];have:=vJ hk;refine .tI ?_ ?_<;>intro hT;omega;exact .ret (by simp[qO]at hs;exact hs)|cons x r ih=>intro k s hk hs;obtain⟨h1,h2,h3⟩:=drop_cons hk;have hx:=he x (z7 h1);have T1:=zZ rY s.l;simp only[s?,qO]at hs;rw[kX.eq_1];have e1:q?.wrap ((k:Int)+1)=((k+1:Nat):Int):=dR o?;rw[e1];refine .tI ?_ ?_<;>intro hT;refine .bind (P:=fun y=>y=x) ⟨x,by rw[jg h3];simpa[wx h3]using h1,rfl⟩ fun y hy=>?_;subst hy;refine .bind (Zc _ hx.1) fun v hv=>?_;refine .tI ?_ ?_<;>intro hT;exact ih (k+1) s h2 o?;refine .bind (Zc _ hx.2) fun w SC=>?_;refine .tI ?_ ?_<;>intro hT;exact ih (k+1) s h2 o?;(refine .bind (G6 rows s k y o? _ _ rfl o? o?) fun z hz=>?_;refine .bind (qJ.kQ hz.1 hz.2) fun a ha=>?_;refine .zz qA ?_;refine .zz qA ?_;refine .bind (qJ.mo hz.1 hz.2) fun b hb=>?_;refine .zz (qA v? o?) ?_;refine ih (k+1) _ h2 ?_;have e2:qO (s.l.map gn)=qO (a.map gn)+qO (b.map gn):=by rw[<- bH,<- Y!,ha.1,hb.1,s_]);simp only[Y!,bH,s?,L?,qO];omega;omega
theorem G7(s:Sl qV)(hw:qO (s.l.map gn)<=1000000): ∀(r:List qV)(k:Nat)(out:List qV),s.l.drop k=r->qO (out.map gn)+qO (r.map gn)<=qO (s.l.map gn)->
  qJ (kY (s,(k:Int),out)) (fun t=>qO (t.map gn)<=qO (s.l.map gn)):=by have hl:=zZ rY s.l;intro r;induction r with|nil=>intro k out hk hs;rw[kY.eq_1];have:=vJ hk;refine .tI ?_ ?_<;>intro hT;omega;exact .ret (by simp[qO]at hs;exact hs)|cons x r ih=>intro k out hk hs;obtain⟨h1,h2,h3⟩:=drop_cons hk;have T1:=zZ rY out;simp only[s?,qO]at hs;rw[kY.eq_1];have e1:q?.wrap ((k:Int)+1)=((k+1:Nat):Int):=dR o?;rw[e1];have hg:qJ (qh s.l (k:Int)) (fun y=>y=x):=⟨x,by rw[jg h3];simpa[wx h3]using h1,rfl⟩;refine .tI ?_ ?_<;>intro hT;refine .tI ?_ ?_<;>intro hT;refine .bind hg fun y hy=>?_;subst hy;have e2:q?.wrap ((out.length:Int)-1)=(out.length:Int)-1:=qG o? o?;rw[e2];refine .bind .get fun z hz=>?_;refine .tI ?_ ?_<;>intro hT;(refine ih (k+1) _ h2 ?_;have:=Q3 gn out ((out.length:Int)-1).toNat (qV.mk z.qI (if k8 z.to y.to=true then y.to else z.to)) z hz.1;have e3:gn (qV.mk z.qI (if k8 z.to y.to=true then y.to else z.to))<=gn z+gn y:=by simp only[gn];split<;>omega);omega;refine .zz qA ?_;exact ih (k+1) _ h2 (by rw[kc];omega);refine .bind hg fun y hy=>?_;subst hy;refine .zz qA ?_;exact ih (k+1) _ h2 (by rw[kc];omega);omega
theorem XZ(rows:Sl qV)(hw:qO (rows.l.map gn)<=1000000)(he: ∀r∈rows.l,r.qI.length<=BN/\r.to.length<=BN):qJ (cH rows) (fun t=>qO (t.l.map gn)+QP t<=qO (rows.l.map gn)):=by unfold cH;have h:=G5 rows hw he rows.l 0 (⟨true,[]⟩:Sl qV) rfl (by simp[qO]);rw[show ((0:Nat):Int)=0 from rfl]at h;refine .bind h fun v hv=>?_;exact .bind (G7 v o? v.l 0 [] rfl (by simp[qO])) fun w hw=> .ret (by rw[JV];simp only;omega)
section
variable {cs:Sl qa} (hc:Zx cs)
include hc
theorem DH(b:qd)(h:b.cs=cs)(h0:0<=b.qo)(h1:b.qo<=cs.l.length):
  qJ (uh b) (fun r=>r.2.2.cs=cs/\(r.2.1=0->b.qo<r.2.2.qo/\r.2.2.qo<=cs.l.length/\(re r.1:Int)<=600*(r.2.2.qo-b.qo)+1)):=by
 have hm:=hc.many;unfold uh;refine .bind (V1 hc _ b h h0) fun v hv=>?_;have hb:b.qo<=v.2.qo/\v.2.qo<=cs.l.length:=by cases Z7:v.1;rw[hv.2.2 Z7];omega;have:=hv.2.1 Z7;omega
 refine .bind (UE hc _ _ b.qo _ v.2 [] rfl hv.1 h0 hb.1 hb.2 (by simp[qO];omega) (by intro r hr;cases hr)) fun w hw=>?_;rcases w with y|y;exact tW;obtain⟨g1,g2,g3,g4,g5⟩:=hw.2 y rfl;refine .bind (XZ (⟨y.2.isEmpty,y.2⟩:Sl qV) u? (fun r hr=>by have:=g5 r hr;unfold BN;omega)) fun z hz=>?_;refine .ret ⟨g1,fun _=>⟨u?,g3, ?_⟩⟩;simp only[yn,dD,Zk,JV,e?,L?,qO]at hz |-;omega
theorem Pr(b:qd)(h:b.cs=cs)(h0:0<=b.qo)(h1:b.qo<=cs.l.length):
  qJ (hC b) (fun r=>r.2.2.cs=cs/\(r.2.1=0->b.qo<r.2.2.qo/\r.2.2.qo<=cs.l.length/\re r.1<=300)):=by
 have hm:=hc.many;unfold hC;refine .bind (dC hc b h h0) fun v hv=>?_;refine .bind (OE v (by unfold BN;omega)) fun w hw=>?_;(repeat (first|(rw [qG];rotate_left;omega;omega)|(rw [xC];rotate_left;omega;omega)))
 have esc:qJ (wZ v>>=fun mZ=>
   if(!mZ.2)then
    some ((qE.mk (0:Int) ([]:qa) false (⟨true,([]:List qV)⟩:(Sl qV)) (0:Int) (0:Int) false (⟨true,([]:List qE)⟩:(Sl qE))),(10:Int),b)
   else
    some ((qE.mk (2:Int) mZ.1 false (⟨true,([]:List qV)⟩:(Sl qV)) (0:Int) (0:Int) false (⟨true,([]:List qE)⟩:(Sl qE))),(0:Int),(qd.mk b.cs (b.qo+1))))
   (fun r=>r.2.2.cs=cs/\(r.2.1=0->b.qo<r.2.2.qo/\r.2.2.qo<=cs.l.length/\re r.1<=300)):=by
  refine .bind (KQ v) fun y hy=>?_;refine .tI ?_ ?_<;>intro hT
  ·exact .ret ⟨h,z?⟩
  have hy1:=hT;have VE:=hy.2 hy1;have Ta:=hv.2 (P! VE);refine .ret ⟨h,fun _=>⟨u?,u?, ?_⟩⟩;simp only[yn,dD,Zk,JV,L?,qO];omega
 refine .tI ?_ ?_<;>intro hT;refine .bind .get fun c UX=>?_;refine .bind (Yz c) fun y hy=>?_;refine .tI ?_ ?_<;>intro hT;have Ta:=hv.2 (P! o?);refine .ret ⟨h,fun _=>⟨u?,u?, ?_⟩⟩;simp only[yn,dD,Zk,JV,e?,L?,qO];omega;exact esc;exact esc
theorem JS: ∀(m:Nat)(n k:Int)(b:qd),m=(3-k).toNat->0<=k->b.cs=cs->0<=b.qo->b.qo<=cs.l.length->0<=n->(k=0/\n<1\/k=1/\n<10\/k=2/\n<100\/k=3/\n<1000)->
  qJ (jO (n,k,b)) (fun r=>0<=r.1/\r.1<1000/\k<=r.2.1/\r.2.2.cs=cs/\b.qo<=r.2.2.qo/\r.2.2.qo<=cs.l.length):=by have hm:=hc.many;intro m;induction m using r? with|_ m ih=>intro n k b L3 hk h h0 h1 hn hkn;rw[jO.eq_1];refine .tI ?_ ?_<;>intro hT;{refine .bind (dC hc b h h0) fun v hv=>?_;refine .tI ?_ ?_<;>intro hT;{have Ta:=hv.2 (P! o?);refine .bind .get fun c UX=>?_;refine .bind (ma c) fun w hw=>?_;refine .tI ?_ ?_<;>intro hT;{have Wa:=hT;have SC:=hw Wa;(try simp(disch:=omega) only[qG,xC]);exact(ih _ o? _ (k+1) (qd.mk b.cs (b.qo+1)) rfl o? h u? u? o? o?).mono fun r hr=>by simp only at hr;exact⟨hr.1,hr.2.1,o?,hr.2.2.2.1,o?,hr.2.2.2.2.2⟩};exact .ret ⟨hn,u?,z?,h,z?,h1⟩};exact .ret ⟨hn,u?,z?,h,z?,h1⟩};exact .ret ⟨hn,u?,z?,h,z?,h1⟩
theorem X1(b:qd)(h:b.cs=cs)(h0:0<=b.qo)(h1:b.qo<=cs.l.length):
  qJ (wm b) (fun r=>0<=r.1/\r.1<1000/\r.2.2.cs=cs/\b.qo<=r.2.2.qo/\r.2.2.qo<=cs.l.length):=by unfold wm;have:= @JS;exact tW
end
theorem rep_W(x:qE)(a b:Int)(l:Bool):re (qE.mk (7:Int) ([]:qa) false (⟨true,[]⟩:(Sl qV)) a b l (⟨false,[x]⟩:(Sl qE)))=1+re x:=by rw[yn];simp[qO,dD,Zk]
theorem N3(kind:Int)(xs:Sl qE)(hw:qO (xs.l.map re)<=1000000): ∀(r:List qE)(k:Nat)(l:List qE),xs.l.drop k=r->qO (l.map re)+qO (r.map re)<=qO (xs.l.map re)->
  qJ (wY (kind,xs,(k:Int),l)) (fun t=>qO (t.map re)<=qO (xs.l.map re)):=by have hl:=zZ ea xs.l;intro r;induction r with|nil=>intro k l hk hs;rw[wY.eq_1];have:=vJ hk;exact tW|cons x r ih=>intro k l hk hs;obtain⟨h1,h2,h3⟩:=drop_cons hk;have T1:=zZ ea l;have hl3:=zZ ea x.qz.l;have hx:=yn x;simp only[s?,qO]at hs;rw[wY.eq_1];have:= @bH;have:= @kc;exact tW
theorem N5(kind:Int)(xs:Sl qE)(hw:qO (xs.l.map re)<=1000000):qJ (sI kind xs) (fun t=>qO (t.l.map re)+QP t<=qO (xs.l.map re)):=by unfold sI;exact .bind (N3 kind xs hw xs.l 0 [] rfl (by simp[qO])) fun w hw=> .ret (by rw[JV];simp only;omega)
theorem seq_tot(xs:Sl qE)(hw:qO (xs.l.map re)<=1000000):qJ (ip xs) (fun t=>re t<=1+qO (xs.l.map re)):=by unfold ip;refine .bind (N5 0 xs hw) fun v hv=>?_;refine .tI ?_ ?_<;>intro hT;have:= @xK;exact tW;refine .ret ?_;simp only[yn,dD,Zk,JV,e?,L?,qO];omega
theorem alt_tot(xs:Sl qE)(hw:qO (xs.l.map re)<=1000000):qJ (ij xs) (fun t=>re t<=1+qO (xs.l.map re)):=by unfold ij;refine .bind (N5 1 xs hw) fun v hv=>?_;refine .tI ?_ ?_<;>intro hT;refine .ret ?_;simp only[yn,dD,Zk,JV,e?,L?,qO];omega;refine .tI ?_ ?_<;>intro hT;have:= @xK;exact tW;refine .ret ?_;simp only[yn,dD,Zk,JV,e?,L?,qO];omega
section
variable {cs:Sl qa} (hc:Zx cs)
include hc
theorem jS(c:qa)(b:qd)(h:b.cs=cs)(h0:0<=b.qo)(h1:b.qo<=cs.l.length):
  qJ (qK c b) (fun r=>r.2.cs=cs/\b.qo<=r.2.qo/\r.2.qo<=cs.l.length/\(r.1=true->r.2.qo=b.qo+1)/\(r.1=false->r.2.qo=b.qo)):=by refine(V1 hc c b h h0).mono fun r hr=>?_;cases h2:r.1;exact tW;exact tW
def IC(cs:Sl qa)(x:qE)(a:Int)(r:qE×Int×qd):Prop:=
 r.2.2.cs=cs/\(r.2.1=0->a<=r.2.2.qo/\r.2.2.qo<=cs.l.length/\(re r.1:Int)<=re x+(r.2.2.qo-a))
theorem AX(x:qE)(b:qd)(h:b.cs=cs)(h0:0<=b.qo)(h1:b.qo<=cs.l.length):
  qJ (kz x b) (IC cs x b.qo):=by
 have last: ∀(w:qd)(p q:Int),w.cs=cs->b.qo<w.qo->w.qo<=cs.l.length->qJ (qK ([63]:qa) w>>=fun v5=>
   some ((qE.mk (7:Int) ([]:qa) false (⟨true,[]⟩:(Sl qV)) p q v5.1 (⟨false,[x]⟩:(Sl qE))),(0:Int),v5.2)) (IC cs x b.qo):=by
  intro w p q g1 g2 g3;refine .bind (jS hc _ w g1 o? g3) fun z hz=>?_;refine .ret ⟨hz.1,fun _=>⟨u?,u?, ?_⟩⟩;simp only[rep_W];omega
 unfold kz;refine .bind (jS hc _ b h h0 h1) fun v hv=>?_;refine .tI ?_ ?_<;>intro hT;exact last _ _ _ hv.1 (by have g:=hT;have:=hv.2.2.2.1 g;omega) o?;have g1:=hT;have Z7:=hv.2.2.2.2 g1;refine .bind (jS hc _ v.2 hv.1 o? o?) fun w hw=>?_;refine .tI ?_ ?_<;>intro hT;exact last _ _ _ hw.1 (by have g:=hT;have:=hw.2.2.2.1 g;omega) o?;have g2:=hT;have Wa:=hw.2.2.2.2 g2;refine .bind (jS hc _ w.2 hw.1 o? o?) fun y hy=>?_;refine .tI ?_ ?_<;>intro hT;exact last _ _ _ hy.1 (by have g:=hT;have:=hy.2.2.2.1 g;omega) o?;have g3:=hT;have hy1:=hy.2.2.2.2 g3;refine .bind (jS hc _ y.2 hy.1 o? o?) fun z hz=>?_;refine .tI ?_ ?_<;>intro hT;have g4:=hT;have hz1:=hz.2.2.2.1 g4;refine .bind (X1 hc z.2 hz.1 o? o?) fun n hn=>?_;refine .tI ?_ ?_<;>intro hT;exact .ret ⟨hn.2.2.1,z?⟩;refine .bind (jS hc _ n.2.2 hn.2.2.1 o? o?) fun k hk=>?_;refine .tI ?_ ?_<;>intro hT;refine .bind (dC hc k.2 hk.1 o?) fun s hs=>?_;refine .tI ?_ ?_<;>intro hT;refine .bind (X1 hc k.2 hk.1 o? o?) fun q hq=>?_;refine .tI ?_ ?_<;>intro hT;exact .ret ⟨hq.2.2.1,z?⟩;refine .bind (jS hc _ q.2.2 hq.2.2.1 o? o?) fun p hp=>?_;refine .tI ?_ ?_<;>intro hT;exact .ret ⟨hp.1,z?⟩;exact last _ _ _ hp.1 o? o?;refine .bind (jS hc _ k.2 hk.1 o? o?) fun p hp=>?_;refine .tI ?_ ?_<;>intro hT;exact .ret ⟨hp.1,z?⟩;exact last _ _ _ hp.1 o? o?;refine .bind (jS hc _ k.2 hk.1 o? o?) fun p hp=>?_;refine .tI ?_ ?_<;>intro hT;exact .ret ⟨hp.1,z?⟩;exact last _ _ _ hp.1 o? o?;have g4:=hT;have hz1:=hz.2.2.2.2 g4;exact .ret ⟨hz.1,fun _=>⟨u?,u?,u?⟩⟩
end
def PatQ(cs:Sl qa)(a:Int)(r:qE×Int×qd):Prop:=
 r.2.2.cs=cs/\(r.2.1=0->a<=r.2.2.qo/\r.2.2.qo<=cs.l.length/\(re r.1:Int)<=1000*(r.2.2.qo-a)+2)
def S1(cs:Sl qa)(a:Int)(r:qE×Int×qd):Prop:=
 r.2.2.cs=cs/\(r.2.1=0->a<r.2.2.qo/\r.2.2.qo<=cs.l.length/\(re r.1:Int)<=1000*(r.2.2.qo-a))
theorem KC(k:Int):re (qE.mk k ([]:qa) false (⟨true,([]:List qV)⟩:(Sl qV)) (0:Int) (0:Int) false (⟨true,([]:List qE)⟩:(Sl qE)))=1:=by rw[yn];simp[qO,dD,Zk]
theorem kid_W(k:Int)(x:qE):re (qE.mk k ([]:qa) false (⟨true,[]⟩:(Sl qV)) (0:Int) (0:Int) false (⟨false,[x]⟩:(Sl qE)))=1+re x:=by rw[yn];simp[qO,dD,Zk]
section
variable {cs:Sl qa} (hc:Zx cs) (a0:Int) (Ee:0<=a0)
 (H: ∀(deep:Int)(b:qd),0<=deep->deep<=16->b.cs=cs->a0<b.qo->b.qo<=cs.l.length->qJ (zG (deep,b)) (PatQ cs b.qo))
include hc Ee H
theorem O7(deep:Int)(d0:0<=deep)(d1:deep<=16)(b:qd)(h:b.cs=cs)(h0:a0<=b.qo)(h1:b.qo<=cs.l.length):qJ (ka (deep,b)) (S1 cs b.qo):=by
 have hm:=hc.many;rw[ka.eq_1];refine .bind (jS hc _ b h o? h1) fun v hv=>?_;refine .tI ?_ ?_<;>intro hT;have g:=hT;have:=hv.2.2.2.1 g;exact .ret ⟨hv.1,fun _=>⟨u?,u?,by simp only[KC];omega⟩⟩
 have g:=hT;have Z7:=hv.2.2.2.2 g;refine .bind (jS hc _ v.2 hv.1 o? o?) fun w hw=>?_;have grp: ∀(k:Int)(u:qd),u.cs=cs->b.qo<u.qo->u.qo<=cs.l.length->deep<16->qJ (zG ((q?.wrap (deep+(1:Int))),u)>>=fun vI=>
       if(vI.2.1 != (0:Int))then
        some ((qE.mk (0:Int) ([]:qa) false (⟨true,([]:List qV)⟩:(Sl qV)) (0:Int) (0:Int) false (⟨true,([]:List qE)⟩:(Sl qE))),vI.2.1,vI.2.2)
       else
        qK ([41]:qa) vI.2.2>>=fun th=>
        if(!th.1)then
         some ((qE.mk (0:Int) ([]:qa) false (⟨true,([]:List qV)⟩:(Sl qV)) (0:Int) (0:Int) false (⟨true,([]:List qE)⟩:(Sl qE))),(10:Int),th.2)
        else
         some ((qE.mk k ([]:qa) false (⟨true,[]⟩:(Sl qV)) (0:Int) (0:Int) false (⟨false,[vI.1]⟩:(Sl qE))),(0:Int),th.2)) (S1 cs b.qo):=by
  intro k u g1 g2 g3 g4
  (repeat (first|(rw [qG];rotate_left;omega;omega)|(rw [xC];rotate_left;omega;omega)))
  refine .bind (H (deep+1) u o? o? g1 o? g3) fun y hy=>?_;refine .tI ?_ ?_<;>intro hT
  ·have K4:=hT;exact .ret ⟨hy.1,fun h=>absurd h K4⟩
  have K4:=hT;have VE:=hy.2 K4;refine .bind (jS hc _ y.2.2 hy.1 o? o?) fun z hz=>?_;refine .tI ?_ ?_<;>intro hT
  ·exact .ret ⟨hz.1,z?⟩
  have UX:=hT;have:=hz.2.2.2.1 UX;exact .ret ⟨hz.1,fun _=>⟨u?,u?,by simp only[kid_W];omega⟩⟩
 refine .tI ?_ ?_<;>intro hT;have g:=hT;have Wa:=hw.2.2.2.1 g;refine .tI ?_ ?_<;>intro hT;exact .ret ⟨hw.1,z?⟩;refine .bind (jS hc _ w.2 hw.1 o? o?) fun y hy=>?_;refine .tI ?_ ?_<;>intro hT;refine .bind (jS hc _ y.2 hy.1 o? o?) fun z hz=>?_;refine .tI ?_ ?_<;>intro hT;exact .ret ⟨hz.1,z?⟩;exact grp 6 z.2 hz.1 o? o? o?;exact grp 5 y.2 hy.1 o? o? o?;have g:=hT;have Wa:=hw.2.2.2.2 g;refine .bind (jS hc _ w.2 hw.1 o? o?) fun y hy=>?_;refine .tI ?_ ?_<;>intro hT;have g:=hT;have hy1:=hy.2.2.2.1 g;refine .bind (DH hc y.2 hy.1 o? o?) fun z hz=>?_;refine .ret ⟨hz.1,fun h=>?_⟩;have:=hz.2 h;simp only;omega;have g:=hT;have hy1:=hy.2.2.2.2 g;refine .bind (jS hc _ y.2 hy.1 o? o?) fun z hz=>?_;refine .tI ?_ ?_<;>intro hT;have g:=hT;have hz1:=hz.2.2.2.1 g;refine .bind (Pr hc z.2 hz.1 o? o?) fun u hu=>?_;refine .ret ⟨hu.1,fun h=>?_⟩;have:=hu.2 h;simp only;omega;have g:=hT;have hz1:=hz.2.2.2.2 g;refine .bind (dC hc z.2 hz.1 o?) fun s hs=>?_;refine .tI ?_ ?_<;>intro hT;exact .ret ⟨hz.1,z?⟩;by_cases hn:s=[];refine .bind (o:=jq s) (P:=fun r=>r=false) ⟨false,by rw[hn];unfold jq;simp,rfl⟩ fun p hp=>?_;subst hp;exact .ret ⟨hz.1,z?⟩;refine .bind (Zc s (by unfold BN;omega)) fun p hp=>?_;refine .tI ?_ ?_<;>intro hT;exact .ret ⟨hz.1,z?⟩;have:=hs.2 hn;(repeat (first|(rw [qG];rotate_left;omega;omega)|(rw [xC];rotate_left;omega;omega)));refine .ret ⟨hz.1,fun _=>⟨u?,u?, ?_⟩⟩;simp only[yn,dD,Zk,JV,L?,qO];omega
theorem term_tot(deep:Int)(d0:0<=deep)(d1:deep<=16)(b:qd)(h:b.cs=cs)(h0:a0<=b.qo)(h1:b.qo<=cs.l.length):qJ (vO (deep,b)) (S1 cs b.qo):=by
 have hm:=hc.many;rw[vO.eq_1];refine .bind (jS hc _ b h o? h1) fun v hv=>?_;refine .tI ?_ ?_<;>intro hT;have g:=hT;have:=hv.2.2.2.1 g;exact .ret ⟨hv.1,fun _=>⟨u?,u?,by simp only[KC];omega⟩⟩;have g:=hT;have Z7:=hv.2.2.2.2 g;refine .bind (jS hc _ v.2 hv.1 o? o?) fun w hw=>?_;refine .tI ?_ ?_<;>intro hT;have g:=hT;have:=hw.2.2.2.1 g;exact .ret ⟨hw.1,fun _=>⟨u?,u?,by simp only[KC];omega⟩⟩
 have g:=hT;have Wa:=hw.2.2.2.2 g;have at1:qJ (ka (deep,w.2)>>=fun v26=>
     if(v26.2.1 != (0:Int))then
      some ((qE.mk (0:Int) ([]:qa) false (⟨true,([]:List qV)⟩:(Sl qV)) (0:Int) (0:Int) false (⟨true,([]:List qE)⟩:(Sl qE))),v26.2.1,v26.2.2)
     else
      kz v26.1 v26.2.2>>=fun v29=>
      some (v29.1,v29.2.1,v29.2.2)) (S1 cs b.qo):=by
  refine .bind (O7 hc a0 Ee H deep d0 d1 w.2 hw.1 o? o?) fun y hy=>?_;refine .tI ?_ ?_<;>intro hT
  ·have K4:=hT;exact .ret ⟨hy.1,fun h=>absurd h K4⟩
  have K4:=hT;have VE:=hy.2 K4;refine .bind (AX hc y.1 y.2.2 hy.1 o? o?) fun z hz=>?_;refine .ret ⟨hz.1,fun h=>?_⟩;have:=hz.2 h;simp only;omega
 refine .bind (dC hc w.2 hw.1 o?) fun s hs=>?_;rw[hw.1];refine .tI ?_ ?_<;>intro hT;{(repeat (first|(rw [qG];rotate_left;omega;omega)|(rw [xC];rotate_left;omega;omega)));refine .bind .get fun c UX=>?_;refine .tI ?_ ?_<;>intro hT;exact .ret ⟨rfl,fun _=>⟨u?,u?,by simp only[KC];omega⟩⟩;refine .tI ?_ ?_<;>intro hT;exact .ret ⟨rfl,fun _=>⟨u?,u?,by simp only[KC];omega⟩⟩;exact at1};exact at1
end
section
variable {cs:Sl qa} (hc:Zx cs) (a0:Int) (Ee:0<=a0)
 (H: ∀(deep:Int)(b:qd),0<=deep->deep<=16->b.cs=cs->a0<b.qo->b.qo<=cs.l.length->qJ (zG (deep,b)) (PatQ cs b.qo))
include hc Ee H
theorem TK(deep:Int)(d0:0<=deep)(d1:deep<=16)(t:qE)(alts:List qE)(a1:Int)(oL:0<=a1): ∀(m:Nat)(b:qd)(sk:List qE),m=(cs.l.length-b.qo).toNat->b.cs=cs->a0<=b.qo->a1<=b.qo->b.qo<=cs.l.length->
  (qO (sk.map re):Int)<=1000*(b.qo-a1)->qJ (xq (deep,b,t,alts,sk)) (fun r=>(∀ y,r= .inl y->y.1≠0/\y.2.1.cs=cs)/\
   ∀y,r= .inr y->y.1.cs=cs/\b.qo<=y.1.qo/\y.1.qo<=cs.l.length/\(qO (y.2.map re):Int)<=1000*(y.1.qo-a1)):=by
 have hm:=hc.many;intro m;induction m using r? with
  |_ m ih=>
   intro b sk L3 h h0 h1 h2 hw;have hl:=zZ ea sk;rw[xq.eq_1];have stop:qJ (some (Sum.inr (b,sk):(Int×qd×qE×(List qE))⊕(qd×(List qE)))) (fun r=>(∀ y,r= .inl y->y.1≠0/\y.2.1.cs=cs)/\
     ∀y,r= .inr y->y.1.cs=cs/\b.qo<=y.1.qo/\y.1.qo<=cs.l.length/\(qO (y.2.map re):Int)<=1000*(y.1.qo-a1)):=by
    refine .ret ⟨fun y hy=>(by cases hy),fun y hy=>?_⟩;cases hy;exact⟨h,z?,h2,hw⟩
   rw[h];refine .tI ?_ ?_<;>intro hT;refine .bind (dC hc b h o?) fun s hs=>?_;refine .tI ?_ ?_<;>intro hT;refine .tI ?_ ?_<;>intro hT;refine .bind (term_tot hc a0 Ee H deep d0 d1 b h h0 h2) fun y hy=>?_;refine .tI ?_ ?_<;>intro hT;have K4:=hT;refine .ret ⟨fun z hz=>?_,fun z hz=>by cases hz⟩;cases hz;exact⟨K4,hy.1⟩;have K4:=hT;have VE:=hy.2 K4;refine .zz qA ?_;refine(ih _ o? y.2.2 _ rfl hy.1 o? o? o? (by rw[kc];omega)).mono fun r hr=>⟨hr.1,fun z hz=>?_⟩;have:=hr.2 z hz;exact⟨this.1,o?,this.2.2.1,this.2.2.2⟩;exact stop;exact stop;exact stop
theorem TJ(deep:Int)(d0:0<=deep)(d1:deep<=16)(t:qE): ∀(m:Nat)(b:qd)(alts:List qE),m=(cs.l.length-b.qo).toNat->b.cs=cs->a0<=b.qo->b.qo<=cs.l.length->
  (qO (alts.map re):Int)<=1000*(b.qo-a0)->qJ (xp (deep,b,t,alts)) (fun r=>(∀ y,r= .inl y->y.1≠0/\y.2.1.cs=cs)/\
   ∀y,r= .inr y->y.2.1.cs=cs/\a0<=y.2.1.qo/\y.2.1.qo<=cs.l.length/\(re y.2.2:Int)<=1000*(y.2.1.qo-a0)+2):=by have hm:=hc.many;intro m;induction m using r? with|_ m ih=>intro b alts L3 h h0 h2 hw;have hl:=zZ ea alts;rw[xp.eq_1];refine .bind (TK hc a0 Ee H deep d0 d1 t alts b.qo o? _ b [] rfl h h0 o? h2 (by simp[qO])) fun v hv=>?_;rcases v with y|y;have:=hv.1 y rfl;refine .ret ⟨fun z hz=>?_,fun z hz=>by cases hz⟩;cases hz;exact this;obtain⟨g1,g2,g3,g4⟩:=hv.2 y rfl;refine .bind (seq_tot (⟨y.2.isEmpty,y.2⟩:Sl qE) u?) fun w SC=>?_;simp only at SC;refine .zz qA ?_;refine .bind (jS hc _ y.1 g1 o? g3) fun z hz=>?_;refine .tI ?_ ?_<;>intro hT;have K4:=hT;have hz1:=hz.2.2.2.2 K4;refine .bind (alt_tot (⟨false,(alts++[w])⟩:Sl qE) (by simp only[kc];omega)) fun u hu=>?_;simp only[kc]at hu;refine .ret ⟨fun x hx=>(by cases hx),fun x hx=>?_⟩;cases hx;exact⟨hz.1,u?,u?,u?⟩;have K4:=hT;have hz1:=hz.2.2.2.1 K4;exact ih _ o? z.2 _ rfl hz.1 o? o? (by rw[kc];omega)
end
theorem pat_tot{cs:Sl qa}(hc:Zx cs): ∀(m:Nat)(deep:Int)(b:qd),m=(cs.l.length-b.qo).toNat->0<=deep->deep<=16->b.cs=cs->0<=b.qo->b.qo<=cs.l.length->qJ (zG (deep,b)) (PatQ cs b.qo):=by intro m;induction m using r? with|_ m ih=>intro deep b L3 d0 d1 h h0 h1;rw[zG.eq_1];refine .bind (TJ hc b.qo h0 (fun d2 b2 e1 e2 e3 e4 e5=>ih _ o? d2 b2 rfl e1 e2 e3 o? e5) deep d0 d1 _ _ b [] rfl h o? h1 (by simp[qO])) fun v hv=>?_;rcases v with y|y;have:=hv.1 y rfl;exact .ret ⟨this.2,fun h=>absurd h this.1⟩;obtain⟨g1,g2,g3,g4⟩:=hv.2 y rfl;exact .ret ⟨g1,fun _=>⟨g2,g3,g4⟩⟩
theorem TR(s:qa):qJ (fq s) (fun r=>r.2=0->s.length<=256/\re r.1<=1000*s.length+1002):=by unfold fq;refine .tI ?_ ?_<;>intro hT;exact .ret z?;refine .bind (Ud s (by unfold BN;omega)) fun v hv=>?_;have hc:Zx v:=⟨o?,fun c h=>by have:=hv.2 c h;omega⟩;refine .bind (pat_tot hc _ 0 (qd.mk v 0) rfl o? o? rfl z? z?) fun w hw=>?_;refine .tI ?_ ?_<;>intro hT;exact .ret z?;refine .tI ?_ ?_<;>intro hT;have h:=hT;exact .ret fun h2=>absurd h2 h;have h:=hT;have:=hw.2 h;refine .ret fun _=>⟨o?, ?_⟩;simp only at this |-;omega
def vq(f:zn):Nat:=re f.rx+qO (f.wo.l.map om)+QP f.wo
theorem Hz(s:qa)(hs:s.length<=BN)(t:zn): ∀(m:Nat)(k:Int)(b:List UInt8),m=(s.length-k).toNat->0<=k->k<=s.length->(b.length:Int)<=k->
  qJ (vu (s,k,t,b)) (fun r=>k<=r.1/\r.1<=s.length/\(r.2.length:Int)<=b.length+(r.1-k)):=by have hB:s.length<=8192:=hs;intro m;induction m using r? with|_ m ih=>intro k b hm h0 h1 hb;rw[vu.eq_1];refine .tI ?_ ?_<;>intro hT;{refine .bind .get fun c hc=>?_;refine .tI ?_ ?_<;>intro hT;{refine .tI ?_ ?_<;>intro hT;{(repeat (first|(rw [qG];rotate_left;omega;omega)|(rw [xC];rotate_left;omega;omega)));refine .bind .get fun c2 UX=>?_;refine .tI ?_ ?_<;>intro hT;(refine .zz qA ?_;refine .zz (qA v? o?) ?_;exact(ih _ o? (k+1+1) _ rfl o? o? v?).mono fun r hr=>by simp only[t?,g?,e?]at hr;omega);refine .zz qA ?_;exact(ih _ o? (k+1+1) _ rfl o? o? v?).mono fun r hr=>by simp only[t?,g?,e?]at hr;omega};refine .zz qA ?_;(repeat (first|(rw [qG];rotate_left;omega;omega)|(rw [xC];rotate_left;omega;omega)));exact(ih _ o? (k+1) _ rfl o? o? v?).mono fun r hr=>by simp only[t?,g?,e?]at hr;omega};exact .ret ⟨z?,h1,u?⟩};exact .ret ⟨z?,h1,u?⟩
theorem HA(s:qa)(hs:s.length<=BN)(t:zn)(l:List UInt8)(x:qE): ∀(m:Nat)(e:Int)(f:zn),m=(s.length-e).toNat->0<=e->
  qJ (vw (s,e,t,l,x,f)) (fun r=>(∀ y,r= .inl y->y.2.1=false)/\ ∀y,r= .inr y->e<=y.1/\vq y.2=vq f):=by have hB:s.length<=8192:=hs;intro m;induction m using r? with|_ m ih=>(intro e f hm h0;rw[vw.eq_1];have stop:qJ (some (Sum.inr (e,f):(Int×Bool×Int×zn×zn)⊕(Int×zn))) (fun r=>(∀ y,r= .inl y->y.2.1=false)/\ ∀y,r= .inr y->e<=y.1/\vq y.2=vq f):=by refine .ret ⟨fun y hy=>(by cases hy),fun y hy=>?_⟩;cases hy;exact⟨z?,rfl⟩);(have go: ∀f2:zn,e<s.length->vq f2=vq f->qJ (vw (s,e+1,t,l,x,f2)) (fun r=>(∀ y,r= .inl y->y.2.1=false)/\ ∀y,r= .inr y->e<=y.1/\vq y.2=vq f):=by intro f2 he hf;exact(ih _ o? (e+1) f2 rfl o?).mono fun r hr=>⟨hr.1,fun y hy=>by have:=hr.2 y hy;exact⟨o?,this.2.trans hf⟩⟩);refine .tI ?_ ?_<;>intro hT;{refine .bind .get fun c hc=>?_;(repeat (first|(rw [qG];rotate_left;omega;omega)|(rw [xC];rotate_left;omega;omega)));refine .tI ?_ ?_<;>intro hT;{refine .tI ?_ ?_<;>intro hT;exact go _ o? rfl;(repeat (first|(rw [qG];rotate_left;omega;omega)|(rw [xC];rotate_left;omega;omega)));refine .tI ?_ ?_<;>intro hT;exact go _ o? rfl;refine .ret ⟨fun y hy=>?_,fun y hy=>by cases hy⟩;cases hy;rfl};exact stop};exact stop
theorem NL(s:qa)(hs:s.length<=BN)(qo:Int):
  qJ (cL s qo) (fun r=>r.2.2=true->0<=qo/\qo<r.2.1/\r.2.1<s.length/\(vq r.1:Int)<=1000*(r.2.1-qo)):=by have hB:s.length<=8192:=hs;unfold cL;refine .tI ?_ ?_<;>intro hT;exact .ret z?;refine .bind .get fun c hc=>?_;refine .tI ?_ ?_<;>intro hT;exact .ret z?;(repeat (first|(rw [qG];rotate_left;omega;omega)|(rw [xC];rotate_left;omega;omega)));refine .bind (Hz s hs _ _ (qo+1) [] rfl o? o? v?) fun v hv=>?_;simp only[e?]at hv;refine .tI ?_ ?_<;>intro hT;exact .ret z?;refine .bind (TR v.2) fun w hw=>?_;refine .tI ?_ ?_<;>intro hT;exact .ret z?;have K4:=hT;have SC:=hw K4;(repeat (first|(rw [qG];rotate_left;omega;omega)|(rw [xC];rotate_left;omega;omega)));refine .bind (TT s hs (v.1+1)) fun y hy=>?_;refine .tI ?_ ?_<;>intro hT;exact .ret z?;have UX:=hT;have VE:=hy UX;(repeat (first|(rw [qG];rotate_left;omega;omega)|(rw [xC];rotate_left;omega;omega)));refine .bind (HA s hs _ _ _ _ (y.2.1+1) _ rfl o?) fun z hz=>?_;rcases z with z|z;(have:=hz.1 z rfl;exact .ret fun h=>by simp only[this]at h;cases h);obtain⟨g1,g2⟩:=hz.2 z rfl;refine .tI ?_ ?_<;>intro hT;exact .ret z?;refine .ret fun _=>?_;simp only[g2];simp only[vq];omega
def Eu(s:qa):Nat:=1+s.length
mutual
def pO:qC->Nat
 |⟨_,t,_,_,_,f,o,qz⟩=>1+t.length+vq f+qO (o.l.map Eu)+snWS qz
def snWS:Sl qC->Nat
 |⟨_,l⟩=>snWL l
def snWL:List qC->Nat
 |[]=>0
 |x::r=>pO x+snWL r
end
theorem Mh: ∀l:List qC,snWL l=qO (l.map pO)
 |[]=>by simp[snWL,qO]
 |x::r=>by simp[snWL,qO,Mh r]
theorem nG(x:qC):pO x=1+x.text.length+vq x.qR+qO (x.opts.l.map Eu)+qO (x.qz.l.map pO):=by cases x with|mk a b c d e f g h=>cases h;simp[pO,snWS,Mh]
theorem cf(x:qC):1<=pO x:=by rw[nG];omega
theorem Hj(x:qa):1<=Eu x:=by unfold Eu;omega
theorem QW(s:qa)(hs:s.length<=BN)(qo:Int)(h0:0<=qo)(h1:qo<s.length)(c:Bool):qJ (tD s qo c) (fun r=>r=true->qo+1<s.length):=by have hB:s.length<=8192:=hs;unfold tD;refine .bind (n_ h0 h1) fun b hb=>?_;refine .tI ?_ ?_<;>intro hT;exact .ret z?;(repeat (first|(rw [qG];rotate_left;omega;omega)|(rw [xC];rotate_left;omega;omega)));refine .bind .get fun b2 hb2=>?_;repeat' (first|(refine .tI ?_ ?_<;>intro hT)|exact .ret (fun _=>by omega))
theorem Nv(s:qa)(hs:s.length<=BN)(w:List qC)(es:List Int)(a1:Int)(oL:0<=a1): ∀(m:Nat)(qo:Int)(l:List qa)(t:List UInt8),m=(s.length-qo).toNat->a1<=qo->qo<=s.length->(qO (l.map Eu)+t.length:Int)<=qo-a1->
  qJ (xY (qo,s,w,es,l,t)) (fun r=>qo<=r.1/\r.1<=s.length/\(qO (r.2.1.map Eu)+r.2.2.length:Int)<=r.1-a1):=by have hB:s.length<=8192:=hs;intro m;induction m using r? with|_ m ih=>intro qo l t hm h0 h1 hw;have hl:=zZ Hj l;rw[xY.eq_1];refine .tI ?_ ?_<;>intro hT;{refine .bind .get fun c hc=>?_;refine .tI ?_ ?_<;>intro hT;{refine .tI ?_ ?_<;>intro hT;{refine .zz qA ?_;(repeat (first|(rw [qG];rotate_left;omega;omega)|(rw [xC];rotate_left;omega;omega)));exact(ih _ o? (qo+1) _ _ rfl o? o? (by rw[kc];simp only[Eu,e?];omega)).mono fun r hr=>⟨o?,hr.2.1,hr.2.2⟩};refine .bind (QW s hs qo o? o? true) fun v hv=>?_;refine .tI ?_ ?_<;>intro hT;{have K4:=hT;have:=hv K4;(repeat (first|(rw [qG];rotate_left;omega;omega)|(rw [xC];rotate_left;omega;omega)));refine .bind .get fun c2 UX=>?_;refine .zz qA ?_;(repeat (first|(rw [qG];rotate_left;omega;omega)|(rw [xC];rotate_left;omega;omega)));exact(ih _ o? (qo+1+1) _ _ rfl o? o? v?).mono fun r hr=>⟨o?,hr.2.1,hr.2.2⟩};refine .zz qA ?_;(repeat (first|(rw [qG];rotate_left;omega;omega)|(rw [xC];rotate_left;omega;omega)));exact(ih _ o? (qo+1) _ _ rfl o? o? v?).mono fun r hr=>⟨o?,hr.2.1,hr.2.2⟩};exact .ret ⟨z?,h1,hw⟩};exact .ret ⟨z?,h1,hw⟩
theorem q0g(s:qa)(hs:s.length<=BN)(w:List qC)(es:List Int)(qo:Int)(h0:0<=qo)(h1:qo<=s.length):
  qJ (gb qo s w es) (fun r=>r.2>=0->qo<=r.2/\r.2<s.length/\(qO (r.1.l.map Eu):Int)<=r.2-qo+1):=by have hB:s.length<=8192:=hs;unfold gb;refine .bind (Nv s hs w es qo h0 _ qo [] [] rfl o? h1 (by simp[qO])) fun v hv=>?_;have hl:=zZ Hj v.2.1;refine .tI ?_ ?_<;>intro hT;exact .ret z?;refine .zz qA ?_;refine .ret fun _=>⟨u?,u?, ?_⟩;simp only[kc,Eu];omega
theorem N1(l:Sl qC)(hw:qO (l.l.map pO)<=100000000): ∀(r:List qC)(k:Nat)(out:List qC),l.l.drop k=r->qO (out.map pO)+qO (r.map pO)<=qO (l.l.map pO)->
  qJ (jJ (l,(k:Int),out)) (fun t=>qO (t.map pO)<=qO (l.l.map pO)):=by have hl:=zZ cf l.l;intro r;induction r with|nil=>intro k out hk hs;rw[jJ.eq_1];have:=vJ hk;refine .tI ?_ ?_<;>intro hT;omega;exact .ret (by simp[qO]at hs;exact hs)|cons x r ih=>(intro k out hk hs;obtain⟨h1,h2,h3⟩:=drop_cons hk;have T1:=zZ cf out;simp only[s?,qO]at hs;rw[jJ.eq_1];have e1:q?.wrap ((k:Int)+1)=((k+1:Nat):Int):=dR o?;rw[e1];have hg:qJ (qh l.l (k:Int)) (fun y=>y=x):=⟨x,by rw[jg h3];simpa[wx h3]using h1,rfl⟩;have put:qJ (if qg (out.length+1) 224=true then jJ (l,((k+1:Nat):Int),(out++[x]))else none) (fun t=>qO (t.map pO)<=qO (l.l.map pO)):=by refine .zz qA ?_;exact ih (k+1) _ h2 (by rw[kc];omega));refine .tI ?_ ?_<;>intro hT;refine .bind hg fun y hy=>?_;subst hy;refine .tI ?_ ?_<;>intro hT;refine .tI ?_ ?_<;>intro hT;exact ih (k+1) _ h2 o?;refine .tI ?_ ?_<;>intro hT;have e2:q?.wrap ((out.length:Int)-1)=(out.length:Int)-1:=qG o? o?;rw[e2];refine .bind .get fun z hz=>?_;refine .tI ?_ ?_<;>intro hT;have hz2:=xK (f:=pO) hz.2;have hzw:=nG z;have hyw:=nG y;refine .zz o? ?_;refine ih (k+1) _ h2 ?_;have:=Q3 pO out ((out.length:Int)-1).toNat (qC.mk z.kind (z.text++y.text) z.n z.has z.qL z.qR z.opts z.qz) z hz.1;have e3:=nG (qC.mk z.kind (z.text++y.text) z.n z.has z.qL z.qR z.opts z.qz);simp only[t?]at e3;omega;exact put;exact put;exact put;omega
theorem Lw(l:Sl qC)(hw:qO (l.l.map pO)<=100000000):qJ (fG l) (fun t=>qO (t.l.map pO)<=qO (l.l.map pO)):=by unfold fG;have h:=N1 l hw l.l 0 [] rfl (by simp[qO]);rw[show ((0:Nat):Int)=0 from rfl]at h;refine .bind h fun v hv=>?_;exact .ret hv
theorem RJ(t:qa):pO (qC.mk (0:Int) t (0:Int) false false (zn.mk (qE.mk (0:Int) ([]:qa) false (⟨true,[]⟩:(Sl qV)) (0:Int) (0:Int) false (⟨true,[]⟩:(Sl qE))) (⟨true,[]⟩:(Sl zs)) false false) (⟨true,[]⟩:(Sl qa)) (⟨true,[]⟩:(Sl qC)))=2+t.length:=by rw[nG];simp[vq,yn,dD,Zk,qO];omega
structure Uo (s:qa) (w:List qC) (es:List Int):Prop where
 lw:w.length=s.length
 le:es.length=s.length
 ok: ∀(p:Nat)(e:Int)(x:qC),es[p]? =some e->0<e->w[p]? =some x->(p:Int)<e/\e<=s.length/\(pO x+2:Int)<=1000*(e-p)
def Xq(s:qa)(a1 qo:Int)(r:Int×List qC×List UInt8):Prop:=qo<=r.1/\r.1<=s.length/\(qO (r.2.1.map pO)+r.2.2.length:Int)<=1000*(r.1-a1)
theorem Hu(s:qa)(hs:s.length<=BN)(w:List qC)(es:List Int)(hS:Uo s w es)(br:Bool)(a1:Int)(oL:0<=a1): ∀(m:Nat)(qo:Int)(l:List qC)(t:List UInt8),m=(s.length-qo).toNat->a1<=qo->qo<=s.length->(qO (l.map pO)+t.length:Int)<=1000*(qo-a1)->
  qJ (zj (qo,br,s,w,es,l,t)) (Xq s a1 qo):=by
 have hB:s.length<=8192:=hs;intro m;induction m using r? with
  |_ m ih=>
   intro qo l t hm h0 h1 hw;have hl:=zZ cf l;have stop:qJ (some (qo,l,t)) (Xq s a1 qo):= .ret ⟨z?,h1,hw⟩;have go: ∀(a2:Int)(l2:List qC)(t2:List UInt8),qo<a2->a2<=s.length->(qO (l2.map pO)+t2.length:Int)<=1000*(a2-a1)->qJ (zj (a2,br,s,w,es,l2,t2)) (Xq s a1 qo):=by intro a2 l2 t2 g1 g2 g3;exact(ih _ o? a2 l2 t2 rfl o? g2 g3).mono fun r hr=>⟨by have:=hr.1;omega,hr.2.1,hr.2.2⟩
   have two:qo<s.length-> ∀e:Int,es[qo.toNat]? =some e->0<e-> ∀f:qC,pO f=2+t.length->qJ (qh w qo>>=fun J0=>
        if qg (l.length+2) 224=true then
         zj (e,br,s,w,es,(l++[f,J0]),([]:List UInt8))
        else none) (Xq s a1 qo):=by
    intro xQ e he h2 f hf;refine .bind (n_ o? (by have:=hS.lw;omega)) fun x hx=>?_;obtain⟨g1,g2,g3⟩:=hS.ok qo.toNat e x he h2 hx.1;refine .zz qA ?_;refine go e _ _ o? g2 ?_;simp only[Y!,s?,L?,bH,qO,e?,hf];omega
   have text:qo<s.length-> ∀c:UInt8,qJ (if qg (t.length+1) 1=true then zj ((q?.wrap (qo+(1:Int))),br,s,w,es,l,(t++[c]))else none) (Xq s a1 qo):=by intro xQ c;refine .zz qA ?_;(repeat (first|(rw [qG];rotate_left;omega;omega)|(rw [xC];rotate_left;omega;omega)));exact go (qo+1) _ _ o? o? v?
   have esc:qo+1<s.length->qJ (qh s (q?.wrap (qo+(1:Int)))>>=fun b16=>
         if qg (t.length+1) 1=true then
          zj ((q?.wrap ((q?.wrap (qo+(1:Int)))+(1:Int))),br,s,w,es,l,(t++[b16]))
         else none) (Xq s a1 qo):=by
    intro xQ
    (repeat (first|(rw [qG];rotate_left;omega;omega)|(rw [xC];rotate_left;omega;omega)))
    refine .bind .get fun c hc=>?_;refine .zz qA ?_
    (repeat (first|(rw [qG];rotate_left;omega;omega)|(rw [xC];rotate_left;omega;omega)))
    exact go (qo+1+1) _ _ o? o? v?
   rw[zj.eq_1];refine .tI ?_ ?_<;>intro hT;have xQ:=hT;refine .tI ?_ ?_<;>intro hT;refine .bind .get fun c hc=>?_;refine .tI ?_ ?_<;>intro hT;refine .bind (n_ o? (by have:=hS.le;omega)) fun e he=>?_;refine .tI ?_ ?_<;>intro hT;have h2:=hT;exact two xQ e he.1 h2 _ (RJ t);refine .bind (QW s hs qo o? o? false) fun v hv=>?_;refine .tI ?_ ?_<;>intro hT;have h3:=hT;exact esc (hv h3);exact text xQ c;exact stop;refine .bind (n_ o? (by have:=hS.le;omega)) fun e he=>?_;refine .tI ?_ ?_<;>intro hT;have h2:=hT;exact two xQ e he.1 h2 _ (RJ t);refine .bind (QW s hs qo o? o? false) fun v hv=>?_;refine .tI ?_ ?_<;>intro hT;have h3:=hT;exact esc (hv h3);refine .bind .get fun c hc=>?_;exact text xQ c;exact stop
theorem YL(s:qa)(hs:s.length<=BN)(w:List qC)(es:List Int)(hS:Uo s w es)(qo:Int)(h0:0<=qo)(h1:qo<=s.length)(br:Bool):
  qJ (wI qo br s w es) (fun r=>(r.2>=0->qo<=r.2/\r.2<=s.length/\(br=true->r.2<s.length)/\(qO (r.1.l.map pO):Int)<=1000*(r.2-qo)+2)/\(br=false->0<=r.2)):=by have hB:s.length<=8192:=hs;unfold wI;refine .bind (Hu s hs w es hS br qo h0 _ qo [] [] rfl o? h1 (by simp[qO])) fun v hv=>?_;obtain⟨g1,g2,g3⟩:=hv;have hl:=zZ cf v.2.1;have:= @Lw;have:= @kc;have:= @RJ;exact tW
structure HeadQ (s:qa) (qo:Int) (r:qC×Int×Bool):Prop where
 lt:qo<r.2.1
 le:r.2.1<=s.length
 text:(r.1.text.length:Int)<=r.2.1-qo
 qR:vq r.1.qR=1
 opts:r.1.opts.l=[]
 qz:r.1.qz.l=[]
theorem BR(s:qa)(hs:s.length<=BN)(w:List qC)(es:List Int)(qo:Int)(h0:0<=qo)(h1:qo<=s.length):
  qJ (vR qo s w es) (fun r=>r.2.2=true->HeadQ s qo r):=by unfold vR;refine .bind (ff s hs qo h0 h1) fun v hv=>?_;refine .tI ?_ ?_<;>intro hT;have hc:=hT;have:=hv.2.2 hc;exact .ret fun _=>⟨u?,u?,by simp only[e?];omega,by simp[vq,yn,dD,Zk,qO],rfl,rfl⟩;refine .bind (Ar s hs w es qo h0 h1) fun y hy=>?_;refine .tI ?_ ?_<;>intro hT;have hc:=hT;have:=hy.2.2.2 hc;exact .ret fun _=>⟨u?,u?,u?,by simp[vq,yn,dD,Zk,qO],rfl,rfl⟩;exact .ret z?
def Xo(s:qa)(qo:Int)(r:qC×Int×Bool):Prop:=r.2.2=true->qo<r.2.1/\r.2.1<=s.length/\(pO r.1+2:Int)<=1000*(r.2.1-qo)
theorem Ps(s:qa)(hs:s.length<=BN)(w:List qC)(es:List Int)(hS:Uo s w es)(qo:Int)(h0:0<=qo)(h1:qo<s.length):qJ (yw qo s w es) (Xo s qo):=by have hB:s.length<=8192:=hs;unfold yw;(repeat (first|(rw [qG];rotate_left;omega;omega)|(rw [xC];rotate_left;omega;omega)));refine .bind (BR s hs w es (qo+1) o? o?) fun v hv=>?_;refine .tI ?_ ?_<;>intro hT;have hc:=hT;obtain⟨g1,g2,g3,g4,g5,g6⟩:=hv hc;refine .ret fun _=>⟨u?,g2, ?_⟩;simp only[nG,g4,g5,g6,L?,qO];omega;refine .tI ?_ ?_<;>intro hT;exact .ret (by simp[Xo]);refine .bind .get fun b hb=>?_;refine .tI ?_ ?_<;>intro hT;exact .ret (by simp[Xo]);(repeat (first|(rw [qG];rotate_left;omega;omega)|(rw [xC];rotate_left;omega;omega)));refine .bind (BR s hs w es (qo+2) o? o?) fun v hv=>?_;refine .tI ?_ ?_<;>intro hT;exact .ret (by simp[Xo]);have hc:=hT;obtain⟨g1,g2,g3,g4,g5,g6⟩:=hv hc.1;refine .bind .get fun c UX=>?_;(repeat (first|(rw [qG];rotate_left;omega;omega)|(rw [xC];rotate_left;omega;omega)));refine .tI ?_ ?_<;>intro hT;refine .ret fun _=>⟨u?,u?, ?_⟩;simp only[nG,g4,g5,g6,L?,qO];omega;(repeat (first|(rw [qG];rotate_left;omega;omega)|(rw [xC];rotate_left;omega;omega)));refine .tI ?_ ?_<;>intro hT;refine .bind (YL s hs w es hS (v.2.1+1) o? o? true) fun y hy=>?_;refine .ret fun h=>?_;simp only[decide_eq_true_eq]at h;obtain⟨k1,k2,k3,k4⟩:=hy.1 h;have:=k3 rfl;simp only;rw[qG o? o?];refine⟨o?,o?, ?_⟩;simp only[nG,g4,g5,L?,qO];omega;refine .tI ?_ ?_<;>intro hT;refine .bind (NL s hs v.2.1) fun y hy=>?_;refine .ret fun h=>?_;obtain⟨k1,k2,k3,k4⟩:=hy h;simp only;rw[qG o? o?];refine⟨o?,o?, ?_⟩;simp only[nG,g5,g6,L?,qO];omega;(repeat (first|(rw [qG];rotate_left;omega;omega)|(rw [xC];rotate_left;omega;omega)));refine .tI ?_ ?_<;>intro hT;{refine .bind (q0g s hs w es (v.2.1+1) o? o?) fun y hy=>?_;refine .ite (fun hT=>?_) fun hT=>?_<;>(try simp only[tfx.down]at hT)<;>(try simp(disch:=omega) only[qG,xC]at hT);{have hc3:=hT;obtain⟨k1,k2,k3⟩:=hy hc3.1;(repeat (first|(rw [qG];rotate_left;omega;omega)|(rw [xC];rotate_left;omega;omega)));refine .bind .get fun d hd=>?_;refine .ret fun h=>⟨u?,u?, ?_⟩;simp only[nG,g4,g6,L?,qO];omega};exact .ret (by simp[Xo])};exact .ret (by simp[Xo])
theorem Uo.set{s:qa}{w:List qC}{es:List Int}(hS:Uo s w es){qo:Int}(h0:0<=qo)(h1:qo<s.length){x:qC}{e:Int}(h:qo<e/\e<=s.length/\(pO x+2:Int)<=1000*(e-qo)):
  Uo s (w.set qo.toNat x) (es.set qo.toNat e) where
 lw:=by simpa using hS.lw
 le:=by simpa using hS.le
 ok:=by intro p e2 x2 h2 h3 h4;rw[List.getElem?_set]at h2 h4;by_cases hp:qo.toNat=p;exact tW;rw[if_neg hp]at h2 h4;exact hS.ok p e2 x2 h2 h3 h4
theorem VL(s:qa)(hs:s.length<=BN): ∀(m:Nat)(qo:Int)(w:List qC)(es:List Int),m=(qo+1).toNat-> -1<=qo->qo<s.length->Uo s w es->
  qJ (yM (s,qo,w,es,s)) (fun r=>Uo s r.1 r.2):=by have hB:s.length<=8192:=hs;intro m;induction m using r? with|_ m ih=>intro qo w es hm h0 h1 hS;rw[yM.eq_1];refine .tI ?_ ?_<;>intro hT;{refine .bind .get fun c hc=>?_;refine .tI ?_ ?_<;>intro hT;{refine .bind (Ps s hs w es hS qo o? h1) fun y hy=>?_;refine .tI ?_ ?_<;>intro hT;{have UX:=hT;refine .bind (n_ o? (by have:=hS.lw;omega)) fun p hp=>?_;refine .bind (n_ o? (by have:=hS.le;omega)) fun q hq=>?_;(repeat (first|(rw [qG];rotate_left;omega;omega)|(rw [xC];rotate_left;omega;omega)));exact ih _ o? (qo-1) _ _ rfl o? o? (hS.set o? h1 (hy UX))};exact tW};exact tW};exact .ret hS
theorem Bz: ∀(n:Nat)(l:Sl qC),qO (l.l.map pO)<=n->n<=100000000->qJ (bX l) (fun r=>0<=r/\r<=n):=by
 intro n;induction n using r? with
 |_ n ih=>
 intro l hl hn;have hlen:=zZ cf l.l;have loop: ∀(r:List qC)(k:Nat)(d:Int),l.l.drop k=r->0<=d->d<=n->qJ (kV (l,d,(k:Int))) (fun r=>0<=r/\r<=n):=by
  intro r;induction r with
  |nil=>
   intro k d hk h1 h2;rw[kV.eq_1];have:=vJ hk;refine .tI ?_ ?_<;>intro hT
   ·omega
   exact .ret ⟨h1,h2⟩
  |cons x r K6=>
   intro k d hk h1 h2;obtain⟨e1,e2,e3⟩:=drop_cons hk;have hx:=xK (f:=pO) (z7 e1);have hxw:=nG x;rw[kV.eq_1];have e4:q?.wrap ((k:Int)+1)=((k+1:Nat):Int):=dR o?;rw[e4];refine .tI ?_ ?_<;>intro hT
   ·refine .bind (P:=fun y=>y=x) ⟨x,by rw[jg e3];simpa[wx e3]using e1,rfl⟩ fun y hy=>?_;subst hy;refine .bind (ih (n-1) o? y.qz o? o?) fun z hz=>?_;refine .tI ?_ ?_<;>intro hT
    ·(repeat (first|(rw [qG];rotate_left;omega;omega)|(rw [xC];rotate_left;omega;omega)))
     exact K6 (k+1) _ e2 (by split<;>omega) (by split<;>omega)
    exact K6 (k+1) _ e2 (by split<;>omega) (by split<;>omega)
   omega
 have h:=loop l.l 0 0 rfl o? o?;rw[show ((0:Nat):Int)=0 from rfl]at h;rw[bX.eq_1];first
 |exact h
 |(refine .bind h fun v hv=>?_;exact .ret hv)
theorem seen_new(s:qa)(x:qC):Uo s (b? s.length x) (b? s.length (0:Int)) where
 lw:=z?
 le:=z?
 ok:=by (intro p e y h1 h2 h3;have:e=0:=by have:=z7 h1;exact(List.mem_replicate.1 this).2);omega
theorem TU(s:qa):qJ (fI s) (fun r=>qO (r.1.l.map pO)<=8192002/\(r.2=0->s.length<=BN)):=by
 unfold fI;refine .tI ?_ ?_<;>intro hT;exact .ret ⟨by simp[qO],z?⟩;have hc:=hT;have hs:s.length<=BN:=by unfold BN;omega
 have e:(s.length:Int).toNat=s.length:=z?;refine .zz o? ?_;rw[e];refine .zz qA ?_;refine .zz o? ?_;refine .zz qA ?_;(repeat (first|(rw [qG];rotate_left;omega;omega)|(rw [xC];rotate_left;omega;omega)));refine .bind (VL s hs _ ((s.length:Int)-1) _ _ rfl o? o? (seen_new s _)) fun v hv=>?_;refine .bind (YL s hs v.1 v.2 hv 0 o? o? false) fun y hy=>?_;obtain⟨k1,k2,_,k4⟩:=hy.1 (hy.2 rfl);refine .bind (Bz 8192002 y.1 o? o?) fun z hz=>?_;refine .tI ?_ ?_<;>intro hT;exact .ret ⟨by simp[qO],fun _=>hs⟩;exact .ret ⟨u?,fun _=>hs⟩
theorem yq{α:Type}{xs:List α}{k:Nat}(h:xs.drop k=[]): ¬((k:Int)<(xs.length:Int)):=by have:=vJ h;omega
theorem wV{α:Type}{xs r:List α}{x:α}{k:Nat}(h:xs.drop k=x::r):(k:Int)<(xs.length:Int)/\qh xs (k:Int)=some x/\xs.drop (k+1)=r/\x∈xs:=by obtain⟨a,b,c⟩:=drop_cons h;refine⟨o?, ?_,b,z7 a⟩;rw[jg c];exact tW
theorem lg{α:Type}{xs:List α}{k:Nat}(hl:xs.length<=9223372036854775807)(h:(k:Int)<(xs.length:Int)):q?.wrap ((k:Int)+1)=((k+1:Nat):Int):=dR o?
theorem wr{n:Int}(h1: -(2^62)<=n)(h2:n<=2^62):q?.wrap n=n:=qG o? o?
theorem Q0{P:qE->Prop}(h: ∀x,(∀ y∈x.qz.l,P y)->P x)(x:qE):P x:=by
 have key: ∀n(x:qE),re x<n->P x:=by intro n;induction n with|zero=>intro x hx;omega|succ n ih=>intro x hx;have:= @xK;have:= @yn;exact tW
 exact key _ x (Nat.lt_succ_self _)
theorem ar(x:qE):x.qz.l.length<re x:=by have:=zZ ea x.qz.l;rw[yn];omega
theorem HR{x y:qE}(h:y∈x.qz.l):re y<re x:=by have:=xK (f:=re) h;rw[yn x];omega
abbrev kO(x:qE):Prop:=re x<=1099511627776
theorem mc{x y:qE}(h:kO x)(hy:y∈x.qz.l):kO y:=by have:=HR hy;unfold kO at *; omega
theorem NC: ∀x:qE,kO x->qJ (uZ x) (fun _=>True):=by
 apply Q0 (P:=fun x=>kO x->qJ (uZ x) (fun _=>True));intro x ih0 hw;have hk:=ar x;have key: ∀(r:List qE)(k:Nat)(n:Int),x.qz.l.drop k=r->qJ (kZ (n,(k:Int),x)) (fun _=>True):=by intro r;induction r with|nil=>intro k n hd;rw[kZ.eq_1,if_neg (by simpa using yq hd)];exact .ret trivial|cons y r ih=>intro k n hd;obtain⟨a1,a2,a3,a4⟩:=wV hd;rw[kZ.eq_1,if_pos (by simpa using a1),lg (by unfold kO at hw;omega) a1];refine .go a2 ?_;exact .bind (ih0 y a4 (mc hw a4)) fun v _=>ih (k+1) _ a3
 rw[uZ.eq_1];exact .bind (key x.qz.l 0 1 rfl) fun v _=> .ret trivial
theorem PH: ∀x:qE,kO x->qJ (bR x) (fun _=>True):=by
 apply Q0 (P:=fun x=>kO x->qJ (bR x) (fun _=>True));intro x ih0 hw;have hk:=ar x;have key: ∀(r:List qE)(k:Nat)(n:Int),x.qz.l.drop k=r->qJ (wX (n,(k:Int),x)) (fun _=>True):=by intro r;induction r with|nil=>intro k n hd;rw[wX.eq_1,if_neg (by simpa using yq hd)];exact .ret trivial|cons y r ih=>intro k n hd;obtain⟨a1,a2,a3,a4⟩:=wV hd;rw[wX.eq_1,if_pos (by simpa using a1),lg (by unfold kO at hw;omega) a1];refine .go a2 ?_;exact .bind (ih0 y a4 (mc hw a4)) fun v _=>ih (k+1) _ a3
 rw[bR.eq_1];refine .bind (key x.qz.l 0 0 rfl) fun v _=>?_;refine .tI ?_ ?_<;>intro hT;exact .ret trivial;exact .ret trivial
mutual
def cZ:qE->Nat
 |⟨k,_,_,_,_,_,_,s⟩=>(if k=5 then 1 else 0)+rxGS s
def rxGS:Sl qE->Nat
 |⟨_,l⟩=>rxGL l
def rxGL:List qE->Nat
 |[]=>0
 |x::r=>cZ x+rxGL r
end
theorem M8: ∀l:List qE,rxGL l=qO (l.map cZ)
 |[]=>by simp[rxGL,qO]
 |x::r=>by simp[rxGL,qO,M8 r]
theorem WH(x:qE):cZ x=(if x.kind=5 then 1 else 0)+qO (x.qz.l.map cZ):=by obtain⟨a,b,c,d,e,f,g,h⟩:=x;obtain⟨u,l⟩:=h;simp[cZ,rxGS,M8]
theorem CY{α:Type}{f g:α->Nat}: ∀{l:List α},(∀ a∈l,f a<=g a)->qO (l.map f)<=qO (l.map g)
 |[],_=>by simp[qO]
 |a::l,h=>by have h1:=h a z?;have h2:=CY (l:=l) fun b hb=>h b (by simp[hb]);simp only[s?,qO];omega
theorem Rp: ∀x:qE,cZ x<=re x:=by apply Q0;intro x ih;have:=CY ih;rw[WH,yn];split<;>omega
theorem eP: ∀x:qE,kO x->jN x=some (cZ x:Int):=by
 apply Q0 (P:=fun x=>kO x->jN x=some (cZ x:Int));intro x ih0 hw;have hk:=ar x;have hp:=Rp x;have key: ∀(r:List qE)(k n:Nat),x.qz.l.drop k=r->n+qO (r.map cZ)<=1099511627776->jI ((n:Int),(k:Int),x)=some ((n+qO (r.map cZ):Nat):Int):=by intro r;induction r with|nil=>intro k n hd _;rw[jI.eq_1,if_neg (by simpa using yq hd)];simp[qO]|cons y r ih=>(intro k n hd hn;obtain⟨a1,a2,a3,a4⟩:=wV hd;simp only[s?,qO]at hn;have e:q?.wrap ((n:Int)+(cZ y:Int))=((n+cZ y:Nat):Int):=by rw[wr o? o?];omega);rw[jI.eq_1];simp only[a1,decide_true,if_true,a2,zJ,qS,ih0 y a4 (mc hw a4),lg (by unfold kO at hw;omega) a1,e];rw[ih (k+1) (n+cZ y) a3 o?];simp only[s?,qO,kG,Int.natCast_inj];omega
 have hg:=WH x;rw[jN.eq_1];unfold kO at hw;by_cases h5:x.kind=5;rw[if_pos h5]at hg;have h:=key x.qz.l 0 1 rfl o?;rw[if_pos (by simp[h5]),show((1:Int),(0:Int),x)=(((1:Nat):Int),((0:Nat):Int),x)from rfl,h];simp[hg];rw[if_neg h5]at hg;have h:=key x.qz.l 0 0 rfl o?;rw[if_neg (by simp[h5]),show((0:Int),(0:Int),x)=(((0:Nat):Int),((0:Nat):Int),x)from rfl,h];simp[hg]
inductive WF:qE->Prop
 |mk (x:qE) (hk: ∀y∈x.qz.l,WF y) (h1:x.kind=5\/x.kind=6\/x.kind=7-> ∃y,x.qz.l=[y]) (h7:x.kind=7-> ∀y∈x.qz.l,2<=y.kind/\y.kind<=6):WF x
theorem WF.qz{x:qE}(h:WF x): ∀y∈x.qz.l,WF y:=by cases h;assumption
theorem WF.one{x:qE}(h:WF x):x.kind=5\/x.kind=6\/x.kind=7-> ∃y,x.qz.l=[y]:=by cases h;assumption
theorem WF.rep{x:qE}(h:WF x):x.kind=7-> ∀y∈x.qz.l,2<=y.kind/\y.kind<=6:=by cases h;assumption
theorem tv(x:qE):qJ (ug x) (fun _=>True):=by unfold ug;refine .tI ?_ ?_<;>intro hT;exact .ret trivial;exact .ret trivial
def Jl(b:UInt8):Bool:=decide ((b.toNat:Int)<128) || decide ((b.toNat:Int)>191)
theorem K8(b:UInt8):vT b=some (Jl b):=by unfold vT Jl;by_cases h:(b.toNat:Int)<128<;>simp[h]
theorem Mo(s:qa)(hl:s.length<=1099511627776): ∀(r:qa)(k f:Nat)(l:List qa),s.drop k=r->k<=s.length->f<=k->l.length<=k->
  ∃out,zL (s,(f:Int),(k:Int),l)=some out/\out.length=l.length+r.countP Jl+1:=by
 have WG: ∀n,n<=1099511627777->qg n 16=true:=by intro n hn;simp only[qg,zQ,decide_eq_true_eq];omega
 intro r;induction r with|nil=>(intro k f l hk pS hf Fa;have h1:=vJ hk;obtain rfl:k=s.length:=o?;have hs:kv s (f:Int) (s.length:Int)=some (s.drop f):=by unfold kv;rw[if_pos v?];simp);rw[zL.eq_1];simp only[Int.le_refl,decide_true,if_true,beq_self_eq_true,hs,zJ,qS,WG _ (show l.length+1<=_ by omega)];rw[zL.eq_1,if_neg (by rw[wr o? o?];simp;omega)];exact⟨_,rfl,z?⟩|cons b r ih=>(intro k f l hk pS hf Fa;obtain⟨a1,a2,a3,_⟩:=wV hk;have h1:((k:Int)<=(s.length:Int)):=o?;have h2:((k:Int)==(s.length:Int))=false:=v?;have hs:kv s (f:Int) (k:Int)=some ((s.take k).drop f):=by unfold kv;rw[if_pos v?];simp);rw[zL.eq_1];simp only[h1,decide_true,if_true,h2,wA,if_false,a2,zJ,qS,K8,lg o? a1];cases hb:Jl b;obtain⟨out,o1,o2⟩:=ih (k+1) f l a3 o? o? o?;exact⟨out,by simpa using o1,by rw[o2];simp[O!,hb]⟩;obtain⟨out,o1,o2⟩:=ih (k+1) k (l++[(s.take k).drop f]) a3 o? o? v?;refine⟨out, ?_,by rw[o2];simp[O!,hb];omega⟩;simp only[if_true,hs,qS,WG _ (show l.length+1<=_ by omega),o1]
theorem oB(c:qa)(hl:c.length<=1099511627776):qJ (jq c) (fun _=>True):=by unfold jq yJ;refine .tI ?_ ?_<;>intro hT;refine .bind .get fun b hb=>?_;refine .go (K8 b) ?_;refine .tI ?_ ?_<;>intro hT;obtain⟨out,o1,o2⟩:=Mo c hl (c.drop 1) 1 0 [] rfl o? o? z?;exact .go (Option.bind_eq_some_iff.2 ⟨out,o1,rfl⟩) (.ret trivial);exact .ret trivial;exact .ret trivial
theorem Rn(rows:Sl qV)(hw:qO (rows.l.map gn)<=1099511627776):qJ (ie rows) (fun _=>True):=by
 have Fa:rows.l.length<=1099511627776:=by have:=zZ rY rows.l;omega
 have key: ∀(r:List qV)(k:Nat),rows.l.drop k=r->qJ (uY (rows,(k:Int))) (fun _=>True):=by intro r;induction r with|nil=>intro k hk;rw[uY.eq_1,if_neg (by simpa using yq hk)];exact .ret trivial|cons x r ih=>(intro k hk;obtain⟨a1,a2,a3,a4⟩:=wV hk;have hx:gn x<=1099511627776:=by have:=xK (f:=gn) a4;omega);have ih:=ih (k+1) a3;unfold gn at hx;rw[uY.eq_1,if_pos (by simpa using a1),lg o? a1];refine .go a2 ?_;refine .bind (oB x.qI o?) fun v _=>?_;refine .tI ?_ ?_<;>intro hT;exact .ret trivial;refine .bind (oB x.to o?) fun w _=>?_;refine .tI ?_ ?_<;>intro hT;exact .ret trivial;refine .tI ?_ ?_<;>intro hT;{(repeat (first|(rw [qG];rotate_left;omega;omega)|(rw [xC];rotate_left;omega;omega)));refine .bind .get fun b hb=>?_;refine .tI ?_ ?_<;>intro hT;exact .ret trivial;exact ih};exact ih
 unfold ie;refine .bind (key rows.l 0 rfl) fun v _=>?_;rcases v with v|v<;>exact .ret trivial
theorem Tp{o:Option (Bool⊕Unit)}{f:Unit->Option Bool}{P:Prop}(h:qJ o (fun v=>v= .inl true->False))(h2:o=some (.inr ())->qJ (f ()) (fun c=>c=true->P)):
  qJ (o>>=fun v=>match v with| .inl y=>some y| .inr y=>f y) (fun c=>c=true->P):=by obtain⟨v,rfl,hv⟩:=h;rcases v with v|v;refine .go rfl (.ret fun hc=>?_);exact absurd (congrArg Sum.inl hc) hv;exact .go rfl (h2 rfl)
theorem He(x:qE)(hl:x.qz.l.length<=9223372036854775807): ∀(r:List qE)(k:Nat),x.qz.l.drop k=r->qJ (bS ((x.qz.l.length:Int),(k:Int),x)) (fun v=>v= .inl true->False):=by intro r;induction r with|nil=>intro k hk;rw[bS.eq_1,if_neg (by simpa using yq hk)];exact .ret z?|cons y r ih=>intro k hk;obtain⟨a1,a2,a3,a4⟩:=wV hk;rw[bS.eq_1,if_pos (by simpa using a1),lg hl a1];refine .go a2 ?_;refine .tI ?_ ?_<;>intro hT;exact .ret z?;refine .tI ?_ ?_<;>intro hT;exact .ret z?;exact ih (k+1) a3
theorem Hf(x:qE)(hl:x.qz.l.length<=9223372036854775807): ∀(r:List qE)(k:Nat),x.qz.l.drop k=r->qJ (bT ((x.qz.l.length:Int),(k:Int),x)) (fun v=>v= .inl true->False):=by intro r;induction r with|nil=>intro k hk;rw[bT.eq_1,if_neg (by simpa using yq hk)];exact .ret z?|cons y r ih=>intro k hk;obtain⟨a1,a2,a3,a4⟩:=wV hk;rw[bT.eq_1,if_pos (by simpa using a1),lg hl a1];refine .go a2 ?_;refine .tI ?_ ?_<;>intro hT;exact .ret z?;exact ih (k+1) a3
theorem HM(x:qE):qJ (rL x) (fun c=>c=true-> ∃y,x.qz.l=[y]/\2<=y.kind/\y.kind<=6):=by unfold rL;refine .tI ?_ ?_<;>intro hT;exact .ret z?;have h1:x.qz.l.length=1:=o?;obtain⟨y,hy⟩:=A_.1 h1;refine .go (a:=y) (by rw[hy];rfl) ?_;refine .bind (tv _) fun v _=>?_;refine .tI ?_ ?_<;>intro hT;refine .tI ?_ ?_<;>intro hT;exact .ret fun _=>⟨y,hy,o?,o?⟩;refine .ret fun h=>⟨y,hy, ?_⟩;simp only[beq_iff_eq]at h;omega;exact .ret z?
theorem G9{x:qE}(hk:x.qz.l=[])(h:x.kind≠5/\x.kind≠6/\x.kind≠7):WF x:= .mk x (by simp[hk]) (fun h2=>o?) (fun h2=>o?)
theorem len_nil{α:Type}{l:List α}(h:(l.length:Int)=0):l=[]:=by cases l with|nil=>rfl|cons _ _=>simp at h;omega
theorem Fy: ∀x:qE,kO x->qJ (pt x) (fun c=>c=true->WF x):=by
 apply Q0 (P:=fun x=>kO x->qJ (pt x) (fun c=>c=true->WF x));intro x ih0 hw;have hk:=ar x;have hx:=yn x;have hl:x.qz.l.length<=9223372036854775807:=by unfold kO at hw;omega
 have key: ∀(r:List qE)(k:Nat),x.qz.l.drop k=r->qJ (yD ((x.qz.l.length:Int),(k:Int),x)) (fun v=>(v= .inl true->False)/\(v= .inr ()-> ∀y∈r,WF y)):=by intro r;induction r with|nil=>intro k hd;rw[yD.eq_1,if_neg (by simpa using yq hd)];exact .ret ⟨z?,z?⟩|cons y r ih=>intro k hd;obtain⟨a1,a2,a3,a4⟩:=wV hd;rw[yD.eq_1,if_pos (by simpa using a1),lg hl a1];refine .go a2 ?_;refine .bind (ih0 y a4 (mc hw a4)) fun v hv=>?_;refine .tI ?_ ?_<;>intro hT;exact .ret ⟨z?,z?⟩;have hv:=hv hT;refine(ih (k+1) a3).mono fun w h=>⟨h.1,fun hw=>?_⟩;intro z hz;rcases U?.1 hz with rfl|hz;exact hv;exact h.2 hw z hz
 have key:=key x.qz.l 0 rfl;rw[show ((0:Nat):Int)=0 from rfl]at key;have e3:=He x hl x.qz.l 0 rfl;have e5:=Hf x hl x.qz.l 0 rfl;rw[show ((0:Nat):Int)=0 from rfl]at e3 e5;unfold kO at hw;rw[pt.eq_1];refine Tp (key.mono fun v h=>h.1) fun hr=>?_;obtain⟨v,Z7,Ta⟩:=key;rw[hr]at Z7;cases Z7;have qz:=Ta.2 rfl;refine .tI ?_ ?_<;>intro hT;have h0:=hT;refine Tp e3 fun _=>?_;refine .bind (tv _) fun v _=>?_;refine .tI ?_ ?_<;>intro hT;exact .ret fun _=> .mk x qz (fun h=>o?) (fun h=>o?);exact .ret z?;refine .tI ?_ ?_<;>intro hT;have h0:=hT;refine Tp e5 fun _=>?_;refine .bind (tv _) fun v _=>?_;refine .tI ?_ ?_<;>intro hT;exact .ret fun _=> .mk x qz (fun h=>o?) (fun h=>o?);exact .ret z?;refine .tI ?_ ?_<;>intro hT;have h0:=hT;refine .bind (tv _) fun v _=>?_;refine .tI ?_ ?_<;>intro hT;have h1:=hT;refine .bind (oB x.char o?) fun v _=>?_;exact .ret fun _=>G9 (len_nil h1.2) o?;exact .ret z?;refine .tI ?_ ?_<;>intro hT;have h0:=hT;refine .bind (tv _) fun v _=>?_;refine .tI ?_ ?_<;>intro hT;refine .ret fun h=>G9 (len_nil (by simpa using h)) o?;exact .ret z?;refine .tI ?_ ?_<;>intro hT;have h0:=hT;refine .bind (tv _) fun v _=>?_;refine .tI ?_ ?_<;>intro hT;have h1:=hT;refine .bind (Rn x.rows o?) fun v _=>?_;exact .ret fun _=>G9 (len_nil h1.2) o?;exact .ret z?;refine .tI ?_ ?_<;>intro hT;have h0:=hT;refine .bind (tv _) fun v _=>?_;refine .tI ?_ ?_<;>intro hT;refine .ret fun h=> .mk x qz (fun _=>?_) (fun h=>o?);exact A_.1 (by simp at h;omega);exact .ret z?;refine .tI ?_ ?_<;>intro hT;have h0:=hT;refine .bind (HM x) fun v hv=>?_;refine .ret fun h=>?_;obtain⟨y,y1,y2⟩:=hv h;refine .mk x qz (fun _=>⟨y,y1⟩) (fun _ z hz=>?_);rw[y1]at hz;simp only[d?]at hz;subst hz;exact y2;exact .ret z?
theorem Xp(x:qE)(hw:kO x):qJ (sH x) (fun c=>c=true->WF x):=by unfold sH;refine .bind (NC x hw) fun v _=>?_;refine .tI ?_ ?_<;>intro hT;refine .bind (PH x hw) fun v _=>?_;refine .tI ?_ ?_<;>intro hT;refine .bind (Fy x hw) fun v hv=>?_;exact .ret hv;exact .ret z?;exact .ret z?
end Go.Proofs.YtoflcafolmmaaaaGreat
